/- Joined by mkmerge.py from the proof's texts Jour0, Jour1, Jour2, Jour3, Jour4. Conditions: each theorem's own hypotheses. -/
import Derived.Test.YtkdmfjpfanmgmaaGreatDoorM30
import Derived.Test.YtkdmfjpfanmgmaaGreatDoorM32
import Derived.Test.YtkdmfjpfanmgmaaGreatDoorM08
import Derived.Recover
import Derived.Defers
import Derived.Deep.RegionHeld3
namespace Go.Proofs.YtkdmfjpfanmgmaaGreatDoor
open Go.RowKit Le Go.Maps
set_option maxRecDepth 100000
set_option linter.unusedSimpArgs false
set_option linter.unusedVariables false
/-! ### Plain. -/
/-- A text as codec lays it. -/
def textB (s : List UInt8) : List UInt8 := low s.length 4 ++ s
/-- A log's bytes; a file of marks. -/
def logB (ss : List (List UInt8)) : List UInt8 := flat (ss.map textB)
def markB (ns : List Nat) : List UInt8 := flat (ns.map fun n => low n 4)
theorem logB_snoc (ss : List (List UInt8)) (s : List UInt8) : logB (ss ++ [s]) = logB ss ++ frameOf (textB s) := by simp [logB, flat_snoc]
theorem markB_snoc (ns : List Nat) (n : Nat) : markB (ns ++ [n]) = markB ns ++ frameOf (low n 4) := by simp [markB, flat_snoc]
theorem laidB_end (l m : List UInt8) : laidB l l.length m = l ++ m := by
  unfold laidB
  rw [List.take_length, List.drop_eq_nil_of_le (by omega), List.append_nil]
/-! ### Small functions. -/
set_option maxHeartbeats 800000 in
theorem jmust_ok (w : World) : Calls Tryz.prog 39 #[.int .i64 0] w fun e w' => e = .returned (.tuple #[]) ∧ w = w' := by
  go_enter Tryz.func39, Tryz.ntmps39
  go_wp2
  go_end0
  exact ⟨rfl, rfl⟩
set_option maxHeartbeats 800000 in
theorem jcaught_idle (p : Addr) (w : World) :
    CallsD Tryz.prog 37 #[.pointer (some p)] .returning w fun e u' w' => e = .returned (.tuple #[]) ∧ u' = .returning ∧ w' = w := by
  refine callsD_of_wpS Tryz.func37 rfl fun c₀ cs hu => ?_
  apply wpS_seq
  apply wpS_region
  simp [wpOpsS, go_sem, recoverD, hu, Tryz.ntmps37, Exit.thenS]
  apply wpS_seq
  apply wpS_region
  simp [wpOpsS, go_sem, recoverD, hu, Tryz.ntmps37, Exit.thenS]
  refine wpS_cond (t := false) (by simp [Act.eval, Array.replicate]) ?_
  simp only [Bool.false_eq_true, if_false]
  refine wpS_of_wp (wp_skip ?_)
  cases c₀
  simp_all [bodyPostS, results]
/-- A journal's cells. -/
def jCs (d : Nat) (name : List UInt8) (log marks mark many safe : Nat) : List Value := [.pointer (some ⟨d, 0, none⟩), .string (text name), .int .i64 log, .int .i64 marks, .int .i64 mark, .int .i64 many, .int .i64 safe]
set_option maxHeartbeats 800000 in
theorem jLen_any {w : World} {j d : Nat} {name : List UInt8} {log marks mark many safe : Nat} (h : Blk w j 96 (jCs d name log marks mark many safe)) :
    Calls Tryz.prog 17 #[.pointer (some ⟨j, 0, none⟩)] w fun e w' => e = .returned (.int .i64 many) ∧ w = w' := by
  unfold jCs at h
  have a5 : w.cell? ⟨j, 5, none⟩ = some (.int .i64 many) := h.cell 5
  clear h
  go_enter Tryz.func17, Tryz.ntmps17
  go_wp2
  go_ret
  exact ⟨rfl, rfl⟩
set_option maxHeartbeats 800000 in
theorem jread_any {w : World} {base d : Nat} {lasts now : FM} {cs : List Chg} (h : DiskAt w base d lasts now cs) (k : List UInt8) (hk : k.length ≤ maxLen) (hl : ∀ l, now.get k = some l → l.length ≤ 1099511627776) :
    Calls Tryz.prog 62 #[.pointer (some ⟨d, 0, none⟩), .string (text k)] w fun e w' => ∃ A c, e = .returned (.slice A ((now.get k).getD []).length c) ∧ ((now.get k).getD []).length ≤ c ∧ c ≤ maxLen ∧ BytesN w' w.heap.size A ((now.get k).getD []) ∧ Below w.heap.size w w' := by
  have h1 := Read_any h k hk hl
  clear h hl
  generalize now.get k = o at *
  go_enter Tryz.func62, Tryz.ntmps62
  go_wp2_with fail
  refine h1.mono ?_
  rintro e w1 ⟨hb, h2⟩
  cases o with
  | none =>
    dsimp only at h2
    subst h2
    go_wp2_with fail
    go_ret
    exact ⟨none, 0, rfl, Nat.le_refl _, by simp [maxLen], BytesN.nil _ _, hb⟩
  | some l =>
    obtain ⟨A, c, rfl, h3, h4, h5⟩ := h2
    have H5 := Lib.hid h5
    clear h5
    go_wp2_with fail
    go_ret
    exact ⟨A, c, rfl, h3, h4, H5.out, hb⟩
end Go.Proofs.YtkdmfjpfanmgmaaGreatDoor
namespace Go.Proofs.YtkdmfjpfanmgmaaGreatDoor
open Go.RowKit Le Go.Maps
set_option maxRecDepth 100000
set_option linter.unusedSimpArgs false
set_option linter.unusedVariables false
theorem jown_base {w : World} {base base' : Nat} {e : TypeId} {size n : Nat} {v : Value} {xs : List Value} (h : w.ownsRow base e size v n xs) (hb : base' ≤ base) : w.ownsRow base' e size v n xs := by
  refine ⟨h.1, ?_⟩
  rcases h.2 with h1 | ⟨g, cap, cur, e1, h2, rest⟩
  · exact .inl h1
  · exact .inr ⟨g, cap, cur, e1, Nat.le_trans hb h2, rest⟩
theorem flat_ge (ls : List (List UInt8)) : ls.length ≤ (flat ls).length := by
  induction ls with
  | nil => exact Nat.le_refl _
  | cons l ls ih => rw [flat_cons]; simp; omega
theorem flat_take_le (ls : List (List UInt8)) (j : Nat) : (flat (ls.take j)).length ≤ (flat ls).length := by
  have : flat ls = flat (ls.take j) ++ flat (ls.drop j) := by
    unfold flat
    rw [← List.flatMap_append, List.take_append_drop]
  rw [this]
  simp
theorem logB_ge (ss : List (List UInt8)) : ss.length ≤ (logB ss).length := by have := flat_ge (ss.map textB); simpa [logB] using this
theorem markB_ge (ns : List Nat) : ns.length ≤ (markB ns).length := by have := flat_ge (ns.map fun n => low n 4); simpa [markB] using this
theorem logB_take_le (ss : List (List UInt8)) (j : Nat) : (logB (ss.take j)).length ≤ (logB ss).length := by have := flat_take_le (ss.map textB) j; rwa [← List.map_take] at this
theorem markB_take_le (ns : List Nat) (j : Nat) : (markB (ns.take j)).length ≤ (markB ns).length := by have := flat_take_le (ns.map fun n => low n 4) j; rwa [← List.map_take] at this
theorem info_tx : (Tryz.prog.info? 9).map (fun i => (i.zero, i.size, i.bytes)) = some (some (.string ⟨#[]⟩), 1, 16) := by kernel_rfl
theorem lists_at {w : World} {base : Nat} {A : Option Addr} {c : Nat} {bs : List (List UInt8)} {n : Nat} (h : Lists w base (OwnB w base) (.slice A n c) bs) {j : Nat} (hj : j < bs.length) :
    ∃ g A3 c3, A = some ⟨g, 0, none⟩ ∧ g < w.heap.size ∧ w.cell? ⟨g, j, none⟩ = some (.slice A3 bs[j].length c3) ∧ Reads w w.heap.size A3 bs[j].length (u8s bs[j]) := by
  obtain ⟨xs, ho, hl, he⟩ := h.own
  rcases ho.2 with ⟨hn, h0⟩ | ⟨g, cap', cur, e, hb, hg, h1, h2, h3, h4⟩
  · omega
  · injection e with e1 e2 e3
    have hB : Blk w g 72 cur.toList := by simpa [Blk] using hg
    have hx : xs[j]? = some (xs[j]'(by omega)) := List.getElem?_eq_getElem _
    obtain ⟨A3, c3, h5, h6⟩ := (he j _ _ hx (List.getElem?_eq_getElem hj)).rd
    refine ⟨g, A3, c3, e1, (Array.getElem?_eq_some_iff.1 hg).1, ?_, h6⟩
    rw [h5] at hx
    have h7 : cur.toList[j]? = some (.slice A3 bs[j].length c3) := by
      rw [← h4, List.getElem?_take] at hx
      split at hx
      · exact hx
      · cases hx
    exact (hB.cell j).trans h7
set_option maxHeartbeats 1600000 in
theorem jrecords_any (A : Option Addr) (c : Nat) (ss : List (List UInt8)) (w : World) (hT : Tab w) (hb : Reads w w.heap.size A (logB ss).length (u8s (logB ss))) (hc : (logB ss).length ≤ c) (hl : (logB ss).length ≤ 1000000) (hs : ∀ s ∈ ss, s.length ≤ 65536) :
    Calls Tryz.prog 63 #[.slice A (logB ss).length c] w fun e w' => ∃ A' c', e = .returned (.tuple #[.slice A' ss.length c', .int .i64 (logB ss).length]) ∧ w'.ownsRow w.heap.size 9 1 (.slice A' ss.length c') ss.length (ss.map fun s => .string (text s)) ∧ Below w.heap.size w w' := by
  have HA := all_any A (logB ss).length c (logB ss) w hT hb hc (by omega)
  have hfl : allOf (logB ss) = ((ss.map textB), (logB ss).length, 0) := allOf_flat (ss.map textB) (fun l hl => by
    obtain ⟨s, h1, rfl⟩ := List.mem_map.1 hl
    have := hs s h1
    simp [textB]; omega)
  rw [hfl] at HA
  have hln : ss.length ≤ 1000000 := Nat.le_trans (logB_ge ss) hl
  obtain ⟨i0, hi0, hz0, hz1, hz2⟩ := info_parts info_tx
  clear hb
  go_enter Tryz.func63, Tryz.ntmps63
  go_wp2_with fail
  refine HA.mono ?_
  rintro e w1 ⟨A1, c1, rfl, hL, hB1⟩
  have HL := Lib.hid hL
  have HB1 := Lib.hid hB1
  have HS := Lib.hid hs
  clear hL hB1 HA hs hT hfl
  go_wp2_with fail
  go_loopw [7, 8, 22] (fun v n i wr => ∃ (j : Nat) (A' : Option Addr) (c' : Nat), j ≤ ss.length ∧ v = .slice A' j c' ∧ n = .int .i64 (logB (ss.take j)).length ∧ i = .int .i64 j ∧ Hid (wr.ownsRow w1.heap.size 9 1 (.slice A' j c') j ((ss.take j).map fun s => .string (text s))) ∧ Hid (Below w1.heap.size w1 wr)) (fun _ _ i _ => ss.length - (intOf i).toNat)
  case atStart => exact ⟨0, none, 0, Nat.zero_le _, rfl, rfl, rfl, Lib.hid (World.ownsRow_nil _ _ _ _), Lib.hid (Below.refl _ _)⟩
  case round =>
    obtain ⟨j, A', c', hj, rfl, rfl, rfl, HO, HB⟩ := hrel
    by_cases hlt : j < ss.length
    · obtain ⟨g, A3, c3, rfl, hg, hcell, hr3⟩ := lists_at (HL.out.below_ HB.out) (j := j) (by simpa using hlt)
      have hsj := HS.out ss[j] (List.getElem_mem hlt)
      have hel : (ss.map textB)[j]'(by simpa using hlt) = textB ss[j] := by simp
      rw [hel] at hcell hr3
      have HSn : Hid (logB (ss.take (j + 1)) = logB (ss.take j) ++ frameOf (textB ss[j])) := Lib.hid (by rw [List.take_succ_eq_append_getElem hlt]; exact logB_snoc _ _)
      have HT1 : Hid (ss.take (j + 1) = ss.take j ++ [ss[j]]) := Lib.hid (List.take_succ_eq_append_getElem hlt)
      have hle : (logB (ss.take j)).length ≤ 1000000 := Nat.le_trans (logB_take_le ss j) hl
      generalize ss[j] = s at *
      have HR3 := Lib.hid hr3
      have hv : num ((textB s).take 4) = s.length := by unfold textB; rw [List.take_left' (by simp), num_low]; omega
      have hbz := HB.out.size
      clear hr3
      go_wp2_with fail
      refine (new_any A3 (textB s).length c3 (textB s) wr HR3.out (by simp [textB]; omega)).mono ?_
      rintro e w2 ⟨r, rfl, hrr, hrd, hb2⟩
      have HRd := Lib.hid hrd
      have HB2 := Lib.hid hb2
      clear hrd hb2
      go_wp2_with fail
      refine (text_ok r (textB s) w2 HRd.out (by simp [textB]) (by rw [hv]; omega) (by rw [hv]; simp [textB])).mono ?_
      rw [hv, show (textB s).drop 4 = s from by unfold textB; exact List.drop_left' (by simp), List.take_length, show (textB s).drop (4 + s.length) = [] from List.drop_eq_nil_of_le (by simp [textB])]
      rintro e w3 ⟨rfl, hrd3, hg3⟩
      have HRd3 := Lib.hid hrd3
      have hb3 : Below wr.heap.size wr w3 := HB2.out.grown hg3 HB2.out.size (fun k hk => by injection hk with hk; omega)
      have HB3 := Lib.hid (HB.out.trans (hb3.mono hbz))
      have HO3 := Lib.hid (HO.out.below_ hb3)
      clear hrd3 hg3 hb3 hv
      go_wp2_with fail
      refine (left_any r _ w3 HRd3.out).mono ?_
      rintro e w4 ⟨rfl, rfl⟩
      go_wp2_with (first | (at_builtin; refine wpList_appN rfl _ _ 83 rfl w1.heap.size 9 i0 _ 1 16 Tryz.underlying83 hi0 hz0 hz1 hz2 rfl (by decide) (.slice A' j c') j _ rfl (HO3.out.alloc _) ⟨w3.heap.size, 0, none⟩ 1 [.string (text s)] rfl rfl (Blk.news (Blk.new w3 9 [.string (text s)])) (by simp [Value.oneCell']) (by unfold maxLen; omega) (by omega) (by have := HB3.out.size; simp; omega) ?_; intro A5 c5 w5 HO5 HG5) | fail)
      go_roundw
      case rel => exact ⟨j + 1, A5, c5, by omega, rfl, (by rw [HSn.out, List.length_append, frameOf_length, show (textB s).length = 4 + s.length from by simp [textB], IntWalk.wrap64_in (8 + ((4 + s.length : Nat) : Int)) (by omega), IntWalk.wrap64_in _ (by omega)]; congr 1), by go_num, Lib.hid (by rw [HT1.out, List.map_append]; exact HO5.out), Lib.hid ((HB3.out.alloc HB3.out.size _).grown HG5.out (by have := HB3.out.size; simp; omega) (own_block_ge HO3.out))⟩
      case measure => simp [intOf]; omega
    · obtain rfl : j = ss.length := by omega
      rw [List.take_length] at *
      go_wp2_with fail
      go_ret2
      exact ⟨A', c', rfl, jown_base HO.out HB1.out.size, HB1.out.trans (HB.out.mono HB1.out.size)⟩
set_option maxHeartbeats 1600000 in
theorem jmarked_any (A : Option Addr) (c : Nat) (ns : List Nat) (w : World) (hT : Tab w) (hb : Reads w w.heap.size A (markB ns).length (u8s (markB ns))) (hc : (markB ns).length ≤ c) (hl : (markB ns).length ≤ 1000000) (hs : ∀ n ∈ ns, n ≤ 1000000000) :
    Calls Tryz.prog 64 #[.slice A (markB ns).length c] w fun e w' => e = .returned (.tuple #[.int .i64 (ns.getLastD 0), .int .i64 (markB ns).length]) ∧ Below w.heap.size w w' := by
  have HA := all_any A (markB ns).length c (markB ns) w hT hb hc (by omega)
  have hfl : allOf (markB ns) = ((ns.map fun n => low n 4), (markB ns).length, 0) := allOf_flat (ns.map fun n => low n 4) (fun l hl => by
    obtain ⟨s, h1, rfl⟩ := List.mem_map.1 hl
    have := hs s h1
    simp)
  rw [hfl] at HA
  have hln : ns.length ≤ 1000000 := Nat.le_trans (markB_ge ns) hl
  obtain ⟨i0, hi0, hz0, hz1, hz2⟩ := info_parts info_u8
  clear hb
  go_enter Tryz.func64, Tryz.ntmps64
  go_wp2_with fail
  refine HA.mono ?_
  rintro e w1 ⟨A1, c1, rfl, hL, hB1⟩
  have HL := Lib.hid hL
  have HB1 := Lib.hid hB1
  have HS := Lib.hid hs
  clear hL hB1 HA hs hT hfl
  go_wp2_with fail
  go_loopw [7, 8, 22] (fun v n i wr => ∃ (j : Nat), j ≤ ns.length ∧ v = .int .i64 ((ns.take j).getLastD 0) ∧ n = .int .i64 (markB (ns.take j)).length ∧ i = .int .i64 j ∧ Hid (Below w1.heap.size w1 wr)) (fun _ _ i _ => ns.length - (intOf i).toNat)
  case atStart => exact ⟨0, Nat.zero_le _, rfl, rfl, rfl, Lib.hid (Below.refl _ _)⟩
  case round =>
    obtain ⟨j, hj, rfl, rfl, rfl, HB⟩ := hrel
    by_cases hlt : j < ns.length
    · obtain ⟨g, A3, c3, rfl, hg, hcell, hr3⟩ := lists_at (HL.out.below_ HB.out) (j := j) (by simpa using hlt)
      have hsj := HS.out ns[j] (List.getElem_mem hlt)
      have hel : (ns.map fun n => low n 4)[j]'(by simpa using hlt) = low ns[j] 4 := by simp
      rw [hel] at hcell hr3
      have HSn : Hid (markB (ns.take (j + 1)) = markB (ns.take j) ++ frameOf (low ns[j] 4)) := Lib.hid (by rw [List.take_succ_eq_append_getElem hlt]; exact markB_snoc _ _)
      have HT1 : Hid (ns.take (j + 1) = ns.take j ++ [ns[j]]) := Lib.hid (List.take_succ_eq_append_getElem hlt)
      have hle : (markB (ns.take j)).length ≤ 1000000 := Nat.le_trans (markB_take_le ns j) hl
      generalize ns[j] = s at *
      have HR3 := Lib.hid hr3
      have hv : num ((low s 4).take 4) = s := by rw [List.take_of_length_le (by simp), num_low]; omega
      have hbz := HB.out.size
      clear hr3
      go_wp2_with fail
      refine (new_any A3 (low s 4).length c3 (low s 4) wr HR3.out (by simp)).mono ?_
      rintro e w2 ⟨r, rfl, hrr, hrd, hb2⟩
      have HRd := Lib.hid hrd
      have HB2 := Lib.hid hb2
      clear hrd hb2
      go_wp2_with fail
      refine (number_ok r (low s 4) w2 HRd.out (by simp) (by rw [hv]; omega)).mono ?_
      rw [hv]
      rintro e w3 ⟨rfl, hrd3, hg3⟩
      have HRd3 := Lib.hid hrd3
      have hb3 : Below wr.heap.size wr w3 := HB2.out.grown hg3 HB2.out.size (fun k hk => by injection hk with hk; omega)
      have HB3 := Lib.hid (HB.out.trans (hb3.mono hbz))
      skip
      clear hrd3 hg3 hb3 hv
      go_wp2_with fail
      refine (left_any r _ w3 HRd3.out).mono ?_
      rintro e w4 ⟨rfl, rfl⟩
      go_wp2_with fail
      go_roundw
      case rel => exact ⟨j + 1, by omega, by rw [HT1.out, List.getLastD_concat], by rw [HSn.out]; simp, by go_num, HB3⟩
      case measure => simp [intOf]; omega
    · obtain rfl : j = ns.length := by omega
      rw [List.take_length] at *
      go_wp2_with fail
      go_ret2
      exact ⟨rfl, HB1.out.trans (HB.out.mono HB1.out.size)⟩
end Go.Proofs.YtkdmfjpfanmgmaaGreatDoor
namespace Go.Proofs.YtkdmfjpfanmgmaaGreatDoor
open Go.RowKit Le Go.Maps
set_option maxRecDepth 100000
set_option linter.unusedSimpArgs false
set_option linter.unusedVariables false
/-- A disk's state. -/
structure DS where
  lasts : FM
  now : FM
  cs : List Chg
/-- What a Sync makes. -/
def SyncS (f : List UInt8) (s s' : DS) : Prop := ∃ pre post, s.cs = pre ++ post ∧ (∀ c ∈ pre, (c.file == f) = false) ∧ (∀ c ∈ post, (c.file == f) = true) ∧ madeOk f (pre ++ post) s.lasts ∧ s' = ⟨made f (pre ++ post) s.lasts, s.now, pre⟩
/-- .. a Remove, if the file is there. -/
def rmS (f : List UInt8) (s : DS) : DS := if (s.now.get f).isSome = true then ⟨s.lasts, s.now.del f, s.cs ++ [.rm f]⟩ else s
/-- States are small. -/
structure Small (s : DS) : Prop where
  cs : s.cs.length ≤ 900
  now : s.now.sum ≤ 500000
def endL : List UInt8 := [0x5f, 0x6c]
def endM : List UInt8 := [0x5f, 0x6d]
theorem text_app (a b : List UInt8) : text a ++ text b = text (a ++ b) := by
  apply ByteArray.ext
  simp [text, ByteArray.data_append]
theorem DiskTo.start {w w1 : World} {base d : Nat} {lasts now : FM} {cs : List Chg} (h : DiskAt w base d lasts now cs) (hb : Below w.heap.size w w1) (hbw : base ≤ w.heap.size) : DiskTo w w1 base d lasts now cs :=
  ⟨h.same (SameD.of_below hb), hb.mono hbw, Keeps.of_below hb (Nat.le_refl _)⟩
theorem DiskTo.trans {w w1 w2 : World} {base d : Nat} {lasts now lasts' now' : FM} {cs cs' : List Chg} (h : DiskTo w w1 base d lasts now cs) (g : DiskTo w1 w2 base d lasts' now' cs') : DiskTo w w2 base d lasts' now' cs' :=
  ⟨g.at_, h.bel.trans g.bel, h.keeps.trans g.keeps⟩
theorem DiskTo.below {w w1 w2 : World} {base d : Nat} {lasts now : FM} {cs : List Chg} (h : DiskTo w w1 base d lasts now cs) (g : Below w1.heap.size w1 w2) (hb : base ≤ w1.heap.size) : DiskTo w w2 base d lasts now cs :=
  ⟨h.at_.same (SameD.of_below g), h.bel.trans (g.mono hb), h.keeps.then_below g⟩
theorem Keeps.then_box {ts : List TypeId} {w w' : World} (h : Keeps ts w w') (u : Value) : Keeps ts w (w'.setCell ⟨w.heap.size, 0, none⟩ u) :=
  ⟨by simpa [World.setCell] using h.size, fun k t hk hn => (Below.heap_setCell w' ⟨w.heap.size, 0, none⟩ u k (by have := hk.lt; dsimp only; omega)).trans (h.block k t hk hn)⟩
set_option maxHeartbeats 1600000 in
theorem Drop_any {w : World} {base d : Nat} {s0 s1 s2 : DS} (h : DiskAt w base d s0.lasts s0.now s0.cs) (hbw : base ≤ w.heap.size) (name : List UInt8) (hn : nameB name = true) (hl : name.length ≤ 8) (hnm : nameB (name ++ endM) = true) (hnl : nameB (name ++ endL) = true)
    (h1 : SyncS (name ++ endM) (rmS (name ++ endM) s0) s1) (h2 : SyncS (name ++ endL) (rmS (name ++ endL) s1) s2) (hs0 : Small s0) (hs1 : Small s1) :
    Calls Tryz.prog 19 #[.pointer (some ⟨d, 0, none⟩), .string (text name)] w fun e w' => e = .returned (.int .i64 0) ∧ DiskTo w w' base d s2.lasts s2.now s2.cs := by
  have H := Lib.hid h
  clear h
  have e1 : text name ++ ⟨#[95, 109]⟩ = text (name ++ endM) := text_app name endM
  have e2 : text name ++ ⟨#[95, 108]⟩ = text (name ++ endL) := text_app name endL
  have hsz : (text name).size = name.length := by simp [text, ByteArray.size]
  go_enter_defers Tryz.func19, Tryz.ntmps19
  go_wp2_with fail
  refine (Name_any name _ (by omega)).mono ?_
  rintro e w1 ⟨rfl, nn, rfl⟩
  rw [hn]
  go_wp2_with fail
  refine at_worldC _ fun W hW => ?_
  obtain ⟨P0, P1, hbW, hsW⟩ : Blk W w.heap.size 39 [.int .i64 0] ∧ Blk W (w.heap.size + 1) 9 [.string (text (name ++ endM)), .string (text (name ++ endL))] ∧ Below w.heap.size w W ∧ W.heap.size = w.heap.size + 1 + 1 := by
    subst hW
    refine ⟨((Blk.new w _ _).drewN nn).alloc _, ?_, ?_, by simp [World.drewN]⟩
    · have h := Blk.new ((w.alloc (.cells #[.int .i64 0] 39)).drewN nn) 9 [.string (text (name ++ endM)), .string (text (name ++ endL))]
      simpa [World.drewN] using h
    · exact (((Below.refl w.heap.size w).alloc (Nat.le_refl _) _).drewN nn).alloc (by simp [World.drewN]) _
  clear hW
  obtain ⟨st, hst0, hst1, hst2⟩ : ∃ st : Nat → DS, st 0 = s0 ∧ st 1 = s1 ∧ st 2 = s2 := ⟨fun j => if j = 0 then s0 else if j = 1 then s1 else s2, rfl, rfl, rfl⟩
  obtain ⟨fl, hfl0, hfl1⟩ : ∃ fl : Nat → List UInt8, fl 0 = name ++ endM ∧ fl 1 = name ++ endL := ⟨fun j => if j = 0 then name ++ endM else name ++ endL, rfl, rfl⟩
  have two : ∀ j, j < 2 → j = 0 ∨ j = 1 := fun j hj => by omega
  have HSY : Hid (∀ j, j < 2 → SyncS (fl j) (rmS (fl j) (st j)) (st (j + 1))) := Lib.hid (fun j hj => by
    rcases two j hj with rfl | rfl
    · rw [hfl0, hst0, hst1]; exact h1
    · rw [hfl1, hst1, hst2]; exact h2)
  have HSM : Hid (∀ j, j < 2 → Small (st j)) := Lib.hid (fun j hj => by
    rcases two j hj with rfl | rfl
    · rw [hst0]; exact hs0
    · rw [hst1]; exact hs1)
  have HNM : Hid (∀ j, j < 2 → nameB (fl j) = true ∧ (fl j).length ≤ 10) := Lib.hid (fun j hj => by
    rcases two j hj with rfl | rfl
    · rw [hfl0]; exact ⟨hnm, by simp [endM]; omega⟩
    · rw [hfl1]; exact ⟨hnl, by simp [endL]; omega⟩)
  have HCL : Hid (∀ (w' : World), Blk w' (w.heap.size + 1) 9 [.string (text (name ++ endM)), .string (text (name ++ endL))] → ∀ j, j < 2 → w'.cell? ⟨w.heap.size + 1, j, none⟩ = some (.string (text (fl j)))) := Lib.hid (fun w' hB j hj => by
    rcases two j hj with rfl | rfl
    · rw [hfl0]; exact hB.cell 0
    · rw [hfl1]; exact hB.cell 1)
  have H0 : Hid (DiskTo w W base d (st 0).lasts (st 0).now (st 0).cs) := Lib.hid (by rw [hst0]; exact DiskTo.start H.out hbW hbw)
  have HE : Hid (st 2 = s2) := Lib.hid hst2
  have R0 := Lib.hid P0
  have R1 := Lib.hid P1
  have HBW := Lib.hid hbW
  clear hst0 hst1 hst2 hfl0 hfl1 two h1 h2 hs0 hs1 hnm hnl P0 P1 hbW
  go_loopw [27] (fun i wr => ∃ j : Nat, j ≤ 2 ∧ i = .int .i64 j ∧ Hid (DiskTo W wr base d (st j).lasts (st j).now (st j).cs)) (fun i _ => 2 - (intOf i).toNat)
  case atStart => exact ⟨0, by omega, rfl, Lib.hid ⟨H0.out.at_, Below.refl _ _, Keeps.refl _ _⟩⟩
  case round =>
    obtain ⟨j, hj, rfl, HD⟩ := hrel
    have hbr : base ≤ wr.heap.size := by have := HD.out.keeps.size; omega
    by_cases hlt : j < 2
    · have hcl := HCL.out wr (R1.out.keeps HD.out.keeps (by decide)) j hlt
      obtain ⟨hnj, hlj⟩ := HNM.out j hlt
      have hsy := HSY.out j hlt
      have hsm := HSM.out j hlt
      generalize fl j = f at *
      generalize st j = s at *
      obtain ⟨s', hs9⟩ : ∃ s', st (j + 1) = s' := ⟨_, rfl⟩
      rw [hs9] at hsy
      have HQ := Lib.hid hs9
      clear hs9
      have HSYj := Lib.hid hsy
      clear hsy
      have hbd : ((s.now.get f).getD []).length ≤ 500000 := Nat.le_trans (FM.get_le_sum f) hsm.now
      go_wp2_with fail
      refine (Read_any HD.out.at_ f (by unfold maxLen; omega) (fun l hg => by rw [hg] at hbd; exact Nat.le_trans hbd (by omega))).mono ?_
      rintro e w2 ⟨hb2, h2⟩
      have HD2 := Lib.hid (HD.out.below hb2 hbr)
      have hbr2 : base ≤ w2.heap.size := Nat.le_trans hbr hb2.size
      clear hb2 hbd
      cases hg : s.now.get f with
      | none =>
        rw [hg] at h2
        dsimp only at h2
        subst h2
        obtain ⟨pre, post, hcs, hp, hq, hok, hs'⟩ := HSYj.out
        have hrm : rmS f s = s := by simp [rmS, hg]
        rw [hrm] at hcs hok hs'
        have hlen : (pre ++ post).length ≤ 1000 := by rw [← hcs]; have := hsm.cs; omega
        have hat := HD2.out.at_
        rw [hcs] at hat
        have HAT := Lib.hid hat
        have HOK := Lib.hid hok
        have HS' := Lib.hid hs'
        clear hat hok hs' hrm hcs
        go_wp2_with fail
        refine (Sync_any HAT.out f (by omega) hbr2 hlen hnj hp hq HOK.out).mono ?_
        rintro e w3 ⟨rfl, h3⟩
        have HD3 : Hid (DiskTo W w3 base d s'.lasts s'.now s'.cs) := Lib.hid (by rw [HS'.out]; exact HD2.out.trans h3)
        clear h3
        go_wp2_with fail
        refine (jmust_ok w3).mono ?_
        rintro e w4 ⟨rfl, rfl⟩
        go_wp2_with fail
        go_roundw
        case rel => exact ⟨j + 1, by omega, by go_num, Lib.hid (by rw [HQ.out]; exact HD3.out)⟩
        case measure => simp [intOf]; omega
      | some l =>
        rw [hg] at h2
        obtain ⟨A, c, rfl, _, _, _⟩ := h2
        obtain ⟨pre, post, hcs, hp, hq, hok, hs'⟩ := HSYj.out
        have hrm : rmS f s = ⟨s.lasts, s.now.del f, s.cs ++ [.rm f]⟩ := by simp [rmS, hg]
        rw [hrm] at hcs hok hs'
        have hlen : (pre ++ post).length ≤ 1000 := by rw [← hcs]; have := hsm.cs; simp; omega
        have HOK := Lib.hid hok
        have HS' := Lib.hid hs'
        have HCS := Lib.hid hcs
        clear hok hs' hrm hcs
        have hsc := hsm.cs
        go_wp2_with fail
        refine (Remove_any HD2.out.at_ f (by omega) hbr2 (by omega) hg).mono ?_
        rintro e w3 ⟨rfl, h3⟩
        have HD3 := Lib.hid (HD2.out.trans h3)
        have hbr3 : base ≤ w3.heap.size := Nat.le_trans hbr2 h3.keeps.size
        clear h3
        go_wp2_with fail
        refine (jmust_ok w3).mono ?_
        rintro e w4 ⟨rfl, rfl⟩
        have hat := HD3.out.at_
        rw [show s.cs ++ [Chg.rm f] = pre ++ post from HCS.out] at hat
        have HAT := Lib.hid hat
        clear hat
        go_wp2_with fail
        refine (Sync_any HAT.out f (by omega) hbr3 hlen hnj hp hq HOK.out).mono ?_
        rintro e w5 ⟨rfl, h5⟩
        have HD5 : Hid (DiskTo W w5 base d s'.lasts s'.now s'.cs) := Lib.hid (by rw [HS'.out]; exact HD3.out.trans h5)
        clear h5
        go_wp2_with fail
        refine (jmust_ok w5).mono ?_
        rintro e w6 ⟨rfl, rfl⟩
        go_wp2_with fail
        go_roundw
        case rel => exact ⟨j + 1, by omega, by go_num, Lib.hid (by rw [HQ.out]; exact HD5.out)⟩
        case measure => simp [intOf]; omega
    · obtain rfl : j = 2 := by omega
      have HBE := Lib.hid (R0.out.keeps HD.out.keeps (by decide))
      have q0 : wr.cell? ⟨w.heap.size, 0, none⟩ = some (.int .i64 0) := HBE.out.cell 0
      have f0 : wr.frozen? ⟨w.heap.size, 0, none⟩ = false := HBE.out.frozen 0
      have HT : Hid (DiskTo w (wr.setCell ⟨w.heap.size, 0, none⟩ (.int .i64 0)) base d s2.lasts s2.now s2.cs) := Lib.hid (by
        have h := HD.out
        rw [HE.out] at h
        have h0 : DiskTo w W base d (st 0).lasts (st 0).now (st 0).cs := H0.out
        have hz := R0.out.lt
        exact ⟨h.at_.same (SameD.set HBE.out.typ (by decide) _), (h0.bel.trans h.bel).setCell hbw _, ((Keeps.of_below HBW.out (Nat.le_refl _)).trans h.keeps).then_box _⟩)
      have h3 : (wr.setCell ⟨w.heap.size, 0, none⟩ (.int .i64 0)).cell? ⟨w.heap.size, 0, none⟩ = some (.int .i64 0) := (HBE.out.set_ 0 (.int .i64 0)).cell 0
      go_wp2_with fail
      refine leaves_cons (f := 37) (args := #[.pointer (some ⟨w.heap.size, 0, none⟩)]) (by simp) (by simp [go_sem]) ?_
      refine (jcaught_idle _ _).mono ?_
      rintro e u' w'' ⟨rfl, rfl, rfl⟩
      generalize wr.setCell ⟨w.heap.size, 0, none⟩ (.int .i64 0) = wE at *
      simp [Leaves, settle, results, Tryz.results19, go_sem, h3]
      exact HT.out
end Go.Proofs.YtkdmfjpfanmgmaaGreatDoor
namespace Go.Proofs.YtkdmfjpfanmgmaaGreatDoor
open Go.RowKit Le Go.Maps
set_option maxRecDepth 100000
set_option linter.unusedSimpArgs false
set_option linter.unusedVariables false
/-- What a call on a journal leaves. -/
structure JTo (w w' : World) (base d j : Nat) (js : List Value) (lasts now : FM) (cs : List Chg) : Prop where
  at_ : DiskAt w' base d lasts now cs
  blk : Blk w' j 96 js
  bel : Below base w w'
  keeps : Keeps [80, 106, 96] w w'
set_option maxHeartbeats 1600000 in
theorem Append_any {w : World} {base d j : Nat} {lasts now : FM} {cs : List Chg} {name : List UInt8} {log marks mark many safe : Nat} (h : DiskAt w base d lasts now cs) (hbw : base ≤ w.heap.size) (hj : Blk w j 96 (jCs d name log marks mark many safe)) (hge : base ≤ j) (hT : Tab w) (hTb : 3 < base)
    (s : List UInt8) (hs : s.length ≤ 60000) (hl : name.length ≤ 8) (hnl : nameB (name ++ endL) = true) (hlog : ((now.get (name ++ endL)).getD []).length = log) (hcs : cs.length ≤ 900) (hsum : now.sum ≤ 900000) (hF : now.length ≤ 15) (hmany : many ≤ 100000) :
    Calls Tryz.prog 29 #[.pointer (some ⟨j, 0, none⟩), .string (text s)] w fun e w' => e = .returned (.int .i64 0) ∧ JTo w w' base d j (jCs d name (log + (12 + s.length)) marks mark (many + 1) safe) lasts (now.put (name ++ endL) (laidB ((now.get (name ++ endL)).getD []) log (frameOf (textB s)))) (cs ++ [.wr (name ++ endL) log (frameOf (textB s))]) := by
  have H := Lib.hid h
  have HJ := Lib.hid hj
  have HT := Lib.hid hT
  have hsz : (text s).size = s.length := by simp [text, ByteArray.size]
  have hsn : (text name).size = name.length := by simp [text, ByteArray.size]
  have e2 : text name ++ ⟨#[95, 108]⟩ = text (name ++ endL) := text_app name endL
  unfold jCs at HJ
  clear h hj hT
  go_enter_defers Tryz.func29, Tryz.ntmps29
  go_wp2_with fail
  refine at_world _ fun W hW => ?_
  have hb0 : Below w.heap.size w W := by
    subst hW
    exact (by repeat (first | with_reducible exact (Below.refl w.heap.size w) | (with_reducible refine Below.setCell ?_ (by dsimp only; (first | omega | (simp; done) | (simp; omega))) _) | (with_reducible refine Below.alloc ?_ (by (first | omega | (simp; done) | (simp; omega))) _) | with_reducible refine Below.drew ?_))
  have hB0 : Blk W w.heap.size 39 [.int .i64 0] := by
    subst hW
    exact Blk.new w _ _
  have hsW : W.heap.size = w.heap.size + 1 := by subst hW; simp
  clear hW
  refine (putText_ok none 0 0 [] (text s) W Reads.none_ (by omega) (by omega)).mono ?_
  rintro e w1 ⟨A1, c1, rfl, hm1⟩
  rw [hsz] at hm1 ⊢
  have hd1 : [] ++ low s.length 4 ++ (text s).data.toList = textB s := by simp [textB, text]
  rw [hd1, show 0 + 4 + s.length = (textB s).length from by simp [textB]] at hm1
  rw [show 0 + 4 + s.length = (textB s).length from by simp [textB]]
  have HR1 := Lib.hid (BytesN.of_made hm1)
  have HB1 := Lib.hid (hb0.trans (hm1.below.mono (by omega)))
  have HX1 := Lib.hid (hB0.below hm1.below hB0.lt)
  have HZ1 : Hid (W.heap.size ≤ w1.heap.size) := Lib.hid hm1.below.size
  have htl : (textB s).length = 4 + s.length := by simp [textB]
  clear hm1 hB0 hb0 hd1
  have q1 : w1.cell? ⟨w.heap.size, 0, none⟩ = some (.int .i64 0) := HX1.out.cell 0
  have f1 : w1.frozen? ⟨w.heap.size, 0, none⟩ = false := HX1.out.frozen 0
  go_wp2_with fail
  have K2 : Keeps [39] w1 (w1.setCell ⟨w.heap.size, 0, none⟩ (.int .i64 0)) := Keeps.set_ HX1.out.typ (by simp) _
  have HR2 := Lib.hid (HR1.out.keeps K2 (by decide))
  have HB2 : Hid (Below w.heap.size w (w1.setCell ⟨w.heap.size, 0, none⟩ (.int .i64 0))) := Lib.hid (HB1.out.setCell (Nat.le_refl _) _)
  have HX2 : Hid (Blk (w1.setCell ⟨w.heap.size, 0, none⟩ (.int .i64 0)) w.heap.size 39 [.int .i64 0]) := Lib.hid (HX1.out.set_ 0 (.int .i64 0))
  clear K2 HR1 HB1 HX1 HZ1 q1 f1
  generalize w1.setCell ⟨w.heap.size, 0, none⟩ (.int .i64 0) = w2 at *
  refine (jmust_ok w2).mono ?_
  rintro e w2' ⟨rfl, rfl⟩
  have hr2 := HR2.out.1
  rw [htl] at hr2
  have hfr := frame_ok A1 (4 + s.length) c1 (textB s) w2 (HT.out.below HB2.out (by omega)) hr2 (by omega)
  have HFR := Lib.hid hfr
  clear hfr hr2
  go_wp2_with fail
  refine HFR.out.mono ?_
  rintro e w3 ⟨A2, c2, rfl, hm2⟩
  have hfl : (frameOf (textB s)).length = 8 + (4 + s.length) := by rw [frameOf_length, htl]
  rw [← hfl] at hm2
  have HR3 := Lib.hid (BytesN.of_made hm2)
  have HB3 := Lib.hid (HB2.out.trans (hm2.below.mono HB2.out.size))
  have HX3 := Lib.hid (HX2.out.below hm2.below HX2.out.lt)
  clear hm2 HR2 HB2 HX2 HFR
  have q3 : w3.cell? ⟨w.heap.size, 0, none⟩ = some (.int .i64 0) := HX3.out.cell 0
  have f3 : w3.frozen? ⟨w.heap.size, 0, none⟩ = false := HX3.out.frozen 0
  go_wp2_with fail
  have K4 : Keeps [39] w3 (w3.setCell ⟨w.heap.size, 0, none⟩ (.int .i64 0)) := Keeps.set_ HX3.out.typ (by simp) _
  have HR4 := Lib.hid (HR3.out.keeps K4 (by decide))
  have HB4 : Hid (Below w.heap.size w (w3.setCell ⟨w.heap.size, 0, none⟩ (.int .i64 0))) := Lib.hid (HB3.out.setCell (Nat.le_refl _) _)
  have HX4 : Hid (Blk (w3.setCell ⟨w.heap.size, 0, none⟩ (.int .i64 0)) w.heap.size 39 [.int .i64 0]) := Lib.hid (HX3.out.set_ 0 (.int .i64 0))
  clear K4 HR3 HB3 HX3 q3 f3
  generalize w3.setCell ⟨w.heap.size, 0, none⟩ (.int .i64 0) = w4 at *
  refine (jmust_ok w4).mono ?_
  rintro e w4' ⟨rfl, rfl⟩
  have HJ4 := Lib.hid (HJ.out.below HB4.out HJ.out.lt)
  have HD4 := Lib.hid (H.out.same (SameD.of_below HB4.out))
  have j0 : w4.cell? ⟨j, 0, none⟩ = some (.pointer (some ⟨d, 0, none⟩)) := HJ4.out.cell 0
  have j1 : w4.cell? ⟨j, 1, none⟩ = some (.string (text name)) := HJ4.out.cell 1
  have j2 : w4.cell? ⟨j, 2, none⟩ = some (.int .i64 log) := HJ4.out.cell 2
  go_wp2_with fail
  refine wp_region_noPanic ?_
  refine wp_region_held_drew (S := fun w' => w'.cell? ⟨j, 0, none⟩ = some (.pointer (some ⟨d, 0, none⟩)) ∧ w'.cell? ⟨j, 1, none⟩ = some (.string (text name)) ∧ w'.cell? ⟨j, 2, none⟩ = some (.int .i64 log)) (by kernel_rfl) ⟨j0, j1, j2⟩ (fun HD => ?_)
  refine wpAnyH_take (i := 0) (oi := ⟨some 28, _, _, _, _, _⟩) (v := (.pointer (some ⟨j, 0, none⟩))) rfl (by kernel_rfl) (by kernel_rfl) (by kernel_rfl) (fun _ _ _ h => h) (Or.inl ⟨by rfl, ?_⟩) HD ?_
  · intro w' hw'
    (go_simp; try with_reducible rfl)
  (try simp only [Act.put, List.setIfInBounds_toArray, List.set_cons_zero, List.set_cons_succ])
  refine wpAnyH_take (i := 1) (oi := ⟨some 29, _, _, _, _, _⟩) (v := (.pointer (some ⟨j, 0, none⟩))) rfl (by kernel_rfl) (by kernel_rfl) (by kernel_rfl) (fun _ _ _ h => h) (Or.inl ⟨by rfl, ?_⟩) HD ?_
  · intro w' hw'
    (go_simp; try with_reducible rfl)
  (try simp only [Act.put, List.setIfInBounds_toArray, List.set_cons_zero, List.set_cons_succ])
  refine wpAnyH_take (i := 2) (oi := ⟨some 30, _, _, _, _, _⟩) (v := (.pointer (some ⟨j, 0, none⟩))) rfl (by kernel_rfl) (by kernel_rfl) (by kernel_rfl) (fun _ _ _ h => h) (Or.inl ⟨by rfl, ?_⟩) HD ?_
  · intro w' hw'
    (go_simp; try with_reducible rfl)
  (try simp only [Act.put, List.setIfInBounds_toArray, List.set_cons_zero, List.set_cons_succ])
  refine wpAnyH_take (i := 3) (oi := ⟨some 31, _, _, _, _, _⟩) (v := (.pointer (some ⟨d, 0, none⟩))) rfl (by kernel_rfl) (by kernel_rfl) (by kernel_rfl) (fun _ _ _ h => h) (Or.inl ⟨by rfl, ?_⟩) HD ?_
  · intro w' hw'
    (go_simp; try with_reducible rfl)
  (try simp only [Act.put, List.setIfInBounds_toArray, List.set_cons_zero, List.set_cons_succ])
  refine wpAnyH_take (i := 4) (oi := ⟨some 32, _, _, _, _, _⟩) (v := (.pointer (some ⟨j, 0, none⟩))) rfl (by kernel_rfl) (by kernel_rfl) (by kernel_rfl) (fun _ _ _ h => h) (Or.inl ⟨by rfl, ?_⟩) HD ?_
  · intro w' hw'
    (go_simp; try with_reducible rfl)
  (try simp only [Act.put, List.setIfInBounds_toArray, List.set_cons_zero, List.set_cons_succ])
  refine wpAnyH_take (i := 5) (oi := ⟨some 33, _, _, _, _, _⟩) (v := (.pointer (some ⟨j, 0, none⟩))) rfl (by kernel_rfl) (by kernel_rfl) (by kernel_rfl) (fun _ _ _ h => h) (Or.inl ⟨by rfl, ?_⟩) HD ?_
  · intro w' hw'
    (go_simp; try with_reducible rfl)
  (try simp only [Act.put, List.setIfInBounds_toArray, List.set_cons_zero, List.set_cons_succ])
  refine wpAnyH_take (i := 6) (oi := ⟨some 34, _, _, _, _, _⟩) (v := (.pointer (some ⟨j, 1, none⟩))) rfl (by kernel_rfl) (by kernel_rfl) (by kernel_rfl) (fun _ _ _ h => h) (Or.inl ⟨by rfl, ?_⟩) HD ?_
  · intro w' hw'
    (go_simp; try with_reducible rfl)
  (try simp only [Act.put, List.setIfInBounds_toArray, List.set_cons_zero, List.set_cons_succ])
  refine wpAnyH_take (i := 7) (oi := ⟨some 35, _, _, _, _, _⟩) (v := (.string (text name))) rfl (by kernel_rfl) (by kernel_rfl) (by kernel_rfl) (fun _ _ _ h => h) (Or.inl ⟨by rfl, ?_⟩) HD ?_
  · intro w' hw'
    (go_simp; try with_reducible rfl)
  (try simp only [Act.put, List.setIfInBounds_toArray, List.set_cons_zero, List.set_cons_succ])
  refine wpAnyH_take (i := 8) (oi := ⟨some 36, _, _, _, _, _⟩) (v := (.string (text (name ++ endL)))) rfl (by kernel_rfl) (by kernel_rfl) (by kernel_rfl) (fun _ _ _ h => h) (Or.inl ⟨by rfl, ?_⟩) HD ?_
  · intro w' hw'
    (go_simp; first | (with_reducible rfl) | omega)
  (try simp only [Act.put, List.setIfInBounds_toArray, List.set_cons_zero, List.set_cons_succ])
  refine wpAnyH_take (i := 9) (oi := ⟨some 37, _, _, _, _, _⟩) (v := (.pointer (some ⟨j, 0, none⟩))) rfl (by kernel_rfl) (by kernel_rfl) (by kernel_rfl) (fun _ _ _ h => h) (Or.inl ⟨by rfl, ?_⟩) HD ?_
  · intro w' hw'
    (go_simp; try with_reducible rfl)
  (try simp only [Act.put, List.setIfInBounds_toArray, List.set_cons_zero, List.set_cons_succ])
  refine wpAnyH_take (i := 10) (oi := ⟨some 38, _, _, _, _, _⟩) (v := (.pointer (some ⟨j, 0, none⟩))) rfl (by kernel_rfl) (by kernel_rfl) (by kernel_rfl) (fun _ _ _ h => h) (Or.inl ⟨by rfl, ?_⟩) HD ?_
  · intro w' hw'
    (go_simp; try with_reducible rfl)
  (try simp only [Act.put, List.setIfInBounds_toArray, List.set_cons_zero, List.set_cons_succ])
  refine wpAnyH_take (i := 11) (oi := ⟨some 39, _, _, _, _, _⟩) (v := (.pointer (some ⟨j, 2, none⟩))) rfl (by kernel_rfl) (by kernel_rfl) (by kernel_rfl) (fun _ _ _ h => h) (Or.inl ⟨by rfl, ?_⟩) HD ?_
  · intro w' hw'
    (go_simp; try with_reducible rfl)
  (try simp only [Act.put, List.setIfInBounds_toArray, List.set_cons_zero, List.set_cons_succ])
  refine wpAnyH_take (i := 12) (oi := ⟨some 40, _, _, _, _, _⟩) (v := (.int .i64 log)) rfl (by kernel_rfl) (by kernel_rfl) (by kernel_rfl) (fun _ _ _ h => h) (Or.inl ⟨by rfl, ?_⟩) HD ?_
  · intro w' hw'
    (go_simp; try with_reducible rfl)
  (try simp only [Act.put, List.setIfInBounds_toArray, List.set_cons_zero, List.set_cons_succ])
  refine wpAnyH_take (i := 13) (oi := ⟨some 41, _, _, _, _, _⟩) (v := (.slice A2 (8 + (4 + s.length)) c2)) rfl (by kernel_rfl) (by kernel_rfl) (by kernel_rfl) (fun _ _ _ h => h) (Or.inl ⟨by rfl, ?_⟩) HD ?_
  · intro w' hw'
    (go_simp; try with_reducible rfl)
  (try simp only [Act.put, List.setIfInBounds_toArray, List.set_cons_zero, List.set_cons_succ])
  refine wpAnyH_ready (rs := [14]) (by kernel_rfl) (by simp) ?_
  refine AllReadyH.cons (o := ⟨some 42, _, _, _, _, _⟩) rfl (fun K hK => ?_) AllReadyH.nil
  go_simp
  go_at_call 59
  have hrd : Reads w4.drew w4.drew.heap.size A2 (frameOf (textB s)).length (u8s (frameOf (textB s))) := HR4.out.1
  have hbz := HB4.out.size
  have hw := Write_any (w := w4.drew) (HD4.out.same (SameD.of_below (Below.refl _ _).drew)) (name ++ endL) log A2 c2 (frameOf (textB s)) (by simp [endL]; omega) (by simp; omega) (by omega) hnl (by omega) (by omega) (by omega) hF hrd
  rw [hfl] at hw
  refine hw.mono ?_
  rintro e w5 ⟨rfl, h5⟩
  have HT5 := Lib.hid h5
  have HJ5 := Lib.hid ((HJ4.out.drew).keeps h5.keeps (by decide))
  have HX5 := Lib.hid ((HX4.out.drew).keeps h5.keeps (by decide))
  clear hrd hw h5
  refine hK.out _ _ ⟨HJ5.out.cell 0, HJ5.out.cell 1, HJ5.out.cell 2⟩ (fun HD => ?_)
  clear hK K
  (try simp only [Act.put, List.setIfInBounds_toArray, List.set_cons_zero, List.set_cons_succ])
  refine wpAnyH_ready (rs := [15]) (by kernel_rfl) (by simp) ?_
  refine AllReadyH.cons (o := ⟨some 43, _, _, _, _, _⟩) rfl (fun K hK => ?_) AllReadyH.nil
  go_simp
  go_at_call 39
  refine (jmust_ok w5).mono ?_
  rintro e w6 ⟨rfl, rfl⟩
  refine hK.out _ _ HD (fun HD => ?_)
  clear hK K
  (try simp only [Act.put, List.setIfInBounds_toArray, List.set_cons_zero, List.set_cons_succ])
  refine wpAnyH_done (by kernel_rfl) (NoPanic.normal ?_) _
  have i2 : w5.cell? ⟨j, 2, none⟩ = some (.int .i64 log) := HJ5.out.cell 2
  have i5 : w5.cell? ⟨j, 5, none⟩ = some (.int .i64 many) := HJ5.out.cell 5
  have g2 : w5.frozen? ⟨j, 2, none⟩ = false := HJ5.out.frozen 2
  have g5 : w5.frozen? ⟨j, 5, none⟩ = false := HJ5.out.frozen 5
  have x0 : w5.cell? ⟨w.heap.size, 0, none⟩ = some (.int .i64 0) := HX5.out.cell 0
  have y0 : w5.frozen? ⟨w.heap.size, 0, none⟩ = false := HX5.out.frozen 0
  have hjl := HJ.out.lt
  have hlg : log ≤ 900000 := by rw [← hlog]; exact Nat.le_trans (FM.get_le_sum _) hsum
  go_wp2_with fail
  have B6 := HJ5.out.set_ 2 (.int .i64 ((log + (12 + s.length) : Nat) : Int))
  have B7 := B6.set_ 5 (.int .i64 ((many + 1 : Nat) : Int))
  have B8 := B7.far (p := ⟨w.heap.size, 0, none⟩) (by dsimp only; omega) (.int .i64 0)
  have hx7 : TypeAt ((w5.setCell ⟨j, 2, none⟩ (.int .i64 ((log + (12 + s.length) : Nat) : Int))).setCell ⟨j, 5, none⟩ (.int .i64 ((many + 1 : Nat) : Int))) w.heap.size 39 := ((HX5.out.far (p := ⟨j, 2, none⟩) (by dsimp only; omega) _).far (p := ⟨j, 5, none⟩) (by dsimp only; omega) _).typ
  have HJT : Hid (JTo w (((w5.setCell ⟨j, 2, none⟩ (.int .i64 ((log + (12 + s.length) : Nat) : Int))).setCell ⟨j, 5, none⟩ (.int .i64 ((many + 1 : Nat) : Int))).setCell ⟨w.heap.size, 0, none⟩ (.int .i64 0)) base d j (jCs d name (log + (12 + s.length)) marks mark (many + 1) safe) lasts (now.put (name ++ endL) (laidB ((now.get (name ++ endL)).getD []) log (frameOf (textB s)))) (cs ++ [.wr (name ++ endL) log (frameOf (textB s))])) := Lib.hid
    ⟨((HT5.out.at_.same (SameD.set HJ5.out.typ (by decide) _)).same (SameD.set B6.typ (by decide) _)).same (SameD.set hx7 (by decide) _), by simpa [jCs] using B8,
     ((((HB4.out.drew.mono hbw).trans HT5.out.bel).setCell hge _).setCell hge _).setCell hbw _,
     ((((Keeps.of_below HB4.out.drew (Nat.le_refl _)).trans (HT5.out.keeps.more (by simp))).step HJ5.out.typ (by simp)).step B6.typ (by simp)).then_box _⟩
  have h3 : (((w5.setCell ⟨j, 2, none⟩ (.int .i64 ((log + (12 + s.length) : Nat) : Int))).setCell ⟨j, 5, none⟩ (.int .i64 ((many + 1 : Nat) : Int))).setCell ⟨w.heap.size, 0, none⟩ (.int .i64 0)).cell? ⟨w.heap.size, 0, none⟩ = some (.int .i64 0) := (((HX5.out.far (p := ⟨j, 2, none⟩) (by dsimp only; omega) _).far (p := ⟨j, 5, none⟩) (by dsimp only; omega) _).set_ 0 (.int .i64 0)).cell 0
  refine leaves_cons (f := 37) (args := #[.pointer (some ⟨w.heap.size, 0, none⟩)]) (by simp) (by simp [go_sem]) ?_
  refine (jcaught_idle _ _).mono ?_
  rintro e u' w'' ⟨rfl, rfl, rfl⟩
  have v1 : wrap64 ((log : Int) + (8 + (4 + (s.length : Int)))) = ((log + (12 + s.length) : Nat) : Int) := by rw [IntWalk.wrap64_in _ (by omega)]; omega
  have v2 : ((log : Int) + (8 + (4 + (s.length : Int)))) = ((log + (12 + s.length) : Nat) : Int) := by omega
  have v3 : ((many : Int) + 1) = ((many + 1 : Nat) : Int) := by omega
  simp only [v1, v2, v3]
  generalize (((w5.setCell ⟨j, 2, none⟩ (.int .i64 ((log + (12 + s.length) : Nat) : Int))).setCell ⟨j, 5, none⟩ (.int .i64 ((many + 1 : Nat) : Int))).setCell ⟨w.heap.size, 0, none⟩ (.int .i64 0)) = wE at *
  simp [Leaves, settle, results, Tryz.results29, go_sem, h3]
  exact HJT.out
end Go.Proofs.YtkdmfjpfanmgmaaGreatDoor
namespace Go.Proofs.YtkdmfjpfanmgmaaGreatDoor
open Go.RowKit Le Go.Maps
set_option maxRecDepth 100000
set_option linter.unusedSimpArgs false
set_option linter.unusedVariables false
set_option maxHeartbeats 3200000 in
theorem keep_old {w : World} {base d j : Nat} {name : List UInt8} {log marks many safe : Nat} {s0 s1 s2 : DS} (h : DiskAt w base d s0.lasts s0.now s0.cs) (hbw : base ≤ w.heap.size) (hj : Blk w j 96 (jCs d name log marks log many safe)) (hge : base ≤ j)
    (hl : name.length ≤ 8) (hnl : nameB (name ++ endL) = true) (hnm : nameB (name ++ endM) = true) (h1 : SyncS (name ++ endL) s0 s1) (h2 : SyncS (name ++ endM) s1 s2) (hs0 : Small s0) (hs1 : Small s1) (hsm : safe < many) :
    Calls Tryz.prog 60 #[.pointer (some ⟨j, 0, none⟩), .bool false] w fun e w' => e = .returned (.tuple #[]) ∧ JTo w w' base d j (jCs d name log marks log many safe) s2.lasts s2.now s2.cs := by
  have HJ := Lib.hid hj
  have H := Lib.hid h
  have hsn : (text name).size = name.length := by simp [text, ByteArray.size]
  have e2 : text name ++ ⟨#[95, 108]⟩ = text (name ++ endL) := text_app name endL
  have e1 : text name ++ ⟨#[95, 109]⟩ = text (name ++ endM) := text_app name endM
  unfold jCs at HJ
  have j0 : w.cell? ⟨j, 0, none⟩ = some (.pointer (some ⟨d, 0, none⟩)) := HJ.out.cell 0
  have j1 : w.cell? ⟨j, 1, none⟩ = some (.string (text name)) := HJ.out.cell 1
  clear h hj
  go_enter Tryz.func60, Tryz.ntmps60
  go_wp2_with fail
  refine wp_region_held_drew (S := fun w' => w'.cell? ⟨j, 0, none⟩ = some (.pointer (some ⟨d, 0, none⟩)) ∧ w'.cell? ⟨j, 1, none⟩ = some (.string (text name))) (by kernel_rfl) ⟨HJ.out.cell 0, HJ.out.cell 1⟩ (fun HD => ?_)
  refine wpAnyH_take (i := 0) (oi := ⟨some 8, _, _, _, _, _⟩) (v := (.pointer (some ⟨j, 0, none⟩))) rfl (by kernel_rfl) (by kernel_rfl) (by kernel_rfl) (fun _ _ _ h => h) (Or.inl ⟨by rfl, ?_⟩) HD ?_
  · intro w' hw'
    (go_simp; try with_reducible rfl)
  (try simp only [Act.put, List.setIfInBounds_toArray, List.set_cons_zero, List.set_cons_succ])
  refine wpAnyH_take (i := 1) (oi := ⟨some 9, _, _, _, _, _⟩) (v := (.pointer (some ⟨j, 0, none⟩))) rfl (by kernel_rfl) (by kernel_rfl) (by kernel_rfl) (fun _ _ _ h => h) (Or.inl ⟨by rfl, ?_⟩) HD ?_
  · intro w' hw'
    (go_simp; try with_reducible rfl)
  (try simp only [Act.put, List.setIfInBounds_toArray, List.set_cons_zero, List.set_cons_succ])
  refine wpAnyH_take (i := 2) (oi := ⟨some 10, _, _, _, _, _⟩) (v := (.pointer (some ⟨j, 0, none⟩))) rfl (by kernel_rfl) (by kernel_rfl) (by kernel_rfl) (fun _ _ _ h => h) (Or.inl ⟨by rfl, ?_⟩) HD ?_
  · intro w' hw'
    (go_simp; try with_reducible rfl)
  (try simp only [Act.put, List.setIfInBounds_toArray, List.set_cons_zero, List.set_cons_succ])
  refine wpAnyH_take (i := 3) (oi := ⟨some 11, _, _, _, _, _⟩) (v := (.pointer (some ⟨d, 0, none⟩))) rfl (by kernel_rfl) (by kernel_rfl) (by kernel_rfl) (fun _ _ _ h => h) (Or.inl ⟨by rfl, ?_⟩) HD ?_
  · intro w' hw'
    (go_simp; try with_reducible rfl)
  (try simp only [Act.put, List.setIfInBounds_toArray, List.set_cons_zero, List.set_cons_succ])
  refine wpAnyH_take (i := 4) (oi := ⟨some 12, _, _, _, _, _⟩) (v := (.pointer (some ⟨j, 0, none⟩))) rfl (by kernel_rfl) (by kernel_rfl) (by kernel_rfl) (fun _ _ _ h => h) (Or.inl ⟨by rfl, ?_⟩) HD ?_
  · intro w' hw'
    (go_simp; try with_reducible rfl)
  (try simp only [Act.put, List.setIfInBounds_toArray, List.set_cons_zero, List.set_cons_succ])
  refine wpAnyH_take (i := 5) (oi := ⟨some 13, _, _, _, _, _⟩) (v := (.pointer (some ⟨j, 0, none⟩))) rfl (by kernel_rfl) (by kernel_rfl) (by kernel_rfl) (fun _ _ _ h => h) (Or.inl ⟨by rfl, ?_⟩) HD ?_
  · intro w' hw'
    (go_simp; try with_reducible rfl)
  (try simp only [Act.put, List.setIfInBounds_toArray, List.set_cons_zero, List.set_cons_succ])
  refine wpAnyH_take (i := 6) (oi := ⟨some 14, _, _, _, _, _⟩) (v := (.pointer (some ⟨j, 1, none⟩))) rfl (by kernel_rfl) (by kernel_rfl) (by kernel_rfl) (fun _ _ _ h => h) (Or.inl ⟨by rfl, ?_⟩) HD ?_
  · intro w' hw'
    (go_simp; try with_reducible rfl)
  (try simp only [Act.put, List.setIfInBounds_toArray, List.set_cons_zero, List.set_cons_succ])
  refine wpAnyH_take (i := 7) (oi := ⟨some 15, _, _, _, _, _⟩) (v := (.string (text name))) rfl (by kernel_rfl) (by kernel_rfl) (by kernel_rfl) (fun _ _ _ h => h) (Or.inl ⟨by rfl, ?_⟩) HD ?_
  · intro w' hw'
    (go_simp; try with_reducible rfl)
  (try simp only [Act.put, List.setIfInBounds_toArray, List.set_cons_zero, List.set_cons_succ])
  refine wpAnyH_take (i := 8) (oi := ⟨some 16, _, _, _, _, _⟩) (v := (.string (text (name ++ endL)))) rfl (by kernel_rfl) (by kernel_rfl) (by kernel_rfl) (fun _ _ _ h => h) (Or.inl ⟨by rfl, ?_⟩) HD ?_
  · intro w' hw'
    (go_simp; first | (with_reducible rfl) | omega)
  (try simp only [Act.put, List.setIfInBounds_toArray, List.set_cons_zero, List.set_cons_succ])
  refine wpAnyH_ready (rs := [9]) (by kernel_rfl) (by simp) ?_
  refine AllReadyH.cons (o := ⟨some 17, _, _, _, _, _⟩) rfl (fun K hK => ?_) AllReadyH.nil
  go_simp
  go_at_call 41
  obtain ⟨pre1, post1, hcs1, hp1, hq1, hok1, hs1'⟩ := h1
  have hat1 := H.out.same (SameD.of_below (Below.refl w.heap.size w).drew)
  rw [hcs1] at hat1
  refine (Sync_any hat1 (name ++ endL) (by simp [endL]; omega) hbw (by rw [← hcs1]; have := hs0.cs; omega) hnl hp1 hq1 hok1).mono ?_
  rintro e w1 ⟨rfl, h1⟩
  have HT1 : Hid (DiskTo w w1 base d s1.lasts s1.now s1.cs) := Lib.hid (by rw [hs1']; exact h1.after (Below.refl _ _).drew hbw)
  have HJ1 := Lib.hid (HJ.out.keeps HT1.out.keeps (by decide))
  have hbw1 : base ≤ w1.heap.size := Nat.le_trans hbw HT1.out.keeps.size
  clear h1 hat1 hok1 hs1' hp1 hq1 hcs1
  refine hK.out _ _ ⟨HJ1.out.cell 0, HJ1.out.cell 1⟩ (fun HD => ?_)
  clear hK K
  (try simp only [Act.put, List.setIfInBounds_toArray, List.set_cons_zero, List.set_cons_succ])
  refine wpAnyH_ready (rs := [10]) (by kernel_rfl) (by simp) ?_
  refine AllReadyH.cons (o := ⟨some 18, _, _, _, _, _⟩) rfl (fun K hK => ?_) AllReadyH.nil
  go_simp
  go_at_call 39
  refine (jmust_ok w1).mono ?_
  rintro e w1' ⟨rfl, rfl⟩
  refine hK.out _ _ HD (fun HD => ?_)
  clear hK K
  (try simp only [Act.put, List.setIfInBounds_toArray, List.set_cons_zero, List.set_cons_succ])
  refine wpAnyH_done (by kernel_rfl) ?_ _
  clear HD
  have a2 : w1.cell? ⟨j, 2, none⟩ = some (.int .i64 log) := HJ1.out.cell 2
  have a4 : w1.cell? ⟨j, 4, none⟩ = some (.int .i64 log) := HJ1.out.cell 4
  have a5 : w1.cell? ⟨j, 5, none⟩ = some (.int .i64 many) := HJ1.out.cell 5
  have a6 : w1.cell? ⟨j, 6, none⟩ = some (.int .i64 safe) := HJ1.out.cell 6
  clear j0 j1
  have j0 : w1.cell? ⟨j, 0, none⟩ = some (.pointer (some ⟨d, 0, none⟩)) := HJ1.out.cell 0
  have j1 : w1.cell? ⟨j, 1, none⟩ = some (.string (text name)) := HJ1.out.cell 1
  have HD1 := Lib.hid HT1.out.at_
  have hsm' : (safe : Int) < (many : Int) := by omega
  go_wp2_with fail
  refine wp_region_held_drew (S := fun w' => w'.cell? ⟨j, 4, none⟩ = some (.int .i64 log) ∧ w'.cell? ⟨j, 2, none⟩ = some (.int .i64 log)) (by kernel_rfl) ⟨a4, a2⟩ (fun HD => ?_)
  refine wpAnyH_take (i := 0) (oi := ⟨some 19, _, _, _, _, _⟩) (v := (.pointer (some ⟨j, 0, none⟩))) rfl (by kernel_rfl) (by kernel_rfl) (by kernel_rfl) (fun _ _ _ h => h) (Or.inl ⟨by rfl, ?_⟩) HD ?_
  · intro w' hw'
    (go_simp; try with_reducible rfl)
  (try simp only [Act.put, List.setIfInBounds_toArray, List.set_cons_zero, List.set_cons_succ])
  refine wpAnyH_take (i := 1) (oi := ⟨some 20, _, _, _, _, _⟩) (v := (.pointer (some ⟨j, 0, none⟩))) rfl (by kernel_rfl) (by kernel_rfl) (by kernel_rfl) (fun _ _ _ h => h) (Or.inl ⟨by rfl, ?_⟩) HD ?_
  · intro w' hw'
    (go_simp; try with_reducible rfl)
  (try simp only [Act.put, List.setIfInBounds_toArray, List.set_cons_zero, List.set_cons_succ])
  refine wpAnyH_take (i := 2) (oi := ⟨some 21, _, _, _, _, _⟩) (v := (.pointer (some ⟨j, 4, none⟩))) rfl (by kernel_rfl) (by kernel_rfl) (by kernel_rfl) (fun _ _ _ h => h) (Or.inl ⟨by rfl, ?_⟩) HD ?_
  · intro w' hw'
    (go_simp; try with_reducible rfl)
  (try simp only [Act.put, List.setIfInBounds_toArray, List.set_cons_zero, List.set_cons_succ])
  refine wpAnyH_take (i := 3) (oi := ⟨some 22, _, _, _, _, _⟩) (v := (.int .i64 log)) rfl (by kernel_rfl) (by kernel_rfl) (by kernel_rfl) (fun _ _ _ h => h) (Or.inl ⟨by rfl, ?_⟩) HD ?_
  · intro w' hw'
    (go_simp; try with_reducible rfl)
  (try simp only [Act.put, List.setIfInBounds_toArray, List.set_cons_zero, List.set_cons_succ])
  refine wpAnyH_take (i := 4) (oi := ⟨some 23, _, _, _, _, _⟩) (v := (.pointer (some ⟨j, 0, none⟩))) rfl (by kernel_rfl) (by kernel_rfl) (by kernel_rfl) (fun _ _ _ h => h) (Or.inl ⟨by rfl, ?_⟩) HD ?_
  · intro w' hw'
    (go_simp; try with_reducible rfl)
  (try simp only [Act.put, List.setIfInBounds_toArray, List.set_cons_zero, List.set_cons_succ])
  refine wpAnyH_take (i := 5) (oi := ⟨some 24, _, _, _, _, _⟩) (v := (.pointer (some ⟨j, 0, none⟩))) rfl (by kernel_rfl) (by kernel_rfl) (by kernel_rfl) (fun _ _ _ h => h) (Or.inl ⟨by rfl, ?_⟩) HD ?_
  · intro w' hw'
    (go_simp; try with_reducible rfl)
  (try simp only [Act.put, List.setIfInBounds_toArray, List.set_cons_zero, List.set_cons_succ])
  refine wpAnyH_take (i := 6) (oi := ⟨some 25, _, _, _, _, _⟩) (v := (.pointer (some ⟨j, 2, none⟩))) rfl (by kernel_rfl) (by kernel_rfl) (by kernel_rfl) (fun _ _ _ h => h) (Or.inl ⟨by rfl, ?_⟩) HD ?_
  · intro w' hw'
    (go_simp; try with_reducible rfl)
  (try simp only [Act.put, List.setIfInBounds_toArray, List.set_cons_zero, List.set_cons_succ])
  refine wpAnyH_take (i := 7) (oi := ⟨some 26, _, _, _, _, _⟩) (v := (.int .i64 log)) rfl (by kernel_rfl) (by kernel_rfl) (by kernel_rfl) (fun _ _ _ h => h) (Or.inl ⟨by rfl, ?_⟩) HD ?_
  · intro w' hw'
    (go_simp; try with_reducible rfl)
  (try simp only [Act.put, List.setIfInBounds_toArray, List.set_cons_zero, List.set_cons_succ])
  refine wpAnyH_take (i := 8) (oi := ⟨some 27, _, _, _, _, _⟩) (v := (.bool false)) rfl (by kernel_rfl) (by kernel_rfl) (by kernel_rfl) (fun _ _ _ h => h) (Or.inl ⟨by rfl, ?_⟩) HD ?_
  · intro w' hw'
    (go_simp; try with_reducible rfl)
  (try simp only [Act.put, List.setIfInBounds_toArray, List.set_cons_zero, List.set_cons_succ])
  refine wpAnyH_done (by kernel_rfl) ?_ _
  clear HD
  have HJ2 := Lib.hid HJ1.out.drew
  have HD2 := Lib.hid (HD1.out.same (SameD.of_below (Below.refl w1.heap.size w1).drew))
  go_wp2_with fail
  refine wp_region_held_drew (S := fun w' => w'.cell? ⟨j, 6, none⟩ = some (.int .i64 safe) ∧ w'.cell? ⟨j, 5, none⟩ = some (.int .i64 many)) (by kernel_rfl) ⟨a6, a5⟩ (fun HD => ?_)
  refine wpAnyH_take (i := 0) (oi := ⟨some 74, _, _, _, _, _⟩) (v := (.bool false)) rfl (by kernel_rfl) (by kernel_rfl) (by kernel_rfl) (fun _ _ _ h => h) (Or.inl ⟨by rfl, ?_⟩) HD ?_
  · intro w' hw'
    (go_simp; try with_reducible rfl)
  (try simp only [Act.put, List.setIfInBounds_toArray, List.set_cons_zero, List.set_cons_succ])
  refine wpAnyH_take (i := 1) (oi := ⟨some 75, _, _, _, _, _⟩) (v := (.bool false)) rfl (by kernel_rfl) (by kernel_rfl) (by kernel_rfl) (fun _ _ _ h => h) (Or.inl ⟨by rfl, ?_⟩) HD ?_
  · intro w' hw'
    (go_simp; try with_reducible rfl)
  (try simp only [Act.put, List.setIfInBounds_toArray, List.set_cons_zero, List.set_cons_succ])
  refine wpAnyH_take (i := 2) (oi := ⟨some 76, _, _, _, _, _⟩) (v := (.pointer (some ⟨j, 0, none⟩))) rfl (by kernel_rfl) (by kernel_rfl) (by kernel_rfl) (fun _ _ _ h => h) (Or.inl ⟨by rfl, ?_⟩) HD ?_
  · intro w' hw'
    (go_simp; try with_reducible rfl)
  (try simp only [Act.put, List.setIfInBounds_toArray, List.set_cons_zero, List.set_cons_succ])
  refine wpAnyH_take (i := 3) (oi := ⟨some 77, _, _, _, _, _⟩) (v := (.pointer (some ⟨j, 0, none⟩))) rfl (by kernel_rfl) (by kernel_rfl) (by kernel_rfl) (fun _ _ _ h => h) (Or.inl ⟨by rfl, ?_⟩) HD ?_
  · intro w' hw'
    (go_simp; try with_reducible rfl)
  (try simp only [Act.put, List.setIfInBounds_toArray, List.set_cons_zero, List.set_cons_succ])
  refine wpAnyH_take (i := 4) (oi := ⟨some 78, _, _, _, _, _⟩) (v := (.pointer (some ⟨j, 6, none⟩))) rfl (by kernel_rfl) (by kernel_rfl) (by kernel_rfl) (fun _ _ _ h => h) (Or.inl ⟨by rfl, ?_⟩) HD ?_
  · intro w' hw'
    (go_simp; try with_reducible rfl)
  (try simp only [Act.put, List.setIfInBounds_toArray, List.set_cons_zero, List.set_cons_succ])
  refine wpAnyH_take (i := 5) (oi := ⟨some 79, _, _, _, _, _⟩) (v := (.int .i64 safe)) rfl (by kernel_rfl) (by kernel_rfl) (by kernel_rfl) (fun _ _ _ h => h) (Or.inl ⟨by rfl, ?_⟩) HD ?_
  · intro w' hw'
    (go_simp; try with_reducible rfl)
  (try simp only [Act.put, List.setIfInBounds_toArray, List.set_cons_zero, List.set_cons_succ])
  refine wpAnyH_take (i := 6) (oi := ⟨some 80, _, _, _, _, _⟩) (v := (.pointer (some ⟨j, 0, none⟩))) rfl (by kernel_rfl) (by kernel_rfl) (by kernel_rfl) (fun _ _ _ h => h) (Or.inl ⟨by rfl, ?_⟩) HD ?_
  · intro w' hw'
    (go_simp; try with_reducible rfl)
  (try simp only [Act.put, List.setIfInBounds_toArray, List.set_cons_zero, List.set_cons_succ])
  refine wpAnyH_take (i := 7) (oi := ⟨some 81, _, _, _, _, _⟩) (v := (.pointer (some ⟨j, 0, none⟩))) rfl (by kernel_rfl) (by kernel_rfl) (by kernel_rfl) (fun _ _ _ h => h) (Or.inl ⟨by rfl, ?_⟩) HD ?_
  · intro w' hw'
    (go_simp; try with_reducible rfl)
  (try simp only [Act.put, List.setIfInBounds_toArray, List.set_cons_zero, List.set_cons_succ])
  refine wpAnyH_take (i := 8) (oi := ⟨some 82, _, _, _, _, _⟩) (v := (.pointer (some ⟨j, 5, none⟩))) rfl (by kernel_rfl) (by kernel_rfl) (by kernel_rfl) (fun _ _ _ h => h) (Or.inl ⟨by rfl, ?_⟩) HD ?_
  · intro w' hw'
    (go_simp; try with_reducible rfl)
  (try simp only [Act.put, List.setIfInBounds_toArray, List.set_cons_zero, List.set_cons_succ])
  refine wpAnyH_take (i := 9) (oi := ⟨some 83, _, _, _, _, _⟩) (v := (.int .i64 many)) rfl (by kernel_rfl) (by kernel_rfl) (by kernel_rfl) (fun _ _ _ h => h) (Or.inl ⟨by rfl, ?_⟩) HD ?_
  · intro w' hw'
    (go_simp; try with_reducible rfl)
  (try simp only [Act.put, List.setIfInBounds_toArray, List.set_cons_zero, List.set_cons_succ])
  refine wpAnyH_take (i := 10) (oi := ⟨some 84, _, _, _, _, _⟩) (v := (.bool true)) rfl (by kernel_rfl) (by kernel_rfl) (by kernel_rfl) (fun _ _ _ h => h) (Or.inl ⟨by rfl, ?_⟩) HD ?_
  · intro w' hw'
    (go_simp; try with_reducible rfl)
  (try simp only [Act.put, List.setIfInBounds_toArray, List.set_cons_zero, List.set_cons_succ])
  refine wpAnyH_take (i := 11) (oi := ⟨some 85, _, _, _, _, _⟩) (v := (.bool true)) rfl (by kernel_rfl) (by kernel_rfl) (by kernel_rfl) (fun _ _ _ h => h) (Or.inl ⟨by rfl, ?_⟩) HD ?_
  · intro w' hw'
    (go_simp; try with_reducible rfl)
  (try simp only [Act.put, List.setIfInBounds_toArray, List.set_cons_zero, List.set_cons_succ])
  refine wpAnyH_done (by kernel_rfl) ?_ _
  clear HD
  have HJ3 := Lib.hid HJ2.out.drew
  have HD3 := Lib.hid (HD2.out.same (SameD.of_below (Below.refl w1.drew.heap.size w1.drew).drew))
  have hbw3 : base ≤ w1.drew.drew.heap.size := hbw1
  go_wp2_with fail
  refine wp_region_held_drew (S := fun w' => w'.cell? ⟨j, 0, none⟩ = some (.pointer (some ⟨d, 0, none⟩)) ∧ w'.cell? ⟨j, 1, none⟩ = some (.string (text name))) (by kernel_rfl) ⟨HJ3.out.cell 0, HJ3.out.cell 1⟩ (fun HD => ?_)
  refine wpAnyH_take (i := 0) (oi := ⟨some 86, _, _, _, _, _⟩) (v := (.pointer (some ⟨j, 0, none⟩))) rfl (by kernel_rfl) (by kernel_rfl) (by kernel_rfl) (fun _ _ _ h => h) (Or.inl ⟨by rfl, ?_⟩) HD ?_
  · intro w' hw'
    (go_simp; try with_reducible rfl)
  (try simp only [Act.put, List.setIfInBounds_toArray, List.set_cons_zero, List.set_cons_succ])
  refine wpAnyH_take (i := 1) (oi := ⟨some 87, _, _, _, _, _⟩) (v := (.pointer (some ⟨j, 0, none⟩))) rfl (by kernel_rfl) (by kernel_rfl) (by kernel_rfl) (fun _ _ _ h => h) (Or.inl ⟨by rfl, ?_⟩) HD ?_
  · intro w' hw'
    (go_simp; try with_reducible rfl)
  (try simp only [Act.put, List.setIfInBounds_toArray, List.set_cons_zero, List.set_cons_succ])
  refine wpAnyH_take (i := 2) (oi := ⟨some 88, _, _, _, _, _⟩) (v := (.pointer (some ⟨j, 0, none⟩))) rfl (by kernel_rfl) (by kernel_rfl) (by kernel_rfl) (fun _ _ _ h => h) (Or.inl ⟨by rfl, ?_⟩) HD ?_
  · intro w' hw'
    (go_simp; try with_reducible rfl)
  (try simp only [Act.put, List.setIfInBounds_toArray, List.set_cons_zero, List.set_cons_succ])
  refine wpAnyH_take (i := 3) (oi := ⟨some 89, _, _, _, _, _⟩) (v := (.pointer (some ⟨d, 0, none⟩))) rfl (by kernel_rfl) (by kernel_rfl) (by kernel_rfl) (fun _ _ _ h => h) (Or.inl ⟨by rfl, ?_⟩) HD ?_
  · intro w' hw'
    (go_simp; try with_reducible rfl)
  (try simp only [Act.put, List.setIfInBounds_toArray, List.set_cons_zero, List.set_cons_succ])
  refine wpAnyH_take (i := 4) (oi := ⟨some 90, _, _, _, _, _⟩) (v := (.pointer (some ⟨j, 0, none⟩))) rfl (by kernel_rfl) (by kernel_rfl) (by kernel_rfl) (fun _ _ _ h => h) (Or.inl ⟨by rfl, ?_⟩) HD ?_
  · intro w' hw'
    (go_simp; try with_reducible rfl)
  (try simp only [Act.put, List.setIfInBounds_toArray, List.set_cons_zero, List.set_cons_succ])
  refine wpAnyH_take (i := 5) (oi := ⟨some 91, _, _, _, _, _⟩) (v := (.pointer (some ⟨j, 0, none⟩))) rfl (by kernel_rfl) (by kernel_rfl) (by kernel_rfl) (fun _ _ _ h => h) (Or.inl ⟨by rfl, ?_⟩) HD ?_
  · intro w' hw'
    (go_simp; try with_reducible rfl)
  (try simp only [Act.put, List.setIfInBounds_toArray, List.set_cons_zero, List.set_cons_succ])
  refine wpAnyH_take (i := 6) (oi := ⟨some 92, _, _, _, _, _⟩) (v := (.pointer (some ⟨j, 1, none⟩))) rfl (by kernel_rfl) (by kernel_rfl) (by kernel_rfl) (fun _ _ _ h => h) (Or.inl ⟨by rfl, ?_⟩) HD ?_
  · intro w' hw'
    (go_simp; try with_reducible rfl)
  (try simp only [Act.put, List.setIfInBounds_toArray, List.set_cons_zero, List.set_cons_succ])
  refine wpAnyH_take (i := 7) (oi := ⟨some 93, _, _, _, _, _⟩) (v := (.string (text name))) rfl (by kernel_rfl) (by kernel_rfl) (by kernel_rfl) (fun _ _ _ h => h) (Or.inl ⟨by rfl, ?_⟩) HD ?_
  · intro w' hw'
    (go_simp; try with_reducible rfl)
  (try simp only [Act.put, List.setIfInBounds_toArray, List.set_cons_zero, List.set_cons_succ])
  refine wpAnyH_take (i := 8) (oi := ⟨some 94, _, _, _, _, _⟩) (v := (.string (text (name ++ endM)))) rfl (by kernel_rfl) (by kernel_rfl) (by kernel_rfl) (fun _ _ _ h => h) (Or.inl ⟨by rfl, ?_⟩) HD ?_
  · intro w' hw'
    (go_simp; first | (with_reducible rfl) | omega)
  (try simp only [Act.put, List.setIfInBounds_toArray, List.set_cons_zero, List.set_cons_succ])
  refine wpAnyH_ready (rs := [9]) (by kernel_rfl) (by simp) ?_
  refine AllReadyH.cons (o := ⟨some 95, _, _, _, _, _⟩) rfl (fun K hK => ?_) AllReadyH.nil
  go_simp
  go_at_call 41
  obtain ⟨pre5, post5, hcs5, hp5, hq5, hok5, hs5'⟩ := h2
  have hat5 := HD3.out.same (SameD.of_below (Below.refl w1.drew.drew.heap.size w1.drew.drew).drew)
  rw [hcs5] at hat5
  refine (Sync_any hat5 (name ++ endM) (by simp [endM]; omega) hbw3 (by rw [← hcs5]; have := hs1.cs; omega) hnm hp5 hq5 hok5).mono ?_
  rintro e w5 ⟨rfl, h5⟩
  have HT5 : Hid (DiskTo w1.drew.drew w5 base d s2.lasts s2.now s2.cs) := Lib.hid (by rw [hs5']; exact h5.after (Below.refl _ _).drew hbw3)
  have HJ5 := Lib.hid (HJ3.out.keeps HT5.out.keeps (by decide))
  have hbw5 : base ≤ w5.heap.size := Nat.le_trans hbw3 HT5.out.keeps.size
  clear h5 hat5 hok5 hs5' hp5 hq5 hcs5
  refine hK.out _ _ ⟨HJ5.out.cell 0, HJ5.out.cell 1⟩ (fun HD => ?_)
  clear hK K
  (try simp only [Act.put, List.setIfInBounds_toArray, List.set_cons_zero, List.set_cons_succ])
  refine wpAnyH_ready (rs := [10]) (by kernel_rfl) (by simp) ?_
  refine AllReadyH.cons (o := ⟨some 96, _, _, _, _, _⟩) rfl (fun K hK => ?_) AllReadyH.nil
  go_simp
  go_at_call 39
  refine (jmust_ok w5).mono ?_
  rintro e w5' ⟨rfl, rfl⟩
  refine hK.out _ _ HD (fun HD => ?_)
  clear hK K
  (try simp only [Act.put, List.setIfInBounds_toArray, List.set_cons_zero, List.set_cons_succ])
  refine wpAnyH_done (by kernel_rfl) ?_ _
  clear HD
  go_wp2_with fail
  go_end0
  exact ⟨rfl, HT5.out.at_, by simpa [jCs] using HJ5.out, HT1.out.bel.trans (((Below.refl base w1).drew.drew).trans HT5.out.bel), (HT1.out.keeps.trans (Keeps.trans (Keeps.of_below ((Below.refl w1.heap.size w1).drew.drew) (Nat.le_refl _)) HT5.out.keeps)).more (by simp)⟩
end Go.Proofs.YtkdmfjpfanmgmaaGreatDoor
