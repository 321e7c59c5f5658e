/- Joined by mkmerge.py from the proof's texts Name. Conditions: each theorem's own hypotheses. -/
import Derived.Test.YtkdmfjpfanmgmaaGreatDoorM02
import Derived.Test.YtkdmfjpfanmgmaaGreatDoorProg
import Derived.Lib.Strings
import Derived.Lib.Slices
import Derived.Lib.Walk
import Derived.Lib.Bytealg
namespace Go.Proofs.YtkdmfjpfanmgmaaGreatDoor
open Go.RowKit Le
set_option maxRecDepth 100000
set_option linter.unusedSimpArgs false
set_option linter.unusedVariables false
/-! ### Plain: which names may be. -/
def isLetter (c : UInt8) : Bool := 97 ≤ c && c ≤ 122
def isPlain (c : UInt8) : Bool := (97 ≤ c && c ≤ 122) || (48 ≤ c && c ≤ 57) || c == 95
def nameB (b : List UInt8) : Bool := decide (b ≠ []) && decide (b.length ≤ 16) && (match b with | c :: _ => isLetter c | [] => false) && b.all isPlain
def abc : List UInt8 := [97, 98, 99, 100, 101, 102, 103, 104, 105, 106, 107, 108, 109, 110, 111, 112, 113, 114, 115, 116, 117, 118, 119, 120, 121, 122]
def abc9 : List UInt8 := abc ++ [48, 49, 50, 51, 52, 53, 54, 55, 56, 57, 95]
theorem indexByte_neg (l : List UInt8) (c : UInt8) : decide (Lib.indexByte l c < 0) = !l.contains c := by
  induction l with
  | nil => simp [Lib.indexByte]
  | cons b l ih =>
    have hg := Lib.indexByte_ge l c
    unfold Lib.indexByte
    by_cases hb : b = c
    · subst hb
      simp
    · have hb' : (b == c) = false := by simpa using hb
      have hc' : (c == b) = false := by simpa using (fun h : c = b => hb h.symm)
      rw [hb']
      simp only [Bool.false_eq_true, if_false, List.contains_cons, hc', Bool.false_or]
      rw [← ih]
      split
      · rename_i h
        have : Lib.indexByte l c = -1 := by simpa using h
        simp [this]
      · rename_i h
        have h1 : Lib.indexByte l c ≠ -1 := by simpa using h
        have : ¬ Lib.indexByte l c < 0 := by omega
        have h2 : ¬ Lib.indexByte l c + 1 < 0 := by omega
        simp [this, h2]
theorem abc_contains (c : UInt8) : abc.contains c = isLetter c := by
  have h : ∀ n : Fin 256, abc.contains (UInt8.ofFin n) = isLetter (UInt8.ofFin n) := by decide +kernel
  have := h c.toFin
  simpa using this
theorem abc9_contains (c : UInt8) : abc9.contains c = isPlain c := by
  have h : ∀ n : Fin 256, abc9.contains (UInt8.ofFin n) = isPlain (UInt8.ofFin n) := by decide +kernel
  have := h c.toFin
  simpa using this
set_option maxHeartbeats 1000000 in
theorem slite_any (s : ByteArray) (c : Int) (w : World) :
    Calls Tryz.prog 114 #[.string s, .int .u8 c] w fun e w' => e = .returned (.int .i64 (Lib.indexByte s.data.toList c.toNat.toUInt8)) ∧ w' = w := by
  go_enter Tryz.func114, Tryz.ntmps114
  go_wp2
  rw [run_callFunc_extern Tryz.func131 (by kernel_rfl) (by kernel_rfl) (by kernel_rfl) (e := Extern.BytealgIndexByte.indexByte) (by kernel_rfl), Lib.run_indexByteString]
  simp only [Result.andThen]
  rw [Oper.upon_value]
  go_wp2
  go_ret
  exact ⟨rfl, rfl⟩
set_option maxHeartbeats 1000000 in
theorem sindex_any (s : ByteArray) (c : Int) (w : World) :
    Calls Tryz.prog 72 #[.string s, .int .u8 c] w fun e w' => e = .returned (.int .i64 (Lib.indexByte s.data.toList c.toNat.toUInt8)) ∧ w' = w := by
  go_enter Tryz.func72, Tryz.ntmps72
  go_wp2_with (go_at_call 114; refine (slite_any _ _ _).mono ?_; rintro e w' ⟨rfl, rfl⟩)
  go_ret
  exact ⟨rfl, rfl⟩
theorem text_get (b : List UInt8) (j : Nat) (h : j < b.length) (h' : j < (text b).size) : (text b)[j]'h' = b[j] := rfl
theorem in9_any (c : UInt8) (w : World) :
    Calls Tryz.prog 72 #[.string ⟨#[97, 98, 99, 100, 101, 102, 103, 104, 105, 106, 107, 108, 109, 110, 111, 112, 113, 114, 115, 116, 117, 118, 119, 120, 121, 122, 48, 49, 50, 51, 52, 53, 54, 55, 56, 57, 95]⟩, .int .u8 c.toNat] w fun e w' => ∃ v : Int, e = .returned (.int .i64 v) ∧ decide (v < 0) = !isPlain c ∧ w = w' := by
  refine (sindex_any _ _ w).mono ?_
  rintro e w' ⟨rfl, rfl⟩
  refine ⟨_, rfl, ?_, rfl⟩
  rw [indexByte_neg, ← abc9_contains]
  simp [abc9, abc]
theorem in26_any (c : UInt8) (w : World) :
    Calls Tryz.prog 72 #[.string ⟨#[97, 98, 99, 100, 101, 102, 103, 104, 105, 106, 107, 108, 109, 110, 111, 112, 113, 114, 115, 116, 117, 118, 119, 120, 121, 122]⟩, .int .u8 c.toNat] w fun e w' => ∃ v : Int, e = .returned (.int .i64 v) ∧ decide (0 ≤ v) = isLetter c ∧ w = w' := by
  refine (sindex_any _ _ w).mono ?_
  rintro e w' ⟨rfl, rfl⟩
  refine ⟨_, rfl, ?_, rfl⟩
  have h := indexByte_neg abc c
  rw [abc_contains] at h
  have e : Lib.indexByte (ByteArray.data ⟨#[97, 98, 99, 100, 101, 102, 103, 104, 105, 106, 107, 108, 109, 110, 111, 112, 113, 114, 115, 116, 117, 118, 119, 120, 121, 122]⟩).toList (c.toNat : Int).toNat.toUInt8 = Lib.indexByte abc c := by simp [abc]
  rw [e]
  by_cases h0 : 0 ≤ Lib.indexByte abc c
  · rw [decide_eq_true h0]
    rw [decide_eq_false (by omega)] at h
    simpa using h.symm
  · rw [decide_eq_false h0]
    rw [decide_eq_true (by omega)] at h
    simpa using h.symm
set_option maxHeartbeats 1600000 in
theorem plain_any (b : List UInt8) (w : World) (hb : b.length ≤ 1099511627776) :
    Calls Tryz.prog 73 #[.string (text b)] w fun e w' => e = .returned (.bool (b.all isPlain)) ∧ ∃ m, w' = w.drewN m := by
  go_enter Tryz.func73, Tryz.ntmps73
  have hs : (text b).size = b.length := by simp [text, ByteArray.size]
  go_wp2_with fail
  go_loopw [6] (fun i wr => ∃ j : Nat, j ≤ b.length ∧ i = .int .i64 j ∧ Hid ((b.take j).all isPlain = true) ∧ Hid (wr = w)) (fun i _ => b.length - (intOf i).toNat)
  case atStart => exact ⟨0, Nat.zero_le _, rfl, Lib.hid (by simp), Lib.hid rfl⟩
  case round =>
    obtain ⟨j, hj, rfl, HA, HW⟩ := hrel
    by_cases hlt : j < b.length
    · go_wp2_with fail
      rw [text_get b j hlt]
      refine (in9_any b[j] wr).mono ?_
      rintro e w1 ⟨v, rfl, hv, rfl⟩
      have HN : Hid ((b.take (j + 1)).all isPlain = ((b.take j).all isPlain && isPlain b[j])) := Lib.hid (by rw [List.take_succ_eq_append_getElem hlt, List.all_append]; simp)
      have HT : Hid (isPlain b[j] = false → b.all isPlain = false) := Lib.hid (fun h => by
        rw [List.all_eq_false]
        exact ⟨b[j], List.getElem_mem hlt, by simp [h]⟩)
      generalize isPlain b[j] = p at *
      generalize (text b)[j]'_ = cc at *
      cases p
      · have HR := HT.out rfl
        go_wp2_with fail
        go_ret
        exact ⟨by rw [HR]; rfl, 0, by rw [HW.out]; rfl⟩
      · go_wp2_with fail
        go_roundw
        case rel => exact ⟨j + 1, by omega, by go_num, Lib.hid (by rw [HN.out, HA.out]; rfl), HW⟩
        case measure => simp [intOf]; omega
    · go_wp2_with fail
      have hje : j = b.length := by omega
      subst hje
      rw [List.take_length] at HA
      go_ret
      exact ⟨by rw [HA.out]; rfl, 0, by rw [HW.out]; rfl⟩
set_option maxHeartbeats 1600000 in
theorem Name_any (b : List UInt8) (w : World) (hb : b.length ≤ 1099511627776) :
    Calls Tryz.prog 36 #[.string (text b)] w fun e w' => e = .returned (.bool (nameB b)) ∧ ∃ m, w' = w.drewN m := by
  cases b with
  | nil =>
    go_enter Tryz.func36, Tryz.ntmps36
    go_wp2_with fail
    go_ret
    exact ⟨rfl, 0, rfl⟩
  | cons c l =>
    have hs : (text (c :: l)).size = (c :: l).length := by simp [text, ByteArray.size]
    have hne : (c :: l) ≠ [] := by simp
    have hpos : 0 < (c :: l).length := by simp
    have HN : Hid (nameB (c :: l) = (decide ((c :: l).length ≤ 16) && isLetter c && (c :: l).all isPlain)) := Lib.hid (by simp [nameB])
    have hg : ∀ h, (text (c :: l))[0]'h = c := fun _ => rfl
    generalize hB : c :: l = b at *
    clear hB
    by_cases h16 : b.length ≤ 16
    · rw [decide_eq_true h16, Bool.true_and] at HN
      have h16' : (b.length : Int) ≤ 16 := by omega
      go_enter Tryz.func36, Tryz.ntmps36
      go_wp2_with fail
      refine (in26_any c w).mono ?_
      rintro e w1 ⟨v, rfl, hv, rfl⟩
      generalize isLetter c = p at *
      cases p
      · rw [Bool.false_and] at HN
        go_wp2_with fail
        go_ret
        exact ⟨by rw [HN.out]; rfl, 0, rfl⟩
      · rw [Bool.true_and] at HN
        go_wp2_with fail
        refine (plain_any b w hb).mono ?_
        rintro e w1 ⟨rfl, m, rfl⟩
        go_wp2_with fail
        go_ret
        exact ⟨by rw [HN.out]; simp [hne], m, rfl⟩
    · rw [decide_eq_false h16, Bool.false_and, Bool.false_and] at HN
      have h16' : ¬ (b.length : Int) ≤ 16 := by omega
      go_enter Tryz.func36, Tryz.ntmps36
      go_wp2_with fail
      go_ret
      exact ⟨by rw [HN.out]; rfl, 0, rfl⟩
end Go.Proofs.YtkdmfjpfanmgmaaGreatDoor
