/- Plain: a list's elements that are laid one by one. No condition: no program is in sight. -/
import Derived.Test.YtkdmfjpfanmgmaaLay4
namespace Go.Proofs.Ytkdmfjpfanmgmaa
open Le

/-- The first j things of a list are laid. -/
def foldT (l : List Sh) (ds : List (List Da)) (j : Nat) (s : St) : St := (ds.take j).foldl (fun s d => lays l d s) s
theorem foldT_zero (l : List Sh) (ds : List (List Da)) (s : St) : foldT l ds 0 s = s := by simp [foldT]
theorem foldT_succ (l : List Sh) (ds : List (List Da)) (j : Nat) (s : St) (h : j < ds.length) : foldT l ds (j + 1) s = lays l ds[j] (foldT l ds j s) := by
  unfold foldT
  rw [List.take_succ_eq_append_getElem h, List.foldl_append]
  rfl
theorem foldT_full (l : List Sh) (ds : List (List Da)) (s : St) : foldT l ds ds.length s = ds.foldl (fun s d => lays l d s) s := by simp [foldT]
theorem foldT_le (l : List Sh) (ds : List (List Da)) (j : Nat) (s : St) : (foldT l ds j s).1.length ≤ (ds.foldl (fun s d => lays l d s) s).1.length := by
  unfold foldT
  conv => rhs; rw [← List.take_append_drop j ds, List.foldl_append]
  exact (grows_fold l (lays_grows l) (ds.drop j) _).le
theorem foldT_succ_le (l : List Sh) (ds : List (List Da)) (j : Nat) (s : St) (h : j < ds.length) : (lays l ds[j] (foldT l ds j s)).1.length ≤ (ds.foldl (fun s d => lays l d s) s).1.length := by
  rw [← foldT_succ l ds j s h]
  exact foldT_le l ds (j + 1) s
theorem lay_rows_err {l : List Sh} {ds : List (List Da)} {s : St} (h : s.2 ≠ 0) : lay (.rows l) (.rows ds) s = s := by simp only [lay]; rw [if_neg h]
theorem lay_rows_big {l : List Sh} {ds : List (List Da)} {s : St} (h : s.2 = 0) (h2 : 4096 < ds.length) : lay (.rows l) (.rows ds) s = s.fail 2 := by simp only [lay]; rw [if_pos h, if_neg (by omega)]
theorem lay_rows_ok {l : List Sh} {ds : List (List Da)} {s : St} (h : s.2 = 0) (h2 : ds.length ≤ 4096) : lay (.rows l) (.rows ds) s = foldT l ds ds.length (layNum ds.length s) := by simp only [lay]; rw [if_pos h, if_pos h2, foldT_full]
theorem foldT_le_lay {l : List Sh} {ds : List (List Da)} {s : St} (h : s.2 = 0) (h2 : ds.length ≤ 4096) (j : Nat) : (foldT l ds j (layNum ds.length s)).1.length ≤ (lay (.rows l) (.rows ds) s).1.length := by
  rw [lay_rows_ok h h2, foldT_full]
  exact foldT_le l ds j _
theorem lays_cons (a : Sh) (l : List Sh) (d : Da) (ds : List Da) (s : St) : lays (a :: l) (d :: ds) s = lays l ds (lay a d s) := by simp only [lays]
theorem lays_nil (ds : List Da) (s : St) : lays [] ds s = s := by simp only [lays]
theorem lays_append (l l' : List Sh) (d d' : List Da) (h : d.length = l.length) (s : St) : lays (l ++ l') (d ++ d') s = lays l' d' (lays l d s) := by
  induction l generalizing d s with
  | nil =>
    cases d with
    | nil => simp [lays]
    | cons _ _ => simp at h
  | cons a l ih =>
    cases d with
    | nil => simp at h
    | cons x d =>
      simp only [List.cons_append, lays]
      exact ih d (by simpa using h) _
theorem lay_num_eq (n : Int) (s : St) : lay .num (.int n) s = layNum n s := by simp only [lay]
theorem lay_whole_eq (n : Int) (s : St) : lay .whole (.int n) s = layWhole n s := by simp only [lay]
theorem lay_text_eq (b : List UInt8) (s : St) : lay .text (.text b) s = layText b s := by simp only [lay]
theorem lay_flag_eq (b : Bool) (s : St) : lay .flag (.flag b) s = layFlag b s := by simp only [lay]
theorem lays_le {l : List Sh} {ds : List Da} {s : St} {m : Nat} (h : (lays l ds s).1.length ≤ m) : s.1.length ≤ m := Nat.le_trans (lays_grows l ds s).le h
theorem lay_le {a : Sh} {d : Da} {s : St} {m : Nat} (h : (lay a d s).1.length ≤ m) : s.1.length ≤ m := Nat.le_trans (lay_grows a d s).le h
theorem foldT_err (l : List Sh) (ds : List (List Da)) (j : Nat) (s : St) (h : (foldT l ds j s).2 ≠ 0) : (foldT l ds ds.length s).2 = (foldT l ds j s).2 := by
  have e : foldT l ds ds.length s = (ds.drop j).foldl (fun s d => lays l d s) (foldT l ds j s) := by
    unfold foldT
    rw [← List.foldl_append, List.take_append_drop, List.take_length]
  rw [e]
  exact fold_err l _ _ h
end Go.Proofs.Ytkdmfjpfanmgmaa
