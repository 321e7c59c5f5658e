/- Joined by mkmerge.py from the proof's texts Cap. Conditions: each theorem's own hypotheses. -/
import Derived.Test.YtkdmfjpfanmgmaaGreatDoorM01
import Derived.RowKit
namespace Go.Proofs.YtkdmfjpfanmgmaaGreatDoor
open Go.RowKit Le
set_option maxRecDepth 100000
mutual
/-- The most that a field takes. -/
def capSh : Sh → Nat
  | .num => 4
  | .whole => 8
  | .text => 65540
  | .flag => 1
  | .rows l => 4 + 4096 * capShs l
def capShs : List Sh → Nat
  | [] => 0
  | a :: l => capSh a + capShs l
end
theorem layNum_cap (n : Int) (s : St) : (layNum n s).1.length ≤ s.1.length + 4 := by
  unfold layNum
  split
  · simp [St.put]
  · simp [St.fail]
theorem fold_cap (l : List Sh) (h : ∀ ds s, (lays l ds s).1.length ≤ s.1.length + capShs l) : ∀ (ds : List (List Da)) (s : St), (ds.foldl (fun s d => lays l d s) s).1.length ≤ s.1.length + ds.length * capShs l
  | [], s => by simp
  | d :: ds, s => by
    have h1 := fold_cap l h ds (lays l d s)
    have h2 := h d s
    simp only [List.foldl_cons, List.length_cons, Nat.add_mul, Nat.one_mul]
    omega
mutual
theorem lay_cap : ∀ (a : Sh) (d : Da) (s : St), (lay a d s).1.length ≤ s.1.length + capSh a
  | .num, .int n, s => by simp only [lay, capSh]; exact layNum_cap n s
  | .whole, .int n, s => by simp [lay, capSh, layWhole, St.put]
  | .text, .text b, s => by
    simp only [lay, capSh, layText]
    split
    · simp [St.put]; omega
    · simp [St.fail]
  | .flag, .flag b, s => by simp [lay, capSh, layFlag, St.put]
  | .rows l, .rows ds, s => by
    simp only [lay, capSh]
    split
    · split
      · rename_i h0 h
        have h1 := fold_cap l (fun ds s => lays_cap l ds s) ds (layNum ds.length s)
        have h2 := layNum_cap ds.length s
        have h3 : ds.length * capShs l ≤ 4096 * capShs l := Nat.mul_le_mul_right _ h
        omega
      · simp [St.fail]
    · omega
  | .num, .text _, s => by simp [lay]
  | .num, .flag _, s => by simp [lay]
  | .num, .rows _, s => by simp [lay]
  | .whole, .text _, s => by simp [lay]
  | .whole, .flag _, s => by simp [lay]
  | .whole, .rows _, s => by simp [lay]
  | .text, .int _, s => by simp [lay]
  | .text, .flag _, s => by simp [lay]
  | .text, .rows _, s => by simp [lay]
  | .flag, .int _, s => by simp [lay]
  | .flag, .text _, s => by simp [lay]
  | .flag, .rows _, s => by simp [lay]
  | .rows _, .int _, s => by simp [lay]
  | .rows _, .text _, s => by simp [lay]
  | .rows _, .flag _, s => by simp [lay]
theorem lays_cap : ∀ (l : List Sh) (ds : List Da) (s : St), (lays l ds s).1.length ≤ s.1.length + capShs l
  | [], ds, s => by simp [lays, capShs]
  | a :: l, [], s => by simp [lays]
  | a :: l, d :: ds, s => by
    simp only [lays, capShs]
    have h1 := lay_cap a d s
    have h2 := lays_cap l ds (lay a d s)
    omega
end
theorem record_le (ds : List Da) : (lays shRecord ds ([], 0)).1.length ≤ 1099511627776 := Nat.le_trans (lays_cap _ _ _) (by simp only [shRecord, capShs, capSh, List.length_nil]; decide)
end Go.Proofs.YtkdmfjpfanmgmaaGreatDoor
