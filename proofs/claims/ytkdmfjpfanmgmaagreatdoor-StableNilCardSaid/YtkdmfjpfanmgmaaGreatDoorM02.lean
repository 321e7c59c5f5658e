/- Joined by mkmerge.py from the proof's texts Words, Frame. Conditions: each theorem's own hypotheses. -/
import Derived.Test.YtkdmfjpfanmgmaaGreatDoorM01
import Derived.WalkKit
import Derived.WalkSpells
import Derived.WalkLawsBesides
import Derived.Laws.CopyOwn
import Derived.Lib.Hide
import Derived.Deep.AppendLies
import Derived.Deep.Draws
import Derived.Maps.AppendAt
namespace Go.Proofs.YtkdmfjpfanmgmaaGreatDoor
open Go.RowKit
/-- Bytes as cells. -/
def u8s (l : List UInt8) : List Value := l.map fun c => Value.int .u8 (c.toNat : Int)
@[simp] theorem u8s_length (l : List UInt8) : (u8s l).length = l.length := by simp [u8s]
theorem u8s_append (a b : List UInt8) : u8s (a ++ b) = u8s a ++ u8s b := by simp [u8s]
theorem u8s_one (l : List UInt8) : ∀ u ∈ u8s l, u.oneCell' = true := by
  intro u hu; simp only [u8s, List.mem_map] at hu; obtain ⟨c, _, rfl⟩ := hu; rfl
theorem u8s_at (l : List UInt8) (i : Nat) (h : i < l.length) : (u8s l)[i]? = some (.int .u8 ((l[i]'h).toNat : Int)) := by
  simp [u8s, h]
/-- One byte more of a number is laid. -/
theorem fill_step (l : List UInt8) (v k j n : Nat) (hn : l.length = n) (h : j < k) :
    (u8s (l ++ Le.low v j) ++ List.replicate (k - j) (Value.int .u8 0)).set (n + j) (.int .u8 ((v : Int) / 2 ^ (8 * j) % 256)) = u8s (l ++ Le.low v (j + 1)) ++ List.replicate (k - (j + 1)) (Value.int .u8 0) := by
  obtain ⟨m, hm⟩ : ∃ m, k - j = m + 1 := ⟨k - j - 1, by omega⟩
  rw [hm, show k - (j + 1) = m by omega, List.replicate_succ, Le.byte_at, Le.low_snoc, ← List.append_assoc, u8s_append (l ++ Le.low v j)]
  have hlen : (u8s (l ++ Le.low v j)).length = n + j := by simp; omega
  rw [List.set_append, if_neg (by omega), hlen, Nat.sub_self]
  simp [u8s]
theorem fill_at (l : List UInt8) (v k j n : Nat) (hn : l.length = n) (h : j < k) :
    (u8s (l ++ Le.low v j) ++ List.replicate (k - j) (Value.int .u8 0))[n + j]? = some (.int .u8 0) := by
  rw [List.getElem?_append_right (by simp; omega)]
  rw [List.getElem?_replicate, if_pos (by simp; omega)]
/-! ### A slice that reads as cells, nil let in. -/
theorem block_of_add (a : Addr) (n : Nat) : (a.add n).block = a.block := by unfold Addr.add; split <;> rfl
theorem add_of_add (a : Addr) (i j : Nat) : (a.add i).add j = a.add (i + j) := by
  unfold Addr.add
  by_cases hi : i = 0 <;> by_cases hj : j = 0 <;> simp [hi, hj, Nat.add_assoc]
/-- The slice value at A, of n one-cell elements, reads as xs, in blocks below B. -/
def Reads (w : World) (B : Nat) (A : Option Addr) (n : Nat) (xs : List Value) : Prop :=
  xs.length = n ∧ (0 < n → ∃ ad, A = some ad ∧ ad.block < B ∧ ∀ j u, xs[j]? = some u → w.cell? (ad.add j) = some u)
section
variable {w w' : World} {B B' n : Nat} {A : Option Addr} {xs : List Value}
theorem Reads.len (h : Reads w B A n xs) : xs.length = n := h.1
theorem Reads.none_ : Reads w B A 0 [] := ⟨rfl, fun h => absurd h (by omega)⟩
theorem Reads.keep (h : Reads w B A n xs) (hk : ∀ p : Addr, p.block < B → w'.cell? p = w.cell? p) : Reads w' B A n xs :=
  ⟨h.1, fun hn => by
    obtain ⟨ad, e, hb, hc⟩ := h.2 hn
    exact ⟨ad, e, hb, fun j u hu => (hk _ (by rw [block_of_add]; exact hb)).trans (hc j u hu)⟩⟩
theorem Reads.more (h : Reads w B A n xs) (hB : B ≤ B') : Reads w B' A n xs :=
  ⟨h.1, fun hn => by
    obtain ⟨ad, e, hb, hc⟩ := h.2 hn
    exact ⟨ad, e, by omega, hc⟩⟩
theorem Reads.below (h : Reads w B A n xs) (hb : Below B w w') : Reads w' B A n xs := h.keep fun _ hp => hb.cell hp
theorem Reads.drew (h : Reads w B A n xs) : Reads w.drew B A n xs := h
theorem Reads.drewN (h : Reads w B A n xs) (k : Nat) : Reads (w.drewN k) B A n xs := h
theorem Reads.alloc (h : Reads w B A n xs) (hB : B ≤ w.heap.size) (o : Obj) : Reads (w.alloc o) B A n xs := h.keep fun p hp => World.cell?_alloc_lt w o p (by omega)
theorem Reads.setCell (h : Reads w B A n xs) {p : Addr} (hB : B ≤ p.block) (u : Value) : Reads (w.setCell p u) B A n xs :=
  h.keep fun q hq => World.cell?_setCell_other w p q u (fun e => by subst e; omega)
theorem Reads.grown (h : Reads w B A n xs) {row : Option Nat} (hg : w.grownBy w' row) (hB : B ≤ w.heap.size) (hr : ∀ g, row = some g → B ≤ g) : Reads w' B A n xs :=
  h.keep fun p hp => World.cell?_of_block (hg.block p.block (by omega) (fun e => by have := hr _ e.symm; omega))
theorem Reads.of_own {base : Nat} {e : TypeId} {c : Nat} (h : w.ownsRow base e 1 (.slice A n c) n xs) : Reads w w.heap.size A n xs := by
  refine ⟨by simpa using h.1, fun hn => ?_⟩
  obtain ⟨g, cap, hv, _, hlt⟩ := h.form hn
  have hA : A = some ⟨g, 0, none⟩ := by injection hv
  subst hA
  exact ⟨_, rfl, hlt, h.cells (g := g) rfl⟩
/-- The first cells. -/
theorem Reads.take (h : Reads w B A n xs) {k : Nat} (hk : k ≤ n) : Reads w B A k (xs.take k) := by
  refine ⟨by rw [List.length_take, h.1]; omega, fun hn => ?_⟩
  obtain ⟨ad, e, hb, hc⟩ := h.2 (by omega)
  refine ⟨ad, e, hb, fun j u hu => hc j u ?_⟩
  rw [List.getElem?_take] at hu
  split at hu
  · exact hu
  · cases hu
/-- What a cut off the front leaves. -/
theorem Reads.cut (h : Reads w B A n xs) {k cap : Nat} (hk : k ≤ n) (hc : n ≤ cap) :
    Reads w B (if cap = k then A else A.map (·.add k)) (n - k) (xs.drop k) := by
  refine ⟨by rw [List.length_drop, h.1], fun hn => ?_⟩
  obtain ⟨ad, rfl, hb, hcell⟩ := h.2 (by omega)
  rw [if_neg (by omega)]
  refine ⟨ad.add k, rfl, by rw [block_of_add]; exact hb, fun j u hu => ?_⟩
  rw [add_of_add]
  exact hcell _ u (by rw [← hu, List.getElem?_drop])
end
/-! ### A block that is known whole. -/
def Blk (w : World) (g : Nat) (t : TypeId) (cs : List Value) : Prop := w.heap[g]? = some (.cells cs.toArray t (0, 0))
section
variable {w w' : World} {g : Nat} {t : TypeId} {cs : List Value}
theorem Blk.lt (h : Blk w g t cs) : g < w.heap.size := by
  rcases Nat.lt_or_ge g w.heap.size with hlt | hge
  · exact hlt
  · unfold Blk at h; rw [Array.getElem?_eq_none hge] at h; cases h
theorem Blk.cell (h : Blk w g t cs) (i : Nat) : w.cell? ⟨g, i, none⟩ = cs[i]? := by
  have := cell_of_row w g i cs.toArray t (0, 0) h
  simpa using this
theorem Blk.frozen (h : Blk w g t cs) (i : Nat) : w.frozen? ⟨g, i, none⟩ = false := by
  unfold Blk at h
  simp [World.frozen?, h]
theorem Blk.new (w : World) (t : TypeId) (cs : List Value) : Blk (w.alloc (.cells cs.toArray t)) w.heap.size t cs := heap_alloc_new w _
theorem Blk.drew (h : Blk w g t cs) : Blk w.drew g t cs := h
theorem Blk.drewN (h : Blk w g t cs) (n : Nat) : Blk (w.drewN n) g t cs := h
theorem Blk.alloc (h : Blk w g t cs) (o : Obj) : Blk (w.alloc o) g t cs := (Below.heap_alloc w o g h.lt).trans h
theorem Blk.set_ (h : Blk w g t cs) (i : Nat) (u : Value) : Blk (w.setCell ⟨g, i, none⟩ u) g t (cs.set i u) := by
  unfold Blk at h ⊢
  simp [World.setCell, Array.getElem?_modify, h]
theorem Blk.far (h : Blk w g t cs) {p : Addr} (hp : g ≠ p.block) (u : Value) : Blk (w.setCell p u) g t cs := (Below.heap_setCell w p u g hp).trans h
theorem Blk.below {B : Nat} (h : Blk w g t cs) (hb : Below B w w') (hg : g < B) : Blk w' g t cs := (hb.block g hg).trans h
theorem Blk.grown {row : Option Nat} (h : Blk w g t cs) (hb : w.grownBy w' row) (hg : some g ≠ row) : Blk w' g t cs := (hb.block g h.lt hg).trans h
/-- As a row of the call's own: the first n cells. -/
theorem Blk.own (h : Blk w g t cs) {base n cap : Nat} (hb : base ≤ g) (hn : n ≤ cap) (hc : cs.length = cap) (hm : cap ≤ maxLen) :
    w.ownsRow base t 1 (.slice (some ⟨g, 0, none⟩) n cap) n (cs.take n) :=
  ⟨by rw [List.length_take]; omega, .inr ⟨g, cap, cs.toArray, rfl, hb, h, hn, hm, by simp [hc], by simp⟩⟩
theorem Blk.reads (h : Blk w g t cs) {n : Nat} (hn : n ≤ cs.length) : Reads w w.heap.size (some ⟨g, 0, none⟩) n (cs.take n) := by
  refine ⟨by rw [List.length_take]; omega, fun _ => ⟨_, rfl, h.lt, fun j u hu => ?_⟩⟩
  have e : (⟨g, 0, none⟩ : Addr).add j = ⟨g, j, none⟩ := by unfold Addr.add; split <;> simp_all
  rw [e, h.cell]
  rw [List.getElem?_take] at hu
  split at hu
  · exact hu
  · cases hu
end
/-! ### make, as a block that is known whole, in a world that is a variable. -/
theorem wpList_make_blk {P : Program} (w : World) {ops : Array Oper} {rest : List Oper} {o : Oper} {a : Act} {Q : Exit → Act → World → Prop}
    (hg : o.guard = none) (l c : Operand) (t : TypeId) (hop : o.op = Op.makeSlice t l c)
    (e : TypeId) (i : TypeInfo) (z : Value) (h1 : P.underlying t = some (.slice e)) (h2 : P.info? e = some i) (h3 : i.zero = some z) (h4 : i.size = 1) (hz : z.cells = #[z])
    (kl kc : IntKind) (L C : Int) (n : Nat) (hl : a.eval l = .int kl L) (hc : a.eval c = .int kc C) (hL : L = (n : Int)) (hC : C = (n : Int)) (b2 : i.bytes * n ≤ 281474976710656) (b3 : n ≤ maxLen)
    (hK : ∀ w', Hid (Blk w' w.heap.size e (List.replicate n z)) → Below w.heap.size w w' → w'.heap.size = w.heap.size + 1 →
      wpList P ops Q rest (a.put o.dst (.slice (some ⟨w.heap.size, 0, none⟩) n n)) w') :
    wpList P ops Q (o :: rest) a w := by
  refine wpList_plain hg fun K hK' => ?_
  subst hL
  subst hC
  have b2' : (i.bytes : Int) * (n : Int) ≤ 281474976710656 := by
    have h : ((i.bytes * n : Nat) : Int) ≤ 281474976710656 := by omega
    rwa [Int.natCast_mul] at h
  unfold maxLen at b3
  have hrun := run_make (P := P) w t e i z h1 h2 h3 kl kc n n (by omega) (by omega) b2' (by omega)
  simp only [Int.toNat_natCast, h4, Nat.mul_one, hz] at hrun
  have ez : madeCells #[z] n = (List.replicate n z).toArray := by rw [← toList_madeCells_one]
  rw [ez] at hrun
  unfold Oper.wp
  simp [execOp, hop, hl, hc, hrun, Result.andThen]
  exact hK' _ _ (hK _ (Blk.new w e _) ((Below.refl _ _).alloc (Nat.le_refl _) _) (by simp))
/-! ### copy onto the head of a block that is known whole. -/
theorem wpList_copy_front {P : Program} {w : World} {ops : Array Oper} {rest : List Oper} {o : Oper} {a : Act} {Q : Exit → Act → World → Prop} (hgd : o.guard = none) (d s : Operand) (dT sT : TypeId)
    (ho : o.op = .call { callee := .builtin .copy, args := #[d, s], argTypes := #[dT, sT] }) (elem : TypeId) (hu : P.underlying dT = some (.slice elem)) (hsz : (P.info? elem).map (·.size) = some 1)
    (g dLen dCap : Nat) (sp : Option Addr) (sLen sCap : Nat) (hd : a.eval d = .slice (some ⟨g, 0, none⟩) dLen dCap) (hs : a.eval s = .slice sp sLen sCap)
    (t : TypeId) (cur : List Value) (hg : Blk w g t cur) (B : Nat) (xs : List Value) (hr : Reads w B sp sLen xs) (h1 : ∀ v ∈ xs, v.oneCell' = true) (hle : sLen ≤ dLen) (hcur : sLen ≤ cur.length)
    (B0 : Nat) (w0 : World) (hb : Below B0 w0 w) (hBg : B0 ≤ g)
    (h : ∀ w', Hid (Blk w' g t (xs ++ cur.drop sLen)) → Below B0 w0 w' → w'.heap.size = w.heap.size → (∀ k, k ≠ g → w'.heap[k]? = w.heap[k]?) → wpList P ops Q rest (a.put o.dst (goInt sLen)) w') : wpList P ops Q (o :: rest) a w := by
  have hl := hr.1
  by_cases h0 : sLen = 0
  · subst h0
    obtain rfl : xs = [] := List.eq_nil_of_length_eq_zero hl
    refine wpList_copy_nothing hgd d s dT sT ho elem hu hsz _ sp dLen dCap 0 sCap hd hs (by simp) ?_
    exact h w (show _ = _ by simpa [Blk] using hg) hb rfl (fun _ _ => rfl)
  · obtain ⟨ad, rfl, _, hc⟩ := hr.2 (by omega)
    have hn : xs.length = Nat.min sLen dLen := by rw [hl]; exact (Nat.min_eq_left hle).symm
    refine wpList_copy_own hgd d s dT sT ho elem hu hsz g 0 dLen dCap ad sLen sCap hd hs cur.toArray t hg xs hn hc (by simp; omega) h1 ?_
    have e : (cur.toArray.toList.take 0 ++ (xs ++ cur.toArray.toList.drop (0 + xs.length))).toArray = (xs ++ cur.drop sLen).toArray := by simp [hl]
    rw [e, hl]
    exact h _ (show _ = _ from setRow_heap w g _ _ t _ hg) (below_setRow hb hBg _) (by simp [World.setRow]) (fun k hk => setRow_other w g k _ hk)
/-! ### Bytes as a text. -/
def text (l : List UInt8) : ByteArray := ⟨l.toArray⟩
theorem text_fold (l : List UInt8) (s : ByteArray) : (l.map fun c : UInt8 => (c.toNat : Int)).foldl (fun (r : ByteArray) n => r.push (UInt8.ofNat n.toNat)) s = ⟨s.data ++ l.toArray⟩ := by
  induction l generalizing s with
  | nil => simp
  | cons c l ih =>
    simp only [List.map_cons, List.foldl_cons]
    rw [ih]
    simp [ByteArray.push]
theorem run_text {P : Program} {w : World} {B : Nat} {A : Option Addr} {n c : Nat} {l : List UInt8} {src dst e : TypeId} (hs : P.underlying src = some (.slice e)) (he : P.underlying e = some (.int .u8)) (hd : P.underlying dst = some .string)
    (hr : Reads w B A n (u8s l)) : (convert src dst (.slice A n c)).run P w = .ok (.string (text l)) w := by
  rw [run_convert_bytes_string w src dst e A n c hs he hd]
  have hl := hr.len
  rw [u8s_length] at hl
  have em : u8s l = (l.map fun c : UInt8 => (c.toNat : Int)).map (Value.int .u8) := by simp [u8s]
  have key : ∀ ad : Addr, (∀ j u, (u8s l)[j]? = some u → w.cell? (ad.add j) = some u) → (Conv.bytesToString (.slice (some ad) n c)).run P w = .ok (.string (text l)) w := by
    intro ad hc
    have h := run_bytesToString (P := P) w ad n c (l.map fun c : UInt8 => (c.toNat : Int)) (by
      rw [← em]
      have := run_loadCells_list (P := P) w ad (u8s l) hc
      rwa [u8s_length, hl] at this)
    rw [text_fold] at h
    have e : (⟨ByteArray.empty.data ++ l.toArray⟩ : ByteArray) = text l := by
      unfold text
      congr 1
      show #[] ++ _ = _
      simp
    rw [e] at h
    exact h
  by_cases h0 : n = 0
  · subst h0
    obtain rfl : l = [] := List.eq_nil_of_length_eq_zero hl
    cases A with
    | none => simp [Conv.bytesToString, text, Sem.run_pure]; rfl
    | some a => exact key a (by intro j u hu; simp [u8s] at hu)
  · obtain ⟨ad, rfl, _, hc⟩ := hr.2 (by omega)
    exact key ad hc
/-! ### append onto a row of the call's own; the source nil, empty or not. -/
section
variable {P : Program} (w : World)
theorem run_append_of_nil (base : Nat) (t ty e : TypeId) (i : TypeInfo) (ht : P.underlying t = some (.slice e)) (hi : P.info? e = some i)
    (v : Value) (n : Nat) (xs : List Value) (hown : w.ownsRow base e 1 v n xs) (c : Nat) : (Builtin.append_ #[t, t] ty #[v, .slice none 0 c]).run P w = .ok v w := by
  rcases hown.2 with ⟨rfl, rfl⟩ | ⟨g, cap, cur, rfl, _, _, hnc, _⟩
  · simp [Builtin.append_, run_underlying ht, sizeOf, typeInfo, hi, Builtin.lenOf, Builtin.firstCells]
  · simp [Builtin.append_, run_underlying ht, sizeOf, typeInfo, hi, Builtin.lenOf, Builtin.firstCells, hnc, storeCells]
theorem run_app (base : Nat) (t ty e : TypeId) (i : TypeInfo) (z : Value) (bytes : Nat) (ht : P.underlying t = some (.slice e)) (hi : P.info? e = some i) (hz : i.zero = some z)
    (hsize : i.size = 1) (hby : i.bytes = bytes) (hzs : z.cells.size = 1)
    (v : Value) (n : Nat) (xs : List Value) (hown : w.ownsRow base e 1 v n xs)
    (B : Nat) (A : Option Addr) (m c : Nat) (news : List Value) (hr : Reads w B A m news) (h1 : ∀ u ∈ news, u.oneCell' = true)
    (h63 : n + m ≤ maxLen) (hbytes : (n + m) * bytes ≤ 140737488355328) (hbase : base ≤ w.heap.size) :
    ∃ v' w', (Builtin.append_ #[t, t] ty #[v, .slice A m c]).run P w = .ok v' w' ∧ w'.ownsRow base e 1 v' (n + m) (xs ++ news) ∧ w.grownBy w' v.ownBlock := by
  have hcells : ∀ ad, A = some ad → ∀ j u, news[j]? = some u → w.cell? (ad.add j) = some u := by
    rintro ad rfl j u hu
    rcases Nat.eq_zero_or_pos m with h0 | h0
    · subst h0
      have hn : news = [] := List.eq_nil_of_length_eq_zero hr.1
      subst hn
      simp at hu
    · obtain ⟨ad', h, _, hc⟩ := hr.2 h0
      injection h with h
      subst h
      exact hc j u hu
  rcases A with _ | ad
  · have hm : m = 0 := by
      rcases Nat.eq_zero_or_pos m with h0 | h0
      · exact h0
      · obtain ⟨ad, h, _⟩ := hr.2 h0
        cases h
    subst hm
    have hn : news = [] := List.eq_nil_of_length_eq_zero hr.1
    subst hn
    exact ⟨v, w, run_append_of_nil w base t ty e i ht hi v n xs hown c, by simpa using hown, World.grownBy.refl w _⟩
  · obtain ⟨v', w', hrun, h2, h3, _⟩ := run_append_own (P := P) w base t ty e i z 1 bytes ht hi hz hsize hby hzs (by decide) v n xs hown ad m c news (by rw [hr.1, Nat.mul_one]) (hcells ad rfl) h1 h63 hbytes hbase
    exact ⟨v', w', hrun, h2, h3⟩
end
/-- A row that the call owns is a slice value. -/
theorem own_slice {w : World} {base : Nat} {e : TypeId} {size n : Nat} {v : Value} {xs : List Value} (h : w.ownsRow base e size v n xs) : ∃ A c, v = .slice A n c := by
  rcases h.2 with ⟨rfl, rfl⟩ | ⟨g, cap, cur, rfl, _⟩
  · exact ⟨none, 0, rfl⟩
  · exact ⟨_, _, rfl⟩
theorem own_block_ge {w : World} {base : Nat} {e : TypeId} {size n : Nat} {v : Value} {xs : List Value} (h : w.ownsRow base e size v n xs) : ∀ k, v.ownBlock = some k → base ≤ k :=
  fun k hk => (h.lt k hk).1
theorem wpList_app {P : Program} {w : World} {ops : Array Oper} {rest : List Oper} {o : Oper} {a : Act} {Q : Exit → Act → World → Prop} (hgd : o.guard = none) (s x : Operand) (t : TypeId)
    (ho : o.op = .call { callee := .builtin .append, args := #[s, x], argTypes := #[t, t] })
    (base : Nat) (e : TypeId) (i : TypeInfo) (z : Value) (bytes : Nat) (ht : P.underlying t = some (.slice e)) (hi : P.info? e = some i) (hz : i.zero = some z)
    (hsize : i.size = 1) (hby : i.bytes = bytes) (hzs : z.cells.size = 1)
    (v : Value) (n : Nat) (xs : List Value) (hs : a.eval s = v) (hown : w.ownsRow base e 1 v n xs)
    (B : Nat) (A : Option Addr) (m c : Nat) (news : List Value) (hx : a.eval x = .slice A m c) (hr : Reads w B A m news) (h1 : ∀ u ∈ news, u.oneCell' = true)
    (h63 : n + m ≤ maxLen) (hbytes : (n + m) * bytes ≤ 140737488355328) (hbase : base ≤ w.heap.size) (w0 : World) (hb : Below base w0 w)
    (h : ∀ A' c' w', Hid (w'.ownsRow base e 1 (.slice A' (n + m) c') (n + m) (xs ++ news)) → Below base w0 w' → Hid (w.grownBy w' v.ownBlock) → wpList P ops Q rest (a.put o.dst (.slice A' (n + m) c')) w') : wpList P ops Q (o :: rest) a w := by
  refine wpList_plain hgd fun K hK => ?_
  obtain ⟨v', w', hrun, h2, h3⟩ := run_app (P := P) w base t o.type e i z bytes ht hi hz hsize hby hzs v n xs hown B A m c news hr h1 h63 hbytes hbase
  unfold Oper.wp execOp
  simp only [ho, resolve, invoke, builtin, Sem.run_bind, Sem.run_pure, Result.andThen_ok, List.map_toArray, List.map_cons, List.map_nil, hs, hx, hrun]
  obtain ⟨A', c', rfl⟩ := own_slice h2
  exact hK _ _ (h A' c' w' h2 (hb.grown h3 hbase (own_block_ge hown)) h3)
/-- A slice that the text wrote out with one element. -/
theorem Reads.new1 (w : World) (x : Value) (t : TypeId) : Reads (w.alloc (.cells #[x] t)) (w.heap.size + 1) (some ⟨w.heap.size, 0, none⟩) 1 [x] := by
  have h := Blk.new w t [x]
  have := h.reads (n := 1) (by simp)
  simpa using this
theorem Reads.of_blk {w : World} {g : Nat} {t : TypeId} {cs : List Value} (h : Blk w g t cs) : Reads w w.heap.size (some ⟨g, 0, none⟩) cs.length cs := by
  have := h.reads (Nat.le_refl _)
  rwa [List.take_length] at this
@[simp] theorem text_toList (l : List UInt8) : (text l).toList = l := by rw [ByteArray.toList_eq]; simp [text]
theorem text_size (l : List UInt8) : (text l).size = l.length := by simp [text, ByteArray.size]
theorem text_of (s : ByteArray) : text s.data.toList = s := by simp [text]
theorem unhide {p : Prop} (h : Hid p) : p := h
/-- Bytes of the call's own: a slice of n bytes that owns its row from base on, and reads as l. -/
structure Made (w0 w : World) (t : TypeId) (A : Option Addr) (n c : Nat) (l : List UInt8) : Prop where
  own : w.ownsRow w0.heap.size t 1 (.slice A n c) n (u8s l)
  below : Below w0.heap.size w0 w
theorem Made.reads {w0 w : World} {t : TypeId} {A : Option Addr} {n c : Nat} {l : List UInt8} (h : Made w0 w t A n c l) : Reads w w.heap.size A n (u8s l) := Reads.of_own h.own
theorem Made.len {w0 w : World} {t : TypeId} {A : Option Addr} {n c : Nat} {l : List UInt8} (h : Made w0 w t A n c l) : l.length = n := by
  have := h.own.1
  simpa using this
theorem _root_.Go.World.ownsRow.below_ {w w' : World} {base : Nat} {e : TypeId} {size n : Nat} {v : Value} {xs : List Value} (h : w.ownsRow base e size v n xs) (hb : Below w.heap.size w w') : w'.ownsRow base e size v n xs := by
  refine ⟨h.1, ?_⟩
  rcases h.2 with hn | ⟨g, cap, cur, rfl, hbg, hg, rest⟩
  · exact .inl hn
  · exact .inr ⟨g, cap, cur, rfl, hbg, by rw [hb.block g (Array.getElem?_eq_some_iff.1 hg).1]; exact hg, rest⟩
end Go.Proofs.YtkdmfjpfanmgmaaGreatDoor
namespace Go.Proofs.YtkdmfjpfanmgmaaGreatDoor
open Go.RowKit
/-- A slice of integers that came in: it is nil; or it leads to a row of 'cap' cells, the numbers 'zs', each fitting its kind. -/
def IsRow (k : IntKind) (w : World) (a : Option Addr) (len cap : Nat) (zs : List Int) : Prop :=
  (a = none ∧ len = 0 ∧ cap = 0 ∧ zs = []) ∨
  ∃ x, a = some x ∧ len ≤ cap ∧ cap ≤ maxLen ∧ zs.length = cap ∧ (∀ i, i < zs.length → w.cell? (x.add i) = some (.int k (zs.getD i 0))) ∧ ∀ n ∈ zs, (Lit.int k n).wf = true
theorem IsRow.ints {k : IntKind} {w : World} {a : Option Addr} {len cap : Nat} {zs : List Int} (h : IsRow k w a len cap zs) :
    Reads w w.heap.size a len ((zs.take len).map (Value.int k)) ∧ len ≤ cap ∧ (zs.take len).length = len := by
  rcases h with ⟨rfl, rfl, rfl, rfl⟩ | ⟨x, rfl, hl, hm, hz, hc, hw⟩
  · exact ⟨by simpa using Reads.none_, Nat.le_refl _, rfl⟩
  · have hlen : (zs.take len).length = len := by rw [List.length_take]; omega
    refine ⟨⟨by simpa using hlen, fun hn => ⟨x, rfl, ?_, fun j u hu => ?_⟩⟩, hl, hlen⟩
    · have := World.block_lt_of_cell? w _ (hc 0 (by omega))
      rwa [block_of_add] at this
    · simp only [List.getElem?_map, List.getElem?_take] at hu
      split at hu
      · have hj : j < zs.length := by
          rcases Nat.lt_or_ge j zs.length with h | h
          · exact h
          · rw [List.getElem?_eq_none h] at hu; simp at hu
        rw [List.getElem?_eq_getElem hj] at hu
        simp only [Option.map_some, Option.some.injEq] at hu
        subst hu
        have := hc j hj
        rwa [List.getD_eq_getElem?_getD, List.getElem?_eq_getElem hj, Option.getD_some] at this
      · simp at hu
theorem IsRow.bytes {w : World} {a : Option Addr} {len cap : Nat} {zs : List Int} (h : IsRow .u8 w a len cap zs) :
    ∃ l : List UInt8, Reads w w.heap.size a len (u8s l) ∧ len ≤ cap := by
  obtain ⟨h1, h2, h3⟩ := h.ints
  have hw : ∀ n ∈ zs, (Lit.int .u8 n).wf = true := by
    rcases h with ⟨_, _, _, rfl⟩ | ⟨_, _, _, _, _, _, hw⟩
    · intro n hn; cases hn
    · exact hw
  refine ⟨(zs.take len).map fun n => UInt8.ofNat n.toNat, ?_, h2⟩
  have e : u8s ((zs.take len).map fun n => UInt8.ofNat n.toNat) = (zs.take len).map (Value.int .u8) := by
    unfold u8s
    rw [List.map_map]
    refine List.map_congr_left fun n hn => ?_
    have hb := hw n (List.mem_of_mem_take hn)
    have hb2 : 0 ≤ n ∧ n ≤ 255 := by simpa [Lit.wf, IntKind.min, IntKind.max, IntKind.signed, IntKind.bits] using hb
    have : (UInt8.ofNat n.toNat).toNat = n.toNat % 256 := UInt8.toNat_ofNat'
    simp only [Function.comp]
    rw [this]
    congr 1
    omega
  rw [e]
  exact h1
end Go.Proofs.YtkdmfjpfanmgmaaGreatDoor
