/- Words for what is kept in new memory; the walk of own. -/
import Derived.Test.YtkdmfjpfanmgmaaFold4
import Derived.Deep.RegionLaw
namespace Go.Proofs.Ytkdmfjpfanmgmaa
open Go.RowKit Le
set_option maxRecDepth 100000
set_option linter.unusedSimpArgs false
set_option linter.unusedVariables false

/-! ### Things of many cells in new rows. -/
/-- The things in a row's cells; what they lead to lies in new blocks of the types us. -/
def ThingsN (w : World) (base : Nat) (us : List TypeId) (sh : List Sh) (ds : List (List Da)) (xs : List Value) : Prop :=
  ∀ (j : Nat) (d : List Da), ds[j]? = some d → ∃ vs, Cels w (Nw w base us) sh d vs ∧ ∀ (i : Nat) (u : Value), vs[i]? = some u → xs[j * sh.length + i]? = some u
section
variable {w w' : World} {base : Nat} {us : List TypeId} {sh : List Sh} {ds : List (List Da)} {xs vs : List Value}
theorem ThingsN.nil : ThingsN w base us sh [] xs := fun j d h => by simp at h
theorem ThingsN.keeps {ts : List TypeId} (h : ThingsN w base us sh ds xs) (hk : Keeps ts w w') (hd : ∀ t, t ∈ us → t ∉ ts) : ThingsN w' base us sh ds xs := fun j d hj => by
  obtain ⟨vs, h1, h2⟩ := h j d hj
  exact ⟨vs, h1.nw_keeps hk hd, h2⟩
theorem ThingsN.snoc {d : List Da} (h : ThingsN w base us sh ds xs) (hx : xs.length = ds.length * sh.length) (hv : Cels w (Nw w base us) sh d vs) : ThingsN w base us sh (ds ++ [d]) (xs ++ vs) := fun j d' hj => by
  by_cases hlt : j < ds.length
  · rw [List.getElem?_append_left hlt] at hj
    obtain ⟨vs', h1, h2⟩ := h j d' hj
    refine ⟨vs', h1, fun i u hu => ?_⟩
    have h3 := h2 i u hu
    have h4 : j * sh.length + i < xs.length := by
      rcases Nat.lt_or_ge (j * sh.length + i) xs.length with h4 | h4
      · exact h4
      · rw [List.getElem?_eq_none h4] at h3; cases h3
    rw [List.getElem?_append_left h4]
    exact h3
  · have hje : j = ds.length := by
      rcases Nat.lt_or_ge j (ds.length + 1) with h4 | h4
      · omega
      · rw [List.getElem?_eq_none (by simp; omega)] at hj; cases hj
    subst hje
    rw [List.getElem?_append_right (Nat.le_refl _), Nat.sub_self] at hj
    simp only [List.getElem?_cons_zero, Option.some.injEq] at hj
    subst hj
    refine ⟨vs, hv, fun i u hu => ?_⟩
    rw [List.getElem?_append_right (by omega), hx, Nat.add_sub_cancel_left]
    exact hu
/-- A row of the call's own as a list of things. -/
theorem rowsAt_ownN {base n c : Nat} {e : TypeId} {A : Option Addr} (h : w.ownsRow base e sh.length (.slice A n c) n xs) (hn : ds.length = n) (hd : ThingsN w base us sh ds xs) : RowsAt w (Nw w base (e :: us)) sh ds A := by
  intro h0
  obtain ⟨g, cap, hv, _, hlt⟩ := h.form (by omega)
  have hA : A = some ⟨g, 0, none⟩ := by injection hv
  subst hA
  refine ⟨_, rfl, ?_, fun j d hj => ?_⟩
  · rcases h.2 with ⟨h0, _⟩ | ⟨g', cap', cur, hv', hg, hh, _⟩
    · cases h0
    · injection hv' with hv'
      injection hv' with hv'
      injection hv' with hv'
      subst hv'
      exact ⟨hg, e, by simp, cur, hh⟩
  · obtain ⟨vs, h1, h2⟩ := hd j d hj
    exact ⟨vs, h1.nw_mono (Nat.le_refl _) (fun t ht => List.mem_cons_of_mem _ ht), fun i u hu => h.cells (g := g) rfl _ u (h2 i u hu)⟩
end
/-- append of one thing of many cells, as one step of a region that draws. -/
theorem step_appN {P : Program} {w : World} {ops : Array Oper} {o : Oper} {a : Act} {K : Act → World → Prop} {Q : Exit → Act → World → Prop} {E : Prop} (hgd : o.guard = none) (s x : Operand) (t : TypeId)
    (ho : o.op = .call { callee := .builtin .append, args := #[s, x], argTypes := #[t, t] })
    (base : Nat) (e : TypeId) (i : TypeInfo) (z : Value) (size bytes : Nat) (ht : P.underlying t = some (.slice e)) (hi : P.info? e = some i) (hz : i.zero = some z)
    (hsize : i.size = size) (hby : i.bytes = bytes) (hzs : z.cells.size = size) (hsz : 0 < size)
    (v : Value) (n : Nat) (xs : List Value) (hs : a.eval s = v) (hown : w.ownsRow base e size v n xs)
    (ad : Addr) (c : Nat) (news : List Value) (hx : a.eval x = .slice (some ad) 1 c) (hl : news.length = size) (hnews : ∀ j u, news[j]? = some u → w.cell? (ad.add j) = some u) (h1 : ∀ u ∈ news, u.oneCell' = true)
    (h63 : n + 1 ≤ maxLen) (hbytes : (n + 1) * bytes ≤ 140737488355328) (hbase : base ≤ w.heap.size)
    (hK : ∀ A' c' w', Hid (w'.ownsRow base e size (.slice A' (n + 1) c') (n + 1) (xs ++ news)) → Hid (w.grownBy w' v.ownBlock) → K (a.put o.dst (.slice A' (n + 1) c')) w') :
    if Region.wanted o (yielded ops a.tmps) = true then Oper.wp P o a w K Q else E := by
  have hw : Region.wanted o (yielded ops a.tmps) = true := by simp [Region.wanted, hgd]
  rw [if_pos hw]
  obtain ⟨v', w', hrun, h2, h3, _⟩ := run_append_own (P := P) w base t o.type e i z size bytes ht hi hz hsize hby hzs hsz v n xs hown ad 1 c news (by rw [hl, Nat.one_mul]) hnews h1 h63 hbytes hbase
  unfold Oper.wp execOp
  simp only [ho, resolve, invoke, builtin, Sem.run_bind, Sem.run_pure, Result.andThen_ok, List.map_toArray, List.map_cons, List.map_nil, hs, hx, hrun]
  obtain ⟨A', c', rfl⟩ := own_slice h2
  exact hK A' c' w' h2 h3

/-! ### What is kept. -/
def Kep.cs (k : Kep) (A : Option Addr) (c : Nat) (B : Option Addr) (d : Nat) (E : Option Addr) (n : Nat) : List Value :=
  [.int .i64 k.term, .int .i64 k.vote, .int .i64 k.snp.idx, .int .i64 k.snp.term, .slice A k.snp.v.length c, .slice B k.snp.l.length d, .string (text k.snp.b), .slice E k.ents.length n]
/-- What it leads to. -/
structure KepAt (w : World) (S : Nat → Prop) (k : Kep) (A B E : Option Addr) : Prop where
  v : RowsAt w S [.num] (nums k.snp.v) A
  l : RowsAt w S [.num] (nums k.snp.l) B
  e : RowsAt w S shEntry (k.ents.map Ent.da) E
theorem KepAt.turn {w w' : World} {S S' : Nat → Prop} {k : Kep} {A B E : Option Addr} (h : KepAt w S k A B E) (hs : ∀ k, S k → S' k) (hc : ∀ p : Addr, S p.block → w'.cell? p = w.cell? p) : KepAt w' S' k A B E :=
  ⟨h.v.turn hs hc, h.l.turn hs hc, h.e.turn hs hc⟩
theorem KepAt.below {w w' : World} {B0 : Nat} {k : Kep} {A B E : Option Addr} (h : KepAt w (· < B0) k A B E) (hb : Below B0 w w') : KepAt w' (· < B0) k A B E := ⟨h.v.below hb, h.l.below hb, h.e.below hb⟩
theorem KepAt.more {w : World} {B0 B1 : Nat} {k : Kep} {A B E : Option Addr} (h : KepAt w (· < B0) k A B E) (hb : B0 ≤ B1) : KepAt w (· < B1) k A B E := ⟨h.v.more hb, h.l.more hb, h.e.more hb⟩
/-- Lists are short. -/
structure Snp.Small (s : Snp) : Prop where
  v : s.v.length ≤ 1048576
  l : s.l.length ≤ 1048576
structure Ent.Small (e : Ent) : Prop where
  v : e.v.length ≤ 1048576
  l : e.l.length ≤ 1048576
structure Kep.Small (k : Kep) : Prop where
  s : k.snp.Small
  n : k.ents.length ≤ 1048576
  e : ∀ x ∈ k.ents, x.Small
theorem nums_inj {a b : List Int} (h : nums a = nums b) : a = b := by
  induction a generalizing b with
  | nil => cases b with
    | nil => rfl
    | cons c b => simp [nums] at h
  | cons c a ih => cases b with
    | nil => simp [nums] at h
    | cons d b =>
      simp only [nums, List.map_cons, List.cons.injEq, Da.int.injEq, and_true] at h
      rw [h.1, ih h.2]
theorem Ent.da_inj {a b : Ent} (h : a.da = b.da) : a = b := by
  simp only [Ent.da, List.cons.injEq, Da.int.injEq, Da.rows.injEq, Da.text.injEq, and_true] at h
  obtain ⟨h1, h2, h3, h4, h5, h6⟩ := h
  cases a; cases b
  simp only [Ent.mk.injEq]
  exact ⟨h1, h2, h3, nums_inj h4, nums_inj h5, h6⟩
theorem Snp.da_inj {a b : Snp} (h : a.da = b.da) : a = b := by
  simp only [Snp.da, List.cons.injEq, Da.int.injEq, Da.rows.injEq, Da.text.injEq, and_true] at h
  obtain ⟨h1, h2, h4, h5, h6⟩ := h
  cases a; cases b
  simp only [Snp.mk.injEq]
  exact ⟨h1, h2, nums_inj h4, nums_inj h5, h6⟩
/-- One entry of a list. -/
theorem ents_at {w : World} {S : Nat → Prop} {l : List Ent} {E : Option Addr} (h : RowsAt w S shEntry (l.map Ent.da) E) {j : Nat} (hj : j < l.length) :
    ∃ ad A c B d, E = some ad ∧ S ad.block ∧ RowsAt w S [.num] (nums l[j].v) A ∧ RowsAt w S [.num] (nums l[j].l) B ∧ ∀ i u, (l[j].cs A c B d)[i]? = some u → w.cell? (ad.add (j * 6 + i)) = some u := by
  obtain ⟨ad, e, hS, h⟩ := h (by rw [List.length_map]; omega)
  obtain ⟨vs, h1, h2⟩ := h j l[j].da (by simp [hj])
  obtain ⟨x, A, c, B, d, e1, rfl, r1, r2⟩ := Ent.open_ h1
  have := Ent.da_inj e1
  subst this
  exact ⟨ad, A, c, B, d, e, hS, r1, r2, h2⟩
/-- What is kept lies in new memory: the entries in a row of the call's own. -/
structure KepOwn (w : World) (base : Nat) (k : Kep) (A B E : Option Addr) (n : Nat) : Prop where
  v : RowsAt w (Nw w base [3]) [.num] (nums k.snp.v) A
  l : RowsAt w (Nw w base [3]) [.num] (nums k.snp.l) B
  e : ∃ xs, w.ownsRow base 34 6 (.slice E k.ents.length n) k.ents.length xs ∧ ThingsN w base [3] shEntry (k.ents.map Ent.da) xs
theorem KepOwn.at_ {w : World} {base : Nat} {k : Kep} {A B E : Option Addr} {n : Nat} (h : KepOwn w base k A B E n) : KepAt w (Nw w base [34, 3]) k A B E := by
  obtain ⟨xs, ho, ht⟩ := h.e
  exact ⟨h.v.nw_mono (Nat.le_refl _) (by simp), h.l.nw_mono (Nat.le_refl _) (by simp), rowsAt_ownN ho (by simp) ht⟩
theorem KepOwn.keeps {ts : List TypeId} {w w' : World} {base : Nat} {k : Kep} {A B E : Option Addr} {n : Nat} (h : KepOwn w base k A B E n) (hk : Keeps ts w w') (h1 : 3 ∉ ts) (h2 : 34 ∉ ts) : KepOwn w' base k A B E n := by
  obtain ⟨xs, ho, ht⟩ := h.e
  exact ⟨h.v.nw_keeps hk (by simpa using h1), h.l.nw_keeps hk (by simpa using h1), xs, ho.keeps hk h2, ht.keeps hk (by simpa using h1)⟩
/-- What is kept, copied to new memory. -/
def KepEnd (w : World) (k : Kep) (e : Ending) (w' : World) : Prop :=
  ∃ A c B d E n, e = .returned (.agg (k.cs A c B d E n).toArray) ∧ KepOwn w' w.heap.size k A B E n ∧ Below w.heap.size w w'
theorem info_entry : (Try.prog.info? 34).map (fun i => (i.zero, i.size, i.bytes)) = some (some (.agg #[.int .i64 0, .int .i64 0, .int .i64 0, .slice none 0 0, .slice none 0 0, .string ⟨#[]⟩]), 6, 88) := by kernel_rfl

set_option maxHeartbeats 1600000 in
theorem own_any (k : Kep) (A : Option Addr) (c : Nat) (B : Option Addr) (d : Nat) (E : Option Addr) (n : Nat) (w : World) (h : KepAt w (· < w.heap.size) k A B E) (hs : k.Small) :
    Calls Try.prog 16 #[.agg (k.cs A c B d E n).toArray] w (KepEnd w k) := by
  obtain ⟨i0, hi0, hz0, hz1, hz2⟩ := info_parts info_entry
  unfold Kep.cs
  have P := blk2 w 30 30 [.int .i64 k.term, .int .i64 k.vote, .int .i64 k.snp.idx, .int .i64 k.snp.term, .slice A k.snp.v.length c, .slice B k.snp.l.length d, .string (text k.snp.b), .slice E k.ents.length n] [.int .i64 0, .int .i64 0, .int .i64 0, .int .i64 0, .slice none 0 0, .slice none 0 0, .string ⟨#[]⟩, .slice none 0 0]
  have P0 := Lib.hid P.1
  have P1 := Lib.hid P.2
  have HA := Lib.hid h
  have HS := Lib.hid hs
  have hn := hs.n
  clear P h hs
  go_enter Try.func16, Try.ntmps16
  go_wp2_with fail
  refine at_below w _ (by repeat (first | with_reducible exact Below.refl _ _ | with_reducible assumption | (with_reducible refine Below.setCell ?_ (by dsimp only; (first | omega | (simp; done) | (simp; omega))) _) | (with_reducible refine Below.alloc ?_ (by (first | omega | (simp; done) | (simp; omega))) _) | with_reducible refine Below.drew ?_)) fun HBx => ?_
  refine (ownSnap_any k.snp A c B d _ ((HA.out.v.below HBx).more (by (first | omega | (simp; done) | (simp; omega)))) ((HA.out.l.below HBx).more (by (first | omega | (simp; done) | (simp; omega)))) (by have := HS.out.s.v; omega) (by have := HS.out.s.l; omega)).mono ?_
  rintro e w1 ⟨A1, c1, B1, d1, rfl, hr1, hr2, hb⟩
  have z1 := hb.size
  have R0 := Lib.hid (P0.out.below hb P0.out.lt)
  have R1 := Lib.hid (P1.out.below hb P1.out.lt)
  have HB1 := Lib.hid (HBx.trans (hb.mono (by (first | omega | (simp; done) | (simp; omega)))))
  have r1 := Lib.hid (hr1.nw_mono (base' := w.heap.size) (by (first | omega | (simp; done) | (simp; omega))) fun _ h => h)
  have r2 := Lib.hid (hr2.nw_mono (base' := w.heap.size) (by (first | omega | (simp; done) | (simp; omega))) fun _ h => h)
  clear hr1 hr2 hb HBx P0 P1
  unfold Snp.cs
  have a2 : w1.cell? ⟨w.heap.size, 2, none⟩ = some (.int .i64 k.snp.idx) := R0.out.cell 2
  have p2 : w1.frozen? ⟨w.heap.size, 2, none⟩ = false := R0.out.frozen 2
  have a3 : w1.cell? ⟨w.heap.size, 3, none⟩ = some (.int .i64 k.snp.term) := R0.out.cell 3
  have p3 : w1.frozen? ⟨w.heap.size, 3, none⟩ = false := R0.out.frozen 3
  have a4 : w1.cell? ⟨w.heap.size, 4, none⟩ = some (.slice A k.snp.v.length c) := R0.out.cell 4
  have p4 : w1.frozen? ⟨w.heap.size, 4, none⟩ = false := R0.out.frozen 4
  have a5 : w1.cell? ⟨w.heap.size, 5, none⟩ = some (.slice B k.snp.l.length d) := R0.out.cell 5
  have p5 : w1.frozen? ⟨w.heap.size, 5, none⟩ = false := R0.out.frozen 5
  have a6 : w1.cell? ⟨w.heap.size, 6, none⟩ = some (.string (text k.snp.b)) := R0.out.cell 6
  have p6 : w1.frozen? ⟨w.heap.size, 6, none⟩ = false := R0.out.frozen 6
  have a7 : w1.cell? ⟨w.heap.size, 7, none⟩ = some (.slice E k.ents.length n) := R0.out.cell 7
  have p7 : w1.frozen? ⟨w.heap.size, 7, none⟩ = false := R0.out.frozen 7
  go_wp2
  clear a2 a3 a4 a5 a6 a7 p2 p3 p4 p5 p6 p7
  go_loopw [15] (fun i wr => ∃ (j : Nat) (E' : Option Addr) (c' : Nat) (xs : List Value), j ≤ k.ents.length ∧ i = .int .i64 j ∧ Hid (Blk wr w.heap.size 30 [.int .i64 k.term, .int .i64 k.vote, .int .i64 k.snp.idx, .int .i64 k.snp.term, .slice A1 k.snp.v.length c1, .slice B1 k.snp.l.length d1, .string (text k.snp.b), .slice E' j c']) ∧ Hid (Blk wr (w.heap.size + 1) 30 [.int .i64 0, .int .i64 0, .int .i64 0, .int .i64 0, .slice none 0 0, .slice none 0 0, .string ⟨#[]⟩, .slice none 0 0]) ∧ Hid (wr.ownsRow w.heap.size 34 6 (.slice E' j c') j xs) ∧ Hid (ThingsN wr w.heap.size [3] shEntry ((k.ents.take j).map Ent.da) xs) ∧ Hid (Below w.heap.size w wr) ∧ Hid (RowsAt wr (Nw wr w.heap.size [3]) [.num] (nums k.snp.v) A1) ∧ Hid (RowsAt wr (Nw wr w.heap.size [3]) [.num] (nums k.snp.l) B1)) (fun i _ => k.ents.length - (intOf i).toNat)
  case atStart =>
    refine ⟨0, none, 0, [], Nat.zero_le _, rfl, Lib.hid ?_, Lib.hid (by repeat (first | with_reducible exact R1.out | (with_reducible refine Blk.far ?_ (by dsimp only; (first | omega | (simp; done) | (simp; omega))) _) | with_reducible refine Blk.alloc ?_ _ | with_reducible refine Blk.drew ?_)), Lib.hid (World.ownsRow_nil _ _ _ _), Lib.hid ThingsN.nil, Lib.hid (by repeat (first | with_reducible exact HB1.out | (with_reducible refine Below.setCell ?_ (by dsimp only; (first | omega | (simp; done) | (simp; omega))) _) | (with_reducible refine Below.alloc ?_ (by (first | omega | (simp; done) | (simp; omega))) _) | with_reducible refine Below.drew ?_)), Lib.hid (r1.out.nw_keeps (us := [30]) (by repeat (first | with_reducible exact Keeps.refl _ _ | (with_reducible refine Keeps.step1 ?_ (by repeat (first | with_reducible exact Blk.typ R0.out | with_reducible refine TypeAt.setCell ?_ _ _))))) (by decide)), Lib.hid (r2.out.nw_keeps (us := [30]) (by repeat (first | with_reducible exact Keeps.refl _ _ | (with_reducible refine Keeps.step1 ?_ (by repeat (first | with_reducible exact Blk.typ R0.out | with_reducible refine TypeAt.setCell ?_ _ _))))) (by decide))⟩
    have := R0.out.set_ 2 (.int .i64 k.snp.idx) |>.set_ 3 (.int .i64 k.snp.term) |>.set_ 4 (.slice A1 k.snp.v.length c1) |>.set_ 5 (.slice B1 k.snp.l.length d1) |>.set_ 6 (.string (text k.snp.b)) |>.set_ 7 (.slice none 0 0)
    simpa using this
  case round =>
    obtain ⟨j, E', c', xs, hj, rfl, Q0, Q1, HO, HT, HBw, q1, q2⟩ := hrel
    clear R0 R1 r1 r2 HB1 z1
    by_cases hlt : j < k.ents.length
    · have HT1 : Hid ((k.ents.take (j + 1)).map Ent.da = (k.ents.take j).map Ent.da ++ [(k.ents[j]).da]) := Lib.hid (by rw [List.take_succ_eq_append_getElem hlt, List.map_append]; rfl)
      obtain ⟨ad, A3, c3, B3, d3, rfl, _, e1, e2, hcell⟩ := ents_at (HA.out.e.below HBw.out) hlt
      have hsm := HS.out.e _ (List.getElem_mem hlt)
      generalize k.ents[j] = x at *
      have HC3 := Lib.hid e1
      have HC4 := Lib.hid e2
      have HSM := Lib.hid hsm
      unfold Ent.cs at hcell
      have hc0 : wr.cell? (ad.add (j * 6)) = some (.int .i64 x.idx) := hcell 0 _ rfl
      have hc1 : wr.cell? ⟨(ad.add (j * 6)).block, (ad.add (j * 6)).off + 1, none⟩ = some (.int .i64 x.term) := by rw [← add_field ad (j * 6) 1 (by decide)]; exact hcell 1 _ rfl
      have hc2 : wr.cell? ⟨(ad.add (j * 6)).block, (ad.add (j * 6)).off + 2, none⟩ = some (.int .i64 x.kind) := by rw [← add_field ad (j * 6) 2 (by decide)]; exact hcell 2 _ rfl
      have hc3 : wr.cell? ⟨(ad.add (j * 6)).block, (ad.add (j * 6)).off + 3, none⟩ = some (.slice A3 x.v.length c3) := by rw [← add_field ad (j * 6) 3 (by decide)]; exact hcell 3 _ rfl
      have hc4 : wr.cell? ⟨(ad.add (j * 6)).block, (ad.add (j * 6)).off + 4, none⟩ = some (.slice B3 x.l.length d3) := by rw [← add_field ad (j * 6) 4 (by decide)]; exact hcell 4 _ rfl
      have hc5 : wr.cell? ⟨(ad.add (j * 6)).block, (ad.add (j * 6)).off + 5, none⟩ = some (.string (text x.b)) := by rw [← add_field ad (j * 6) 5 (by decide)]; exact hcell 5 _ rfl
      have b7 : wr.cell? ⟨w.heap.size, 7, none⟩ = some (.slice E' j c') := Q0.out.cell 7
      have l0 := Q0.out.lt
      have l1 := Q1.out.lt
      clear hcell e1 e2 hsm
      have HX0 : Hid (Below wr.heap.size wr (wr.alloc (.cells #[.int .i64 x.idx, .int .i64 x.term, .int .i64 x.kind, .slice A3 x.v.length c3, .slice B3 x.l.length d3, .string (text x.b)] 34)).drew) := Lib.hid (by repeat (first | with_reducible exact Below.refl _ _ | with_reducible assumption | (with_reducible refine Below.setCell ?_ (by dsimp only; (first | omega | (simp; done) | (simp; omega))) _) | (with_reducible refine Below.alloc ?_ (by (first | omega | (simp; done) | (simp; omega))) _) | with_reducible refine Below.drew ?_))
      have C := Lib.hid (ownEntry_any x A3 c3 B3 d3 (wr.alloc (.cells #[.int .i64 x.idx, .int .i64 x.term, .int .i64 x.kind, .slice A3 x.v.length c3, .slice B3 x.l.length d3, .string (text x.b)] 34)).drew
        ((HC3.out.below (by repeat (first | with_reducible exact Below.refl _ _ | (with_reducible refine Below.setCell ?_ (by dsimp only; (first | omega | (simp; done) | (simp; omega))) _) | (with_reducible refine Below.alloc ?_ (by (first | omega | (simp; done) | (simp; omega))) _) | with_reducible refine Below.drew ?_))).more (by (first | omega | (simp; done) | (simp; omega)))) ((HC4.out.below (by repeat (first | with_reducible exact Below.refl _ _ | (with_reducible refine Below.setCell ?_ (by dsimp only; (first | omega | (simp; done) | (simp; omega))) _) | (with_reducible refine Below.alloc ?_ (by (first | omega | (simp; done) | (simp; omega))) _) | with_reducible refine Below.drew ?_))).more (by (first | omega | (simp; done) | (simp; omega)))) (by have := HSM.out.v; omega) (by have := HSM.out.l; omega))
      unfold Ent.cs at C
      have f7 : wr.frozen? ⟨w.heap.size, 7, none⟩ = false := Q0.out.frozen 7
      go_wp2_with fail
      go_region_law (first
        | (go_simp
           go_at_call 40
           refine (unhide C).mono ?_
           rintro e w3 ⟨A4, c4, B4, d4, rfl, hr3, hr4, hb⟩
           unfold Ent.cs
           have z3 : wr.heap.size + 1 ≤ w3.heap.size := by have := hb.size; simpa using this
           have z4 : w.heap.size < w3.heap.size := by omega
           have R0 := Lib.hid ((Q0.out.below HX0.out l0).below hb (by (first | omega | (simp; done) | (simp; omega))))
           have R1 := Lib.hid ((Q1.out.below HX0.out l1).below hb (by (first | omega | (simp; done) | (simp; omega))))
           have HO3 := Lib.hid ((HO.out.below_ HX0.out).below_ hb)
           have HB3 := Lib.hid ((HBw.out.trans (HX0.out.mono (by (first | omega | (simp; done) | (simp; omega))))).trans (hb.mono (by (first | omega | (simp; done) | (simp; omega)))))
           have HR3 := Lib.hid hr3
           have HR4 := Lib.hid hr4
           have HBB := Lib.hid hb
           have b9 : w3.cell? ⟨w.heap.size, 7, none⟩ = some (.slice E' j c') := R0.out.cell 7
           clear hr3 hr4 hb)
        | (refine step_appN rfl _ _ _ rfl w.heap.size 34 i0 _ 6 88 Try.underlying28 hi0 hz0 hz1 hz2 rfl (by decide) (.slice E' j c') j xs rfl (HO3.out.alloc _) ⟨w3.heap.size, 0, none⟩ 1 [.int .i64 x.idx, .int .i64 x.term, .int .i64 x.kind, .slice A4 x.v.length c4, .slice B4 x.l.length d4, .string (text x.b)] rfl rfl (Blk.news (Blk.new w3 34 [.int .i64 x.idx, .int .i64 x.term, .int .i64 x.kind, .slice A4 x.v.length c4, .slice B4 x.l.length d4, .string (text x.b)])) (by simp [Value.oneCell']) (by unfold maxLen; omega) (by omega) (by (first | omega | (simp; done) | (simp; omega))) ?_
           intro A5 c5 w5 HO5 HG5
           have S0 := Lib.hid ((R0.out.alloc (.cells #[.int .i64 x.idx, .int .i64 x.term, .int .i64 x.kind, .slice A4 x.v.length c4, .slice B4 x.l.length d4, .string (text x.b)] 34)).grown HG5.out (blk_own_ne R0.out HO3.out (by decide)))
           have S1 := Lib.hid ((R1.out.alloc (.cells #[.int .i64 x.idx, .int .i64 x.term, .int .i64 x.kind, .slice A4 x.v.length c4, .slice B4 x.l.length d4, .string (text x.b)] 34)).grown HG5.out (blk_own_ne R1.out HO3.out (by decide)))
           have b8 : w5.cell? ⟨w.heap.size, 7, none⟩ = some (.slice E' j c') := S0.out.cell 7
           have f8 : w5.frozen? ⟨w.heap.size, 7, none⟩ = false := S0.out.frozen 7))
      all_goals
        have T0 : Hid (Blk (w5.setCell ⟨w.heap.size, 7, none⟩ (.slice A5 (j + 1) c5)) w.heap.size 30 [.int .i64 k.term, .int .i64 k.vote, .int .i64 k.snp.idx, .int .i64 k.snp.term, .slice A1 k.snp.v.length c1, .slice B1 k.snp.l.length d1, .string (text k.snp.b), .slice A5 (j + 1) c5]) := Lib.hid (by have := S0.out.set_ 7 (.slice A5 (j + 1) c5); simpa using this)
        have T1 : Hid (Blk (w5.setCell ⟨w.heap.size, 7, none⟩ (.slice A5 (j + 1) c5)) (w.heap.size + 1) 30 _) := Lib.hid (S1.out.far (p := ⟨w.heap.size, 7, none⟩) (by dsimp only; omega) _)
        have K1 : Hid (Keeps [34, 30] w3 (w5.setCell ⟨w.heap.size, 7, none⟩ (.slice A5 (j + 1) c5))) := by
          have g1 := Keeps.alloc (ts := [34, 30]) w3 (.cells #[.int .i64 x.idx, .int .i64 x.term, .int .i64 x.kind, .slice A4 x.v.length c4, .slice B4 x.l.length d4, .string (text x.b)] 34)
          have g2 := Keeps.grown (ts := [34, 30]) (HO3.out.alloc (.cells #[.int .i64 x.idx, .int .i64 x.term, .int .i64 x.kind, .slice A4 x.v.length c4, .slice B4 x.l.length d4, .string (text x.b)] 34)) HG5.out (by simp) HG5.out.size
          exact Lib.hid ((g1.trans g2).trans (Keeps.set_ S0.out.typ (by simp) _))
        have K0 : Hid (Keeps [34, 30] wr (w5.setCell ⟨w.heap.size, 7, none⟩ (.slice A5 (j + 1) c5))) := Lib.hid (((Keeps.of_below HX0.out (Nat.le_refl _)).trans (Keeps.of_below HBB.out (Nat.le_refl _))).trans K1.out)
        have O6 : Hid ((w5.setCell ⟨w.heap.size, 7, none⟩ (.slice A5 (j + 1) c5)).ownsRow w.heap.size 34 6 (.slice A5 (j + 1) c5) (j + 1) (xs ++ [.int .i64 x.idx, .int .i64 x.term, .int .i64 x.kind, .slice A4 x.v.length c4, .slice B4 x.l.length d4, .string (text x.b)])) := Lib.hid (HO5.out.keeps (Keeps.set_ (ts := [30]) S0.out.typ (by simp) _) (by decide))
        have B6 : Hid (Below w.heap.size w (w5.setCell ⟨w.heap.size, 7, none⟩ (.slice A5 (j + 1) c5))) := Lib.hid (((HB3.out.alloc (by omega) _).grown HG5.out (by simp; omega) (own_block_ge HO3.out)).setCell (Nat.le_refl _) _)
        have M6 : Hid (ThingsN (w5.setCell ⟨w.heap.size, 7, none⟩ (.slice A5 (j + 1) c5)) w.heap.size [3] shEntry ((k.ents.take (j + 1)).map Ent.da) (xs ++ [.int .i64 x.idx, .int .i64 x.term, .int .i64 x.kind, .slice A4 x.v.length c4, .slice B4 x.l.length d4, .string (text x.b)])) := by
          have g1 := (HR3.out.nw_mono (base' := w.heap.size) (by simp; omega) fun _ h => h).nw_keeps K1.out (by decide)
          have g2 := (HR4.out.nw_mono (base' := w.heap.size) (by simp; omega) fun _ h => h).nw_keeps K1.out (by decide)
          have g3 := (HT.out.keeps K0.out (by decide)).snoc (d := x.da) (by have := HO.out.1; rw [this, List.length_map, List.length_take, Nat.min_eq_left (by omega)]; rfl) (Ent.mk_ x c4 d4 g1 g2)
          rw [HT1.out]
          exact Lib.hid g3
        have N1 := Lib.hid (q1.out.nw_keeps K0.out (by decide))
        have N2 := Lib.hid (q2.out.nw_keeps K0.out (by decide))
        clear b7 b8 b9 f7 f8 hc0 hc1 hc2 hc3 hc4 hc5 C
        go_wp2
        go_roundw
        case rel => exact ⟨j + 1, A5, c5, _, by omega, by go_num, T0, T1, O6, M6, B6, N1, N2⟩
        case measure => simp [intOf]; omega
    · have hje : j = k.ents.length := by omega
      subst hje
      have z0 := Q0.out.lt
      have z1 := Q1.out.lt
      rw [List.take_length] at HT
      have HI : Hid ((Try.prog.info? 30).map (·.size) = some 8) := Lib.hid (by kernel_rfl)
      go_wp2_with (first
        | (with_reducible refine wpList_load_blk rfl 30 _ rfl w.heap.size rfl Q0 (by simp) Try.underlying30 rfl HI ?_)
        | ((with_reducible refine wpList_store_blk rfl 30 _ _ rfl (w.heap.size + 1) [.int .i64 k.term, .int .i64 k.vote, .int .i64 k.snp.idx, .int .i64 k.snp.term, .slice A1 k.snp.v.length c1, .slice B1 k.snp.l.length d1, .string (text k.snp.b), .slice E' k.ents.length c'] rfl rfl Q1 (by simp) (by simp) HI (by simp [Value.oneCell']) ?_)
           intro w9 U))
      have U1 := Lib.hid U.out.blk
      refine bodyPost_ret (results_blk rfl _ _ (w.heap.size + 1) rfl U1 (by simp) Try.underlying30 rfl HI) rfl ?_
      exact ⟨A1, c1, B1, d1, E', c', rfl, ⟨q1.out.nw_keeps U.out.keeps (by decide), q2.out.nw_keeps U.out.keeps (by decide), _, HO.out.keeps U.out.keeps (by decide), HT.out.keeps U.out.keeps (by decide)⟩, U.out.below HBw.out (by omega)⟩
end Go.Proofs.Ytkdmfjpfanmgmaa
