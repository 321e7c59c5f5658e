/- The walks of the reference that lays: whole numbers (a region that draws its order). -/
import Derived.Test.YteohhgkehkmgcaaWrit
import Derived.Deep.RegionLaw
namespace Go.Proofs.Yteohhgkehkmgcaa
open Go.RowKit Le
set_option maxRecDepth 100000

/-- append onto a row of the call's own, as one step of a region that draws. -/
theorem step_app {P : Program} {w : World} {ops : Array Oper} {o : Oper} {a : Act} {K : Act → World → Prop} {Q : Exit → Act → World → Prop} {E : Prop} (hgd : o.guard = none) (s x : Operand) (t : TypeId)
    (ho : o.op = .call { callee := .builtin .append, args := #[s, x], argTypes := #[t, t] })
    (base : Nat) (e : TypeId) (i : TypeInfo) (z : Value) (bytes : Nat) (ht : P.underlying t = some (.slice e)) (hi : P.info? e = some i) (hz : i.zero = some z)
    (hsize : i.size = 1) (hby : i.bytes = bytes) (hzs : z.cells.size = 1)
    (v : Value) (n : Nat) (xs : List Value) (hs : a.eval s = v) (hown : w.ownsRow base e 1 v n xs)
    (B : Nat) (A : Option Addr) (m c : Nat) (news : List Value) (hx : a.eval x = .slice A m c) (hr : Reads w B A m news) (h1 : ∀ u ∈ news, u.oneCell' = true)
    (h63 : n + m ≤ maxLen) (hbytes : (n + m) * bytes ≤ 140737488355328) (hbase : base ≤ w.heap.size) (w0 : World) (hb : Below base w0 w)
    (hK : ∀ A' c' w', Hid (w'.ownsRow base e 1 (.slice A' (n + m) c') (n + m) (xs ++ news)) → Below base w0 w' → Hid (w.grownBy w' v.ownBlock) → K (a.put o.dst (.slice A' (n + m) c')) w') :
    if Region.wanted o (yielded ops a.tmps) = true then Oper.wp P o a w K Q else E := by
  have hw : Region.wanted o (yielded ops a.tmps) = true := by simp [Region.wanted, hgd]
  rw [if_pos hw]
  obtain ⟨v', w', hrun, h2, h3⟩ := run_app (P := P) w base t o.type e i z bytes ht hi hz hsize hby hzs v n xs hown B A m c news hr h1 h63 hbytes hbase
  unfold Oper.wp execOp
  simp only [ho, resolve, invoke, builtin, Sem.run_bind, Sem.run_pure, Result.andThen_ok, List.map_toArray, List.map_cons, List.map_nil, hs, hx, hrun]
  obtain ⟨A', c', rfl⟩ := own_slice h2
  exact hK A' c' w' h2 (hb.grown h3 hbase (own_block_ge hown)) h3

theorem u64w_eq (N : Int) : u64w N = u64 N := by
  unfold u64w u64
  rfl

set_option maxHeartbeats 1600000 in
theorem lay_whole (base g : Nat) (N : Int) (s : St) (w : World) (h : LayAt w base g s) (hs : s.1.length ≤ 1099511627776) :
    Calls Try.prog 149 #[.pointer (some ⟨g, 0, none⟩), .int .i64 N] w fun e w' => e = .returned (.tuple #[]) ∧ LayAt w' base g (layWhole N s) ∧ Lays base w w' := by
  obtain ⟨i0, hi0, hz0, hz1, hz2⟩ := info_parts info_u8
  obtain ⟨A, n, c, hB, hO, hbg⟩ := h
  have hl := hB.lt
  have hn : s.1.length = n := by have := hO.1; simpa using this
  have hc0 : w.cell? ⟨g, 0, none⟩ = some (.slice A n c) := hB.cell 0
  have HB := Lib.hid hB
  have HO := Lib.hid hO
  have CI := Lib.hid (refInt_any N w.drew)
  clear hB hO
  go_enter Try.func149, Try.ntmps149
  go_wp2
  go_region_law (first
    | (refine step_app rfl _ _ _ rfl base 5 i0 _ 1 Try.underlying34 hi0 hz0 hz1 hz2 rfl (.slice A n c) n _ rfl HO1.out _ _ 8 c1 _ rfl HR1.out (u8s_one _) (by unfold maxLen; omega) (by omega) (by omega) w HW1.out ?_
       intro A3 c3 w3 HO3 hb3 HG3
       have HB3 := Lib.hid (HB1.out.grown HG3.out hne.out)
       have hf3 : w3.frozen? ⟨g, 0, none⟩ = false := HB3.out.frozen 0
       have hc3 : w3.cell? ⟨g, 0, none⟩ = some (.slice A n c) := HB3.out.cell 0)
    | (go_simp
       go_at_call 165
       refine (unhide CI).mono ?_
       rintro e w1 ⟨A1, c1, rfl, hM⟩
       have HB1 := Lib.hid (HB.out.drew.below hM.below hl)
       have HO1 := Lib.hid (HO.out.drew.below_ hM.below)
       have HR1 := Lib.hid hM.reads
       have HW1 : Hid (Below base w w1) := Lib.hid (((Below.refl _ w).drew).trans (hM.below.mono (by simp; omega)))
       have z1 : w.heap.size ≤ w1.heap.size := hM.below.size
       have hc1 : w1.cell? ⟨g, 0, none⟩ = some (.slice A n c) := HB1.out.cell 0
       have hne := Lib.hid (blk_own_ne HB1.out HO1.out (by decide))
       have HK1 : Hid (Keeps [91, 5] w w1) := Lib.hid ((Keeps.drew w).trans (Keeps.of_below hM.below (Nat.le_refl _)))
       clear hM
       dsimp only))
  all_goals
    go_wp2
    go_end0
    refine ⟨rfl, ?_, lays_end HK1.out HO1.out HG3.out HB3.out hb3 hbg _ _⟩
    exact lay_stored HB3.out HO3.out hbg (by simp [u8s_append, u64w_eq])
end Go.Proofs.Yteohhgkehkmgcaa
