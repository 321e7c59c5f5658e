/- Joined by mkmerge.py from the proof's texts Stb0, Stb1, Stb2. Conditions: each theorem's own hypotheses. -/
import Derived.Test.YtkdmfjpfanmgmaaGreatDoorM36
import Derived.Test.YtkdmfjpfanmgmaaGreatDoorM37
import Derived.Test.YtkdmfjpfanmgmaaGreatDoorM26
import Derived.Test.YtkdmfjpfanmgmaaGreatDoorM40
namespace Go.Proofs.YtkdmfjpfanmgmaaGreatDoor
open Go.RowKit Le Go.Maps
set_option maxRecDepth 100000
set_option linter.unusedSimpArgs false
set_option linter.unusedVariables false
/-! ### A struct in the midst of a block. -/
theorem Blk.rangeMid {w : World} {g : Nat} {t : TypeId} {cs0 : List Value} (h : Blk w g t cs0) {pre cs post : List Value} (he : cs0 = pre ++ (cs ++ post)) : w.rangeAt g pre.length cs := fun j v hv => by
  rw [h.cell, he, List.getElem?_append_right (by omega)]
  have hj : j < cs.length := (List.getElem?_eq_some_iff.1 hv).1
  rw [show pre.length + j - pre.length = j from by omega, List.getElem?_append_left hj]
  exact hv
theorem wpList_load_at {P : Program} {ops : Array Oper} {rest : List Oper} {op : Oper} {a : Act} {w : World} {Q : Exit → Act → World → Prop} (hgd : op.guard = none) (ty : TypeId) (x : Operand) (ho : op.op = .load ty x)
    (b o : Nat) (hx : a.eval x = .pointer (some ⟨b, o, none⟩)) {t : TypeId} {cs0 : List Value} (hB : Hid (Blk w b t cs0)) (pre cs post : List Value) (he : cs0 = pre ++ (cs ++ post)) (hp : pre.length = o) {n : Nat} (hn : cs.length = n) {d : TypeDesc} (hu : P.underlying ty = some d) (hd : d.isRow = true) (hi : Hid ((P.info? ty).map (·.size) = some n))
    (h : wpList P ops Q rest (a.put op.dst (.agg cs.toArray)) w) : wpList P ops Q (op :: rest) a w :=
  wpList_load_mid hgd ty x ho b o hx cs d (hp ▸ hB.out.rangeMid he) hu hd (hn ▸ hi.out) h
theorem wpList_store_at {P : Program} {ops : Array Oper} {rest : List Oper} {op : Oper} {a : Act} {w : World} {Q : Exit → Act → World → Prop} (hgd : op.guard = none) (ty : TypeId) (x y : Operand) (ho : op.op = .store ty x y)
    (b o : Nat) (hx : a.eval x = .pointer (some ⟨b, o, none⟩)) {t : TypeId} {cs0 : List Value} (hB : Hid (Blk w b t cs0)) (pre old post cs : List Value) (he : cs0 = pre ++ (old ++ post)) (hp : pre.length = o) (hy : a.eval y = .agg cs.toArray) {n : Nat} (hn0 : old.length = n) (hn : cs.length = n)
    (hi : Hid ((P.info? ty).map (·.size) = some n)) (h1 : ∀ v ∈ cs, v.oneCell' = true)
    (h : ∀ w', Hid (Stored w w' b t (pre ++ (cs ++ post))) → wpList P ops Q rest (a.put op.dst undef) w') : wpList P ops Q (op :: rest) a w := by
  refine wpList_store_mid hgd ty x y ho b o cs.toArray hx hy (hB.out.there o _ (by simp [he, hp, hn0, hn])) (by rw [List.size_toArray, hn]; exact hi.out) (all_oneCell_toArray h1) (h _ (Lib.hid ?_))
  exact ⟨hB.out.setCells o cs pre old post he (by rw [hn0, hn]) hp rfl, fun k hk => setCells_far w b hk o _, setCells_size w b o _, hB.out.typ, below_setCells_ (Nat.le_refl _) o _⟩
/-! ### must, Open's deferred closure. -/
set_option maxHeartbeats 800000 in
theorem smust_ok (w : World) : Calls Tryz.prog 18 #[.int .i64 0] w fun e w' => e = .returned (.tuple #[]) ∧ w = w' := by
  go_enter Tryz.func18, Tryz.ntmps18
  go_wp2
  go_end0
  exact ⟨rfl, rfl⟩
set_option maxHeartbeats 800000 in
theorem sopenD_ok (p q r : Addr) (u : FrameMode) (w : World) (hc : w.cell? p = some (.int .i64 0)) :
    CallsD Tryz.prog 13 #[.pointer (some p), .pointer (some q), .pointer (some r)] u w fun e u' w' => u' = u ∧ (e = .returned (.tuple #[]) ∧ w' = w) := by
  go_enter_d Tryz.func13, Tryz.ntmps13
  go_wp2
  go_end0
  exact ⟨rfl, rfl⟩
/-! ### Cells. -/
/-- What a journal tells: told's cells. -/
def toldCs (j : Value) (gen : Nat) (full : Bool) (ks : List Value) : List Value := [j, .int .i64 gen, .bool full] ++ (ks ++ [])
/-- What is kept, its lists nil. -/
def Kep.cs0 (k : Kep) : List Value := k.cs none 0 none 0 none 0
def Rcd.cs0 (r : Rcd) : List Value := r.cs none 0 none 0 none 0 none 0
/-- A Stable's cells. -/
def stbCs (d j at_ gen : Nat) (ks : List Value) : List Value := [.pointer (some ⟨d, 0, none⟩), .pointer (some ⟨j, 0, none⟩), .int .i64 at_, .int .i64 gen] ++ (ks ++ [])
/-- The names of the two journals. -/
def nmA : List UInt8 := [97]
def nmB : List UInt8 := [98]
def nmOf (i : Nat) : List UInt8 := if i = 0 then nmA else nmB
def NmAt (w : World) : Prop := w.cell? ⟨0, 0, none⟩ = some (.string (text nmA)) ∧ w.cell? ⟨0, 1, none⟩ = some (.string (text nmB))
theorem NmAt.below {w w' : World} {B : Nat} (h : NmAt w) (hb : Below B w w') (hB : 0 < B) : NmAt w' := ⟨(hb.cell (p := ⟨0, 0, none⟩) hB).trans h.1, (hb.cell (p := ⟨0, 1, none⟩) hB).trans h.2⟩
/-- A record's bytes, as a journal's text. -/
def rcB (r : Rcd) : List UInt8 := out (lays shRecord r.da ([], 0))
def rcS (r : Rcd) : List UInt8 := 0x72 :: rcB r
def gnS (n : Nat) : List UInt8 := 0x67 :: digS n
def enS : List UInt8 := [0x65]
end Go.Proofs.YtkdmfjpfanmgmaaGreatDoor
namespace Go.Proofs.YtkdmfjpfanmgmaaGreatDoor
open Go.RowKit Le Go.Maps
set_option maxRecDepth 100000
set_option linter.unusedSimpArgs false
set_option linter.unusedVariables false
def toldE (j : Nat) : List Value := [.pointer (some ⟨j, 0, none⟩), .int .i64 0, .bool false, .int .i64 0, .int .i64 0, .int .i64 0, .int .i64 0, .slice none 0 0, .slice none 0 0, .string ⟨#[]⟩, .slice none 0 0]
set_option maxHeartbeats 1600000 in
theorem read_empty {w : World} {base d : Nat} {name : List UInt8} {s0 : DS} (h : DiskAt w base d s0.lasts s0.now s0.cs) (hbw : base ≤ w.heap.size) (hT : Tab w) (hTb : 3 < base)
    (hl : name.length ≤ 8) (hn : nameB name = true) (hs0 : Small s0) (hL : s0.now.get (name ++ endL) = none) (hM : s0.now.get (name ++ endM) = none) :
    Calls Tryz.prog 15 #[.pointer (some ⟨d, 0, none⟩), .string (text name)] w fun e w' => ∃ j, e = .returned (.agg (toldE j).toArray) ∧ w.heap.size ≤ j ∧ Blk w' j 96 (jCs d name 0 0 0 0 0) ∧ Below w.heap.size w w' := by
  have HI : Hid ((Tryz.prog.info? 55).map (·.size) = some 11) := Lib.hid (by kernel_rfl)
  have H := Lib.hid h
  have HT := Lib.hid hT
  have HL := Lib.hid hL
  have HM := Lib.hid hM
  clear h hT hL hM
  go_enter Tryz.func15, Tryz.ntmps15
  go_wp2_with fail
  refine at_world _ fun W hW => ?_
  have hbW : Below w.heap.size w W := by
    subst hW
    exact (Below.refl _ _).alloc (Nat.le_refl _) _
  have hB0 : Blk W w.heap.size 55 [.pointer none, .int .i64 0, .bool false, .int .i64 0, .int .i64 0, .int .i64 0, .int .i64 0, .slice none 0 0, .slice none 0 0, .string ⟨#[]⟩, .slice none 0 0] := by
    subst hW
    exact Blk.new w _ [.pointer none, .int .i64 0, .bool false, .int .i64 0, .int .i64 0, .int .i64 0, .int .i64 0, .slice none 0 0, .slice none 0 0, .string ⟨#[]⟩, .slice none 0 0]
  have hsW : W.heap.size = w.heap.size + 1 := by subst hW; simp
  clear hW
  have ho := jOpen_empty (ss := []) (ns := []) (H.out.same (SameD.of_below hbW)) (by omega) (HT.out.below hbW (by omega)) hTb hl hn hs0 (by rw [HL.out]; rfl) (by rw [HM.out]; rfl) (by simp) (by simp) (by simp [logB, flat]) (by simp [logB, markB, flat])
  refine ho.mono ?_
  clear ho
  rintro e w1 ⟨A, c, rfl, hO⟩
  have HJ := Lib.hid hO.o.j
  rw [hsW] at HJ ⊢
  simp only [List.length_nil]
  have HO := Lib.hid hO
  have HB1 := Lib.hid (hbW.trans (hO.bel.mono (by omega)))
  have HT1 := Lib.hid (hB0.below hO.bel hB0.lt)
  have hz1 := hO.o.lt
  clear hO hB0 hbW
  go_wp2_with fail
  refine (smust_ok w1).mono ?_
  rintro e w2 ⟨rfl, rfl⟩
  go_wp2_with fail
  refine at_worldC _ fun w3 hW3 => ?_
  have UB : Hid (Blk w3 w1.heap.size 55 [.pointer (some ⟨w.heap.size + 1 + 1 + 1 + 1, 0, none⟩), .int .i64 0, .bool false, .int .i64 0, .int .i64 0, .int .i64 0, .int .i64 0, .slice none 0 0, .slice none 0 0, .string ⟨#[]⟩, .slice none 0 0]) := Lib.hid (by rw [hW3]; exact Blk.new w1 _ [.pointer (some ⟨w.heap.size + 1 + 1 + 1 + 1, 0, none⟩), .int .i64 0, .bool false, .int .i64 0, .int .i64 0, .int .i64 0, .int .i64 0, .slice none 0 0, .slice none 0 0, .string ⟨#[]⟩, .slice none 0 0])
  have HT3 : Hid (Blk w3 w.heap.size 55 [.pointer none, .int .i64 0, .bool false, .int .i64 0, .int .i64 0, .int .i64 0, .int .i64 0, .slice none 0 0, .slice none 0 0, .string ⟨#[]⟩, .slice none 0 0]) := Lib.hid (by rw [hW3]; exact HT1.out.alloc _)
  have HJ3 : Hid (Blk w3 (w.heap.size + 1 + 1 + 1 + 1) 96 _) := Lib.hid (by rw [hW3]; exact HJ.out.alloc _)
  have HB3 : Hid (Below w.heap.size w w3) := Lib.hid (by rw [hW3]; exact HB1.out.alloc (by omega) _)
  clear hW3 HT1 HJ HB1
  go_loop [26] (fun i => i = .int .i64 0) (fun _ => 0)
  case atStart => rfl
  case round =>
    subst hrel
    go_wp2_with (first
      | (with_reducible refine wpList_load_blk rfl 55 _ rfl w1.heap.size rfl UB (by simp) Tryz.underlying55 rfl HI ?_)
      | ((with_reducible refine wpList_store_blk rfl 55 _ _ rfl w.heap.size [.pointer (some ⟨w.heap.size + 1 + 1 + 1 + 1, 0, none⟩), .int .i64 0, .bool false, .int .i64 0, .int .i64 0, .int .i64 0, .int .i64 0, .slice none 0 0, .slice none 0 0, .string ⟨#[]⟩, .slice none 0 0] rfl rfl HT3 (by simp) (by simp) HI (by simp [Value.oneCell']) ?_)
         intro w4 V))
    refine bodyPost_ret (results_blk rfl _ _ w.heap.size rfl (Lib.hid V.out.blk) (by simp) Tryz.underlying55 rfl HI) rfl ?_
    exact ⟨_, rfl, by omega, V.out.other HJ3.out (by omega), V.out.below HB3.out (Nat.le_refl _)⟩
end Go.Proofs.YtkdmfjpfanmgmaaGreatDoor
namespace Go.Proofs.YtkdmfjpfanmgmaaGreatDoor
open Go.RowKit Le Go.Maps
set_option maxRecDepth 100000
set_option linter.unusedSimpArgs false
set_option linter.unusedVariables false
/-- The example's entry; what the journal tells. -/
def e1 : Ent := ⟨1, 2, 1, [], [], []⟩
def kF : Kep := ⟨2, 1, .zero, [e1]⟩
def ssA : List (List UInt8) := [gnS 1, rcS (Rcd.ofVote 0 0), enS]
def ssB : List (List UInt8) := ssA ++ [rcS (Rcd.ofVote 2 1), rcS (Rcd.ofEnt e1)]
/-- What a told's cells are behind j rounds. -/
def toldAt (J : Nat) : Nat → List Value
  | 0 => [.pointer (some ⟨J, 0, none⟩), .int .i64 0, .bool false, .int .i64 0, .int .i64 0, .int .i64 0, .int .i64 0, .slice none 0 0, .slice none 0 0, .string ⟨#[]⟩, .slice none 0 0]
  | 1 => [.pointer (some ⟨J, 0, none⟩), .int .i64 1, .bool false, .int .i64 0, .int .i64 0, .int .i64 0, .int .i64 0, .slice none 0 0, .slice none 0 0, .string ⟨#[]⟩, .slice none 0 0]
  | 2 => [.pointer (some ⟨J, 0, none⟩), .int .i64 1, .bool false, .int .i64 0, .int .i64 0, .int .i64 0, .int .i64 0, .slice none 0 0, .slice none 0 0, .string ⟨#[]⟩, .slice none 0 0]
  | 3 => [.pointer (some ⟨J, 0, none⟩), .int .i64 1, .bool true, .int .i64 0, .int .i64 0, .int .i64 0, .int .i64 0, .slice none 0 0, .slice none 0 0, .string ⟨#[]⟩, .slice none 0 0]
  | _ => [.pointer (some ⟨J, 0, none⟩), .int .i64 1, .bool true, .int .i64 2, .int .i64 1, .int .i64 0, .int .i64 0, .slice none 0 0, .slice none 0 0, .string ⟨#[]⟩, .slice none 0 0]
/-- .. at the end. -/
def toldF (J : Nat) (A : Option Addr) (c : Nat) (B : Option Addr) (d : Nat) (E : Option Addr) (m : Nat) : List Value := [.pointer (some ⟨J, 0, none⟩), .int .i64 1, .bool true] ++ (kF.cs A c B d E m ++ [])
structure RdSt (w1 wr : World) (n g J : Nat) (j : Nat) : Prop where
  bel : Below w1.heap.size w1 wr
  u : j ≤ 4 → Blk wr g 55 (toldAt J j)
  f : 4 < j → ∃ A c B d E m, Blk wr g 55 (toldF J A c B d E m) ∧ KepAt wr (Nw wr n [29, 3]) kF A B E
theorem row_str {w : World} {base n c : Nat} {A : Option Addr} {ks : List (List UInt8)} (h : w.ownsRow base 9 1 (.slice A n c) n (ks.map fun s => .string (text s))) {j : Nat} {s : List UInt8} (hs : ks[j]? = some s) : ∃ g, A = some ⟨g, 0, none⟩ ∧ w.cell? ⟨g, j, none⟩ = some (.string (text s)) := by
  have hj := (List.getElem?_eq_some_iff.1 hs).1
  have hlen : ks.length = n := by simpa using h.1
  rcases h.2 with ⟨hn, h0⟩ | ⟨g, cap', cur, e, hb, hg, h1, h2, h3, h4⟩
  · omega
  · injection e with e1 e2 e3
    have hB : Blk w g 9 cur.toList := by simpa [Blk] using hg
    have h7 : (cur.toList.take (n * 1))[j]? = some (.string (text s)) := by rw [h4, List.getElem?_map, hs]; rfl
    rw [List.getElem?_take_of_lt (by omega)] at h7
    exact ⟨g, e1, (hB.cell j).trans h7⟩
theorem SyncS.idle {f : List UInt8} {s : DS} (h : s.cs = []) : SyncS f s s := by
  cases s
  simp only at h
  subst h
  exact ⟨[], [], rfl, by simp, by simp, trivial, rfl⟩
theorem Rcd.da_inj {a b : Rcd} (h : a.da = b.da) : a = b := by
  cases a with | mk k t v e i s => cases e with | mk e1 e2 e3 e4 e5 e6 => cases s with | mk s1 s2 s3 s4 s5 =>
  cases b with | mk k' t' v' e' i' s' => cases e' with | mk f1 f2 f3 f4 f5 f6 => cases s' with | mk g1 g2 g3 g4 g5 =>
  simp only [Rcd.da, List.cons.injEq, Da.int.injEq, Da.text.injEq, Da.rows.injEq, and_true] at h
  obtain ⟨rfl, rfl, rfl, rfl, rfl, rfl, h1, h2, rfl, rfl, rfl, rfl, h3, h4, rfl⟩ := h
  rw [nums_inj h1, nums_inj h2, nums_inj h3, nums_inj h4]
theorem rec_fits (r : Rcd) : Fitss shRecord r.da := by simp [Fitss, Fits, Rcd.da, shRecord, nums]
theorem rcB_back {r : Rcd} (h : putE r = 0) : rds shRecord (rcB r) = some (r.da, []) := by
  have h0 : lays shRecord r.da ([], 0) = ((lays shRecord r.da ([], 0)).1, 0) := Prod.ext rfl h
  obtain ⟨p, hp, hr⟩ := lays_rd shRecord r.da [] _ (rec_fits r) h0
  have h1 := hp []
  have h2 := hr []
  rw [List.append_nil] at h2
  rw [List.nil_append] at h1
  unfold rcB out
  rw [h1]
  simpa using h2
/-- What GetRecord gives of a record's own bytes. -/
theorem got_rec {w' : World} {e : Ending} {zs : List Value} {us : List TypeId} {r : Rcd} (hp : putE r = 0) (h : GEnd shRecord zs (rcB r) us w' e) :
    ∃ A1 c1 B1 d1 A2 c2 B2 d2, e = .returned (.tuple #[.agg (r.cs A1 c1 B1 d1 A2 c2 B2 d2).toArray, .int .i64 0]) := by
  have hb := rcB_back hp
  rcases h with ⟨ds, vs, h1, rfl, h3⟩ | ⟨h1, _⟩
  · rw [hb] at h1
    injection h1 with h1
    injection h1 with h1 _
    subst h1
    obtain ⟨r', A1, c1, B1, d1, A2, c2, B2, d2, hd, rfl, _⟩ := Rcd.open_ h3
    obtain rfl := Rcd.da_inj hd
    exact ⟨A1, c1, B1, d1, A2, c2, B2, d2, rfl⟩
  · exact absurd hb (h1 _)
theorem tx_head (x : UInt8) (b : List UInt8) : (text (x :: b)).extract 0 1 = ⟨#[x]⟩ := by
  apply ByteArray.ext
  apply Array.ext'
  rw [Lib.extract_data]
  simp [text]
theorem tx_tail (x : UInt8) (b : List UInt8) : (text (x :: b)).extract 1 (text (x :: b)).size = text b := by
  apply ByteArray.ext
  apply Array.ext'
  rw [Lib.extract_data]
  simp [text, ByteArray.size]
set_option maxHeartbeats 3200000 in
theorem read_full {w : World} {base d : Nat} {name : List UInt8} {s0 : DS} {ns : List Nat} (h : DiskAt w base d s0.lasts s0.now s0.cs) (hbw : base ≤ w.heap.size) (hT : Tab w) (hTb : 3 < base)
    (hl : name.length ≤ 8) (hn : nameB name = true) (hs0 : Small s0) (hL : (s0.now.get (name ++ endL)).getD [] = logB ssB) (hM : (s0.now.get (name ++ endM)).getD [] = markB ns) (hns : ∀ n ∈ ns, n ≤ 1000000000) (hlast : ns.getLastD 0 = (logB ssB).length) (hcs : s0.cs = []) (hnl : nameB (name ++ endL) = true) (hnm : nameB (name ++ endM) = true) (hsz : ∀ s ∈ ssB, s.length ≤ 1000) :
    Calls Tryz.prog 15 #[.pointer (some ⟨d, 0, none⟩), .string (text name)] w fun e w' => ∃ j A c B d' E m, e = .returned (.agg (toldF j A c B d' E m).toArray) ∧ KepAt w' (Nw w' w.heap.size [29, 3]) kF A B E ∧ w.heap.size ≤ j ∧ Blk w' j 96 (jCs d name (logB ssB).length (markB ns).length (logB ssB).length 5 5) ∧ DiskAt w' base d s0.lasts s0.now s0.cs ∧ Below base w w' ∧ Keeps [80, 106, 96] w w' := by
  have HI : Hid ((Tryz.prog.info? 55).map (·.size) = some 11) := Lib.hid (by kernel_rfl)
  have HIK : Hid ((Tryz.prog.info? 38).map (·.size) = some 8) := Lib.hid (by kernel_rfl)
  have HIR : Hid ((Tryz.prog.info? 33).map (·.size) = some 15) := Lib.hid (by kernel_rfl)
  have H := Lib.hid h
  have HT := Lib.hid hT
  have HL := Lib.hid hL
  have HM := Lib.hid hM
  have HNS := Lib.hid hns
  have HLA := Lib.hid hlast
  have HCS := Lib.hid hcs
  have HSZ := Lib.hid hsz
  clear h hT hL hM hns hlast hcs hsz
  go_enter Tryz.func15, Tryz.ntmps15
  go_wp2_with fail
  refine at_world _ fun W hW => ?_
  have hbW : Below w.heap.size w W := by
    subst hW
    exact (Below.refl _ _).alloc (Nat.le_refl _) _
  have hB0 : Blk W w.heap.size 55 [.pointer none, .int .i64 0, .bool false, .int .i64 0, .int .i64 0, .int .i64 0, .int .i64 0, .slice none 0 0, .slice none 0 0, .string ⟨#[]⟩, .slice none 0 0] := by
    subst hW
    exact Blk.new w _ [.pointer none, .int .i64 0, .bool false, .int .i64 0, .int .i64 0, .int .i64 0, .int .i64 0, .slice none 0 0, .slice none 0 0, .string ⟨#[]⟩, .slice none 0 0]
  have hsW : W.heap.size = w.heap.size + 1 := by subst hW; simp
  clear hW
  have hsy : ∀ f, SyncS f s0 s0 := fun f => SyncS.idle HCS.out
  have ho := jOpen_full (ss := ssB) (ns := ns) (H.out.same (SameD.of_below hbW)) (by omega) (HT.out.below hbW (by omega)) hTb hl hn hs0 HL.out HM.out (fun s hs => Nat.le_trans (HSZ.out s hs) (by omega)) HNS.out HLA.out (by decide) (hsy _) (hsy _) hs0 hnl hnm
  refine ho.mono ?_
  clear ho hsy
  rintro e w1 ⟨A, c, rfl, hO⟩
  have HJ := Lib.hid hO.o.j
  rw [hsW] at HJ ⊢
  simp only [show ssB.length = 5 from rfl] at HJ ⊢
  have HO := Lib.hid hO
  have HB1 := Lib.hid ((hbW.mono hbw).trans hO.bel)
  have HK1 := Lib.hid (Keeps.trans (Keeps.of_below (ts := [80, 106, 96]) hbW (Nat.le_refl _)) hO.keeps)
  have HT1 := Lib.hid ((hB0.keeps hO.keeps (by decide)))
  have hz1 := hO.o.lt
  have hrow : ∀ (j : Nat) (s : List UInt8), ssB[j]? = some s → ∃ g, A = some ⟨g, 0, none⟩ ∧ w1.cell? ⟨g, j, none⟩ = some (.string (text s)) := fun j s hs => row_str hO.l hs
  obtain ⟨gA, rfl, hr0⟩ := hrow 0 _ rfl
  have HR : Hid (∀ (j : Nat) (s : List UInt8), ssB[j]? = some s → w1.cell? ⟨gA, j, none⟩ = some (.string (text s))) := Lib.hid (fun j s hs => by
    obtain ⟨g, hg, h⟩ := hrow j s hs
    injection hg with hg
    injection hg with hg
    rw [hg]
    exact h)
  have hgA : gA < w1.heap.size := World.block_lt_of_cell? w1 _ hr0
  clear hO hB0 hbW hrow hr0
  go_wp2_with fail
  refine (smust_ok w1).mono ?_
  rintro e w2 ⟨rfl, rfl⟩
  go_wp2_with fail
  refine at_worldC _ fun w3 hW3 => ?_
  have HU : Hid (RdSt w1 w3 w.heap.size w1.heap.size (w.heap.size + 1 + 1 + 1 + 1) 0) := Lib.hid ⟨by rw [hW3]; exact (Below.refl _ _).alloc (Nat.le_refl _) _, fun _ => by rw [hW3]; exact Blk.new w1 _ [.pointer (some ⟨w.heap.size + 1 + 1 + 1 + 1, 0, none⟩), .int .i64 0, .bool false, .int .i64 0, .int .i64 0, .int .i64 0, .int .i64 0, .slice none 0 0, .slice none 0 0, .string ⟨#[]⟩, .slice none 0 0], fun h => by omega⟩
  clear hW3
  go_loopw [26] (fun i wr => ∃ (j : Nat), j ≤ 5 ∧ i = .int .i64 j ∧ Hid (RdSt w1 wr w.heap.size w1.heap.size (w.heap.size + 1 + 1 + 1 + 1) j)) (fun i _ => 5 - (intOf i).toNat)
  case atStart => exact ⟨0, by omega, rfl, HU⟩
  case round =>
    obtain ⟨j, hj, rfl, HS⟩ := hrel
    have hj2 : j = 0 ∨ j = 1 ∨ j = 2 ∨ j = 3 ∨ j = 4 ∨ j = 5 := by omega
    have hr : ∀ s, ssB[j]? = some s → wr.cell? ⟨gA, j, none⟩ = some (.string (text s)) := fun s hs => (HS.out.bel.cell (p := ⟨gA, j, none⟩) hgA).trans (HR.out j s hs)
    rcases hj2 with rfl | rfl | rfl | rfl | rfl | rfl
    · have c0 : wr.cell? ⟨gA, 0, none⟩ = some (.string ⟨#[103, 49]⟩) := hr _ rfl
      have x1 : (⟨#[103, 49]⟩ : ByteArray).extract 0 1 = ⟨#[103]⟩ := rfl
      have x2 : (⟨#[103, 49]⟩ : ByteArray).extract 1 2 = ⟨#[49]⟩ := rfl
      clear hr
      go_wp2_with fail
      refine (atoi_1 _).mono ?_
      rintro e w4 ⟨rfl, hb4⟩
      have U0 : Blk wr w1.heap.size 55 [.pointer (some ⟨w.heap.size + 1 + 1 + 1 + 1, 0, none⟩), .int .i64 0, .bool false, .int .i64 0, .int .i64 0, .int .i64 0, .int .i64 0, .slice none 0 0, .slice none 0 0, .string ⟨#[]⟩, .slice none 0 0] := HS.out.u (by omega)
      have U4 := Lib.hid (U0.below hb4 U0.lt)
      have HB4 := Lib.hid (HS.out.bel.trans (hb4.mono HS.out.bel.size))
      have c1 : w4.cell? ⟨w1.heap.size, 1, none⟩ = some (.int .i64 0) := U4.out.cell 1
      have f1 : w4.frozen? ⟨w1.heap.size, 1, none⟩ = false := U4.out.frozen 1
      clear hb4 U0
      go_wp2_with fail
      go_roundw
      case rel => exact ⟨1, by omega, by go_num, Lib.hid ⟨HB4.out.setCell (Nat.le_refl _) _, fun _ => U4.out.set_ 1 (.int .i64 1), fun h => by omega⟩⟩
      case measure => simp [intOf]
    · have c0 : wr.cell? ⟨gA, 1, none⟩ = some (.string (text (rcS (Rcd.ofVote 0 0)))) := hr _ rfl
      clear hr
      unfold rcS at c0
      have hsz : (rcB (Rcd.ofVote 0 0)).length + 1 ≤ 1000 := by have := HSZ.out (rcS (Rcd.ofVote 0 0)) (by simp [ssB, ssA]); simpa [rcS] using this
      have hp0 : putE (Rcd.ofVote 0 0) = 0 := by kernel_rfl
      have HGET := Lib.hid (fun (W : World) (A : Option Addr) (c : Nat) h1 h2 h3 => wget_Record A (rcB (Rcd.ofVote 0 0)).length c (rcB (Rcd.ofVote 0 0)) W h1 h2 h3)
      have HGOT : Hid (∀ (w' : World) (e : Ending) zs us, GEnd shRecord zs (rcB (Rcd.ofVote 0 0)) us w' e → ∃ A1 c1 B1 d1 A2 c2 B2 d2, e = .returned (.tuple #[.agg ((Rcd.ofVote 0 0).cs A1 c1 B1 d1 A2 c2 B2 d2).toArray, .int .i64 0])) := Lib.hid (fun w' e zs us h => got_rec hp0 h)
      clear hp0
      generalize rcB (Rcd.ofVote 0 0) = b at c0 HGET HGOT hsz
      have x1 := tx_head 114 b
      have x2 := tx_tail 114 b
      have hs1 : 1 ≤ (text (114 :: b)).size := by simp [text, ByteArray.size]
      have hs2 : (1 : Int) ≤ ((text (114 :: b)).size : Int) := by omega
      have hs3 : ((text (114 :: b)).toList == [101]) = false := by simp [text]
      obtain ⟨C, W5, kc, hb5, hz5, ⟨hC1, hC2⟩, hc5⟩ := bytes_of (text b) wr
      have hbn : (text b).size = b.length := by simp [text, ByteArray.size]
      have HRD : Hid (Reads W5 W5.heap.size (some ⟨wr.heap.size, 0, none⟩) b.length (u8s b)) := Lib.hid ⟨by simp, fun _ => ⟨_, rfl, by dsimp only; omega, fun i u hu => by
        have hi : i < b.length := by simpa using (List.getElem?_eq_some_iff.1 hu).1
        rw [u8s_at b i hi] at hu
        injection hu with hu
        subst hu
        rw [Addr.add_mid, Nat.zero_add, hc5 i (by omega)]
        simp [text, List.getD, hi]⟩⟩
      rw [hbn] at kc hC1 hC2
      have HB5 := Lib.hid (HS.out.bel.trans (hb5.mono HS.out.bel.size))
      have U0 : Blk wr w1.heap.size 55 [.pointer (some ⟨w.heap.size + 1 + 1 + 1 + 1, 0, none⟩), .int .i64 1, .bool false, .int .i64 0, .int .i64 0, .int .i64 0, .int .i64 0, .slice none 0 0, .slice none 0 0, .string ⟨#[]⟩, .slice none 0 0] := HS.out.u (by omega)
      have HU5 := Lib.hid (U0.below hb5 U0.lt)
      have hz0 := HS.out.bel.size
      clear hb5 U0 hc5 hbn
      generalize text (114 :: b) = str at *
      generalize text b = str2 at *
      go_wp2_with fail
      refine (HGET.out W5 _ C HRD.out hC1 ⟨by omega, by have := hC2 (by unfold maxLen; omega); unfold maxLen at this; omega⟩).mono ?_
      rintro e w6 ⟨hg, hb6⟩
      obtain ⟨A1, c1, B1, d1, A2, c2, B2, d2, rfl⟩ := HGOT.out _ _ _ _ hg
      have HU6 := Lib.hid (HU5.out.below hb6 HU5.out.lt)
      have HB6 := Lib.hid (HB5.out.trans (hb6.mono HB5.out.size))
      clear hg hb6 HU5 HB5 HRD HGET HGOT
      rw [show ((Rcd.ofVote 0 0).cs A1 c1 B1 d1 A2 c2 B2 d2).toArray = #[.int .i64 1, .int .i64 0, .int .i64 0, .int .i64 0, .int .i64 0, .int .i64 0, .slice A1 0 c1, .slice B1 0 d1, .string ⟨#[]⟩, .int .i64 0, .int .i64 0, .int .i64 0, .slice A2 0 c2, .slice B2 0 d2, .string ⟨#[]⟩] from rfl]
      go_wp2_with fail
      refine at_world _ fun w7 hW7 => ?_
      have HB7 := Lib.hid (show Below w1.heap.size w1 w7 from by rw [hW7]; exact HB6.out.alloc HB6.out.size _)
      have HU7 := Lib.hid (show Blk w7 w1.heap.size 55 _ from by rw [hW7]; exact HU6.out.alloc _)
      have HR7 : Hid (Blk w7 w6.heap.size 33 [.int .i64 1, .int .i64 0, .int .i64 0, .int .i64 0, .int .i64 0, .int .i64 0, .slice A1 0 c1, .slice B1 0 d1, .string ⟨#[]⟩, .int .i64 0, .int .i64 0, .int .i64 0, .slice A2 0 c2, .slice B2 0 d2, .string ⟨#[]⟩]) := Lib.hid (by rw [hW7]; exact Blk.new w6 _ [.int .i64 1, .int .i64 0, .int .i64 0, .int .i64 0, .int .i64 0, .int .i64 0, .slice A1 0 c1, .slice B1 0 d1, .string ⟨#[]⟩, .int .i64 0, .int .i64 0, .int .i64 0, .slice A2 0 c2, .slice B2 0 d2, .string ⟨#[]⟩])
      clear hW7 HB6 HU6
      refine (smust_ok w7).mono ?_
      rintro e w8 ⟨rfl, rfl⟩
      go_wp2_with (first
        | (with_reducible refine wpList_load_at rfl 38 _ rfl w1.heap.size 3 rfl HU7 [.pointer (some ⟨w.heap.size + 1 + 1 + 1 + 1, 0, none⟩), .int .i64 1, .bool false] [.int .i64 0, .int .i64 0, .int .i64 0, .int .i64 0, .slice none 0 0, .slice none 0 0, .string ⟨#[]⟩, .slice none 0 0] [] rfl rfl (by simp) Tryz.underlying38 rfl HIK ?_)
        | (with_reducible refine wpList_load_blk rfl 33 _ rfl w6.heap.size rfl HR7 (by simp) Tryz.underlying33 rfl HIR ?_)
        | fail)
      have HKO : Hid (KepOwn w7 w7.heap.size Kep.zero none none none 0) := Lib.hid (⟨RowsAt.nil, RowsAt.nil, [], World.ownsRow_nil _ _ _ _, ThingsN.nil⟩ : KepOwn w7 w7.heap.size Kep.zero none none none 0)
      have HRA : Hid (RcdAt' w7 (· < w7.heap.size) (Rcd.ofVote 0 0) A1 B1 A2 B2) := Lib.hid ⟨RowsAt.nil, RowsAt.nil, RowsAt.nil, RowsAt.nil⟩
      have HSM : Hid (Rcd.Small (Rcd.ofVote 0 0)) := Lib.hid ⟨⟨by decide, by decide⟩, ⟨by decide, by decide⟩⟩
      have HOK : Hid (OkK Kep.zero) := Lib.hid ⟨⟨by decide, by decide⟩, by decide⟩
      refine (folded_vote Kep.zero (Rcd.ofVote 0 0) none 0 none 0 none 0 A1 c1 B1 d1 A2 c2 B2 d2 w7.heap.size w7 HKO.out (Nat.le_refl _) HOK.out HRA.out HSM.out (by kernel_rfl) rfl (by decide)).mono ?_
      clear HKO HRA HSM HOK
      rintro e w8 ⟨rfl, hb8⟩
      rw [show (Kep.cs { Kep.zero with term := (Rcd.ofVote 0 0).term, vote := (Rcd.ofVote 0 0).vote } none 0 none 0 none 0).toArray = #[.int .i64 0, .int .i64 0, .int .i64 0, .int .i64 0, .slice none 0 0, .slice none 0 0, .string ⟨#[]⟩, .slice none 0 0] from rfl]
      have HU8 := Lib.hid (HU7.out.below hb8 HU7.out.lt)
      have HB8 := Lib.hid (HB7.out.trans (hb8.mono HB7.out.size))
      clear hb8 HU7 HB7 HR7
      go_wp2_with (first
        | ((with_reducible refine wpList_store_at rfl 38 _ _ rfl w1.heap.size 3 rfl HU8 [.pointer (some ⟨w.heap.size + 1 + 1 + 1 + 1, 0, none⟩), .int .i64 1, .bool false] [.int .i64 0, .int .i64 0, .int .i64 0, .int .i64 0, .slice none 0 0, .slice none 0 0, .string ⟨#[]⟩, .slice none 0 0] [] [.int .i64 0, .int .i64 0, .int .i64 0, .int .i64 0, .slice none 0 0, .slice none 0 0, .string ⟨#[]⟩, .slice none 0 0] rfl rfl rfl (by simp) (by simp) HIK (by simp [Value.oneCell']) ?_)
           intro w9 V)
        | fail)
      refine (smust_ok w9).mono ?_
      rintro e w10 ⟨rfl, rfl⟩
      have HB9 := Lib.hid (V.out.below HB8.out (Nat.le_refl _))
      have HU9 := Lib.hid V.out.blk
      go_wp2_with fail
      go_roundw
      case rel => exact ⟨2, by omega, by go_num, Lib.hid ⟨HB9.out, fun _ => HU9.out, fun h => by omega⟩⟩
      case measure => simp [intOf]
    · have c0 : wr.cell? ⟨gA, 2, none⟩ = some (.string ⟨#[101]⟩) := hr _ rfl
      clear hr
      have U0 : Blk wr w1.heap.size 55 [.pointer (some ⟨w.heap.size + 1 + 1 + 1 + 1, 0, none⟩), .int .i64 1, .bool false, .int .i64 0, .int .i64 0, .int .i64 0, .int .i64 0, .slice none 0 0, .slice none 0 0, .string ⟨#[]⟩, .slice none 0 0] := HS.out.u (by omega)
      have HU4 := Lib.hid U0
      have c2 : wr.cell? ⟨w1.heap.size, 2, none⟩ = some (.bool false) := U0.cell 2
      have f2 : wr.frozen? ⟨w1.heap.size, 2, none⟩ = false := U0.frozen 2
      clear U0
      go_wp2_with fail
      go_roundw
      case rel => exact ⟨3, by omega, by go_num, Lib.hid ⟨HS.out.bel.setCell (Nat.le_refl _) _, fun _ => HU4.out.set_ 2 (.bool true), fun h => by omega⟩⟩
      case measure => simp [intOf]
    · have c0 : wr.cell? ⟨gA, 3, none⟩ = some (.string (text (rcS (Rcd.ofVote 2 1)))) := hr _ rfl
      clear hr
      unfold rcS at c0
      have hsz : (rcB (Rcd.ofVote 2 1)).length + 1 ≤ 1000 := by have := HSZ.out (rcS (Rcd.ofVote 2 1)) (by simp [ssB, ssA]); simpa [rcS] using this
      have hp0 : putE (Rcd.ofVote 2 1) = 0 := by kernel_rfl
      have HGET := Lib.hid (fun (W : World) (A : Option Addr) (c : Nat) h1 h2 h3 => wget_Record A (rcB (Rcd.ofVote 2 1)).length c (rcB (Rcd.ofVote 2 1)) W h1 h2 h3)
      have HGOT : Hid (∀ (w' : World) (e : Ending) zs us, GEnd shRecord zs (rcB (Rcd.ofVote 2 1)) us w' e → ∃ A1 c1 B1 d1 A2 c2 B2 d2, e = .returned (.tuple #[.agg ((Rcd.ofVote 2 1).cs A1 c1 B1 d1 A2 c2 B2 d2).toArray, .int .i64 0])) := Lib.hid (fun w' e zs us h => got_rec hp0 h)
      clear hp0
      generalize rcB (Rcd.ofVote 2 1) = b at c0 HGET HGOT hsz
      have x1 := tx_head 114 b
      have x2 := tx_tail 114 b
      have hs1 : 1 ≤ (text (114 :: b)).size := by simp [text, ByteArray.size]
      have hs2 : (1 : Int) ≤ ((text (114 :: b)).size : Int) := by omega
      have hs3 : ((text (114 :: b)).toList == [101]) = false := by simp [text]
      obtain ⟨C, W5, kc, hb5, hz5, ⟨hC1, hC2⟩, hc5⟩ := bytes_of (text b) wr
      have hbn : (text b).size = b.length := by simp [text, ByteArray.size]
      have HRD : Hid (Reads W5 W5.heap.size (some ⟨wr.heap.size, 0, none⟩) b.length (u8s b)) := Lib.hid ⟨by simp, fun _ => ⟨_, rfl, by dsimp only; omega, fun i u hu => by
        have hi : i < b.length := by simpa using (List.getElem?_eq_some_iff.1 hu).1
        rw [u8s_at b i hi] at hu
        injection hu with hu
        subst hu
        rw [Addr.add_mid, Nat.zero_add, hc5 i (by omega)]
        simp [text, List.getD, hi]⟩⟩
      rw [hbn] at kc hC1 hC2
      have HB5 := Lib.hid (HS.out.bel.trans (hb5.mono HS.out.bel.size))
      have U0 : Blk wr w1.heap.size 55 [.pointer (some ⟨w.heap.size + 1 + 1 + 1 + 1, 0, none⟩), .int .i64 1, .bool true, .int .i64 0, .int .i64 0, .int .i64 0, .int .i64 0, .slice none 0 0, .slice none 0 0, .string ⟨#[]⟩, .slice none 0 0] := HS.out.u (by omega)
      have HU5 := Lib.hid (U0.below hb5 U0.lt)
      have hz0 := HS.out.bel.size
      clear hb5 U0 hc5 hbn
      generalize text (114 :: b) = str at *
      generalize text b = str2 at *
      go_wp2_with fail
      refine (HGET.out W5 _ C HRD.out hC1 ⟨by omega, by have := hC2 (by unfold maxLen; omega); unfold maxLen at this; omega⟩).mono ?_
      rintro e w6 ⟨hg, hb6⟩
      obtain ⟨A1, c1, B1, d1, A2, c2, B2, d2, rfl⟩ := HGOT.out _ _ _ _ hg
      have HU6 := Lib.hid (HU5.out.below hb6 HU5.out.lt)
      have HB6 := Lib.hid (HB5.out.trans (hb6.mono HB5.out.size))
      clear hg hb6 HU5 HB5 HRD HGET HGOT
      rw [show ((Rcd.ofVote 2 1).cs A1 c1 B1 d1 A2 c2 B2 d2).toArray = #[.int .i64 1, .int .i64 2, .int .i64 1, .int .i64 0, .int .i64 0, .int .i64 0, .slice A1 0 c1, .slice B1 0 d1, .string ⟨#[]⟩, .int .i64 0, .int .i64 0, .int .i64 0, .slice A2 0 c2, .slice B2 0 d2, .string ⟨#[]⟩] from rfl]
      go_wp2_with fail
      refine at_world _ fun w7 hW7 => ?_
      have HB7 := Lib.hid (show Below w1.heap.size w1 w7 from by rw [hW7]; exact HB6.out.alloc HB6.out.size _)
      have HU7 := Lib.hid (show Blk w7 w1.heap.size 55 _ from by rw [hW7]; exact HU6.out.alloc _)
      have HR7 : Hid (Blk w7 w6.heap.size 33 [.int .i64 1, .int .i64 2, .int .i64 1, .int .i64 0, .int .i64 0, .int .i64 0, .slice A1 0 c1, .slice B1 0 d1, .string ⟨#[]⟩, .int .i64 0, .int .i64 0, .int .i64 0, .slice A2 0 c2, .slice B2 0 d2, .string ⟨#[]⟩]) := Lib.hid (by rw [hW7]; exact Blk.new w6 _ [.int .i64 1, .int .i64 2, .int .i64 1, .int .i64 0, .int .i64 0, .int .i64 0, .slice A1 0 c1, .slice B1 0 d1, .string ⟨#[]⟩, .int .i64 0, .int .i64 0, .int .i64 0, .slice A2 0 c2, .slice B2 0 d2, .string ⟨#[]⟩])
      clear hW7 HB6 HU6
      refine (smust_ok w7).mono ?_
      rintro e w8 ⟨rfl, rfl⟩
      go_wp2_with (first
        | (with_reducible refine wpList_load_at rfl 38 _ rfl w1.heap.size 3 rfl HU7 [.pointer (some ⟨w.heap.size + 1 + 1 + 1 + 1, 0, none⟩), .int .i64 1, .bool true] [.int .i64 0, .int .i64 0, .int .i64 0, .int .i64 0, .slice none 0 0, .slice none 0 0, .string ⟨#[]⟩, .slice none 0 0] [] rfl rfl (by simp) Tryz.underlying38 rfl HIK ?_)
        | (with_reducible refine wpList_load_blk rfl 33 _ rfl w6.heap.size rfl HR7 (by simp) Tryz.underlying33 rfl HIR ?_)
        | fail)
      have HKO : Hid (KepOwn w7 w7.heap.size Kep.zero none none none 0) := Lib.hid (⟨RowsAt.nil, RowsAt.nil, [], World.ownsRow_nil _ _ _ _, ThingsN.nil⟩ : KepOwn w7 w7.heap.size Kep.zero none none none 0)
      have HRA : Hid (RcdAt' w7 (· < w7.heap.size) (Rcd.ofVote 2 1) A1 B1 A2 B2) := Lib.hid ⟨RowsAt.nil, RowsAt.nil, RowsAt.nil, RowsAt.nil⟩
      have HSM : Hid (Rcd.Small (Rcd.ofVote 2 1)) := Lib.hid ⟨⟨by decide, by decide⟩, ⟨by decide, by decide⟩⟩
      have HOK : Hid (OkK Kep.zero) := Lib.hid ⟨⟨by decide, by decide⟩, by decide⟩
      refine (folded_vote Kep.zero (Rcd.ofVote 2 1) none 0 none 0 none 0 A1 c1 B1 d1 A2 c2 B2 d2 w7.heap.size w7 HKO.out (Nat.le_refl _) HOK.out HRA.out HSM.out (by kernel_rfl) rfl (by decide)).mono ?_
      clear HKO HRA HSM HOK
      rintro e w8 ⟨rfl, hb8⟩
      rw [show (Kep.cs { Kep.zero with term := (Rcd.ofVote 2 1).term, vote := (Rcd.ofVote 2 1).vote } none 0 none 0 none 0).toArray = #[.int .i64 2, .int .i64 1, .int .i64 0, .int .i64 0, .slice none 0 0, .slice none 0 0, .string ⟨#[]⟩, .slice none 0 0] from rfl]
      have HU8 := Lib.hid (HU7.out.below hb8 HU7.out.lt)
      have HB8 := Lib.hid (HB7.out.trans (hb8.mono HB7.out.size))
      clear hb8 HU7 HB7 HR7
      go_wp2_with (first
        | ((with_reducible refine wpList_store_at rfl 38 _ _ rfl w1.heap.size 3 rfl HU8 [.pointer (some ⟨w.heap.size + 1 + 1 + 1 + 1, 0, none⟩), .int .i64 1, .bool true] [.int .i64 0, .int .i64 0, .int .i64 0, .int .i64 0, .slice none 0 0, .slice none 0 0, .string ⟨#[]⟩, .slice none 0 0] [] [.int .i64 2, .int .i64 1, .int .i64 0, .int .i64 0, .slice none 0 0, .slice none 0 0, .string ⟨#[]⟩, .slice none 0 0] rfl rfl rfl (by simp) (by simp) HIK (by simp [Value.oneCell']) ?_)
           intro w9 V)
        | fail)
      refine (smust_ok w9).mono ?_
      rintro e w10 ⟨rfl, rfl⟩
      have HB9 := Lib.hid (V.out.below HB8.out (Nat.le_refl _))
      have HU9 := Lib.hid V.out.blk
      go_wp2_with fail
      go_roundw
      case rel => exact ⟨4, by omega, by go_num, Lib.hid ⟨HB9.out, fun _ => HU9.out, fun h => by omega⟩⟩
      case measure => simp [intOf]
    · have c0 : wr.cell? ⟨gA, 4, none⟩ = some (.string (text (rcS (Rcd.ofEnt e1)))) := hr _ rfl
      clear hr
      unfold rcS at c0
      have hsz : (rcB (Rcd.ofEnt e1)).length + 1 ≤ 1000 := by have := HSZ.out (rcS (Rcd.ofEnt e1)) (by simp [ssB, ssA]); simpa [rcS] using this
      have hp0 : putE (Rcd.ofEnt e1) = 0 := by kernel_rfl
      have HGET := Lib.hid (fun (W : World) (A : Option Addr) (c : Nat) h1 h2 h3 => wget_Record A (rcB (Rcd.ofEnt e1)).length c (rcB (Rcd.ofEnt e1)) W h1 h2 h3)
      have HGOT : Hid (∀ (w' : World) (e : Ending) zs us, GEnd shRecord zs (rcB (Rcd.ofEnt e1)) us w' e → ∃ A1 c1 B1 d1 A2 c2 B2 d2, e = .returned (.tuple #[.agg ((Rcd.ofEnt e1).cs A1 c1 B1 d1 A2 c2 B2 d2).toArray, .int .i64 0])) := Lib.hid (fun w' e zs us h => got_rec hp0 h)
      clear hp0
      generalize rcB (Rcd.ofEnt e1) = b at c0 HGET HGOT hsz
      have x1 := tx_head 114 b
      have x2 := tx_tail 114 b
      have hs1 : 1 ≤ (text (114 :: b)).size := by simp [text, ByteArray.size]
      have hs2 : (1 : Int) ≤ ((text (114 :: b)).size : Int) := by omega
      have hs3 : ((text (114 :: b)).toList == [101]) = false := by simp [text]
      obtain ⟨C, W5, kc, hb5, hz5, ⟨hC1, hC2⟩, hc5⟩ := bytes_of (text b) wr
      have hbn : (text b).size = b.length := by simp [text, ByteArray.size]
      have HRD : Hid (Reads W5 W5.heap.size (some ⟨wr.heap.size, 0, none⟩) b.length (u8s b)) := Lib.hid ⟨by simp, fun _ => ⟨_, rfl, by dsimp only; omega, fun i u hu => by
        have hi : i < b.length := by simpa using (List.getElem?_eq_some_iff.1 hu).1
        rw [u8s_at b i hi] at hu
        injection hu with hu
        subst hu
        rw [Addr.add_mid, Nat.zero_add, hc5 i (by omega)]
        simp [text, List.getD, hi]⟩⟩
      rw [hbn] at kc hC1 hC2
      have HB5 := Lib.hid (HS.out.bel.trans (hb5.mono HS.out.bel.size))
      have U0 : Blk wr w1.heap.size 55 [.pointer (some ⟨w.heap.size + 1 + 1 + 1 + 1, 0, none⟩), .int .i64 1, .bool true, .int .i64 2, .int .i64 1, .int .i64 0, .int .i64 0, .slice none 0 0, .slice none 0 0, .string ⟨#[]⟩, .slice none 0 0] := HS.out.u (by omega)
      have HU5 := Lib.hid (U0.below hb5 U0.lt)
      have hz0 := HS.out.bel.size
      clear hb5 U0 hc5 hbn
      generalize text (114 :: b) = str at *
      generalize text b = str2 at *
      go_wp2_with fail
      refine (HGET.out W5 _ C HRD.out hC1 ⟨by omega, by have := hC2 (by unfold maxLen; omega); unfold maxLen at this; omega⟩).mono ?_
      rintro e w6 ⟨hg, hb6⟩
      obtain ⟨A1, c1, B1, d1, A2, c2, B2, d2, rfl⟩ := HGOT.out _ _ _ _ hg
      have HU6 := Lib.hid (HU5.out.below hb6 HU5.out.lt)
      have HB6 := Lib.hid (HB5.out.trans (hb6.mono HB5.out.size))
      clear hg hb6 HU5 HB5 HRD HGET HGOT
      rw [show ((Rcd.ofEnt e1).cs A1 c1 B1 d1 A2 c2 B2 d2).toArray = #[.int .i64 2, .int .i64 0, .int .i64 0, .int .i64 1, .int .i64 2, .int .i64 1, .slice A1 0 c1, .slice B1 0 d1, .string ⟨#[]⟩, .int .i64 0, .int .i64 0, .int .i64 0, .slice A2 0 c2, .slice B2 0 d2, .string ⟨#[]⟩] from rfl]
      go_wp2_with fail
      refine at_world _ fun w7 hW7 => ?_
      have HB7 := Lib.hid (show Below w1.heap.size w1 w7 from by rw [hW7]; exact HB6.out.alloc HB6.out.size _)
      have HU7 := Lib.hid (show Blk w7 w1.heap.size 55 _ from by rw [hW7]; exact HU6.out.alloc _)
      have HR7 : Hid (Blk w7 w6.heap.size 33 [.int .i64 2, .int .i64 0, .int .i64 0, .int .i64 1, .int .i64 2, .int .i64 1, .slice A1 0 c1, .slice B1 0 d1, .string ⟨#[]⟩, .int .i64 0, .int .i64 0, .int .i64 0, .slice A2 0 c2, .slice B2 0 d2, .string ⟨#[]⟩]) := Lib.hid (by rw [hW7]; exact Blk.new w6 _ [.int .i64 2, .int .i64 0, .int .i64 0, .int .i64 1, .int .i64 2, .int .i64 1, .slice A1 0 c1, .slice B1 0 d1, .string ⟨#[]⟩, .int .i64 0, .int .i64 0, .int .i64 0, .slice A2 0 c2, .slice B2 0 d2, .string ⟨#[]⟩])
      clear hW7 HB6 HU6
      refine (smust_ok w7).mono ?_
      rintro e w8 ⟨rfl, rfl⟩
      go_wp2_with (first
        | (with_reducible refine wpList_load_at rfl 38 _ rfl w1.heap.size 3 rfl HU7 [.pointer (some ⟨w.heap.size + 1 + 1 + 1 + 1, 0, none⟩), .int .i64 1, .bool true] [.int .i64 2, .int .i64 1, .int .i64 0, .int .i64 0, .slice none 0 0, .slice none 0 0, .string ⟨#[]⟩, .slice none 0 0] [] rfl rfl (by simp) Tryz.underlying38 rfl HIK ?_)
        | (with_reducible refine wpList_load_blk rfl 33 _ rfl w6.heap.size rfl HR7 (by simp) Tryz.underlying33 rfl HIR ?_)
        | fail)
      have HKO : Hid (KepOwn w7 w7.heap.size (⟨2, 1, .zero, []⟩ : Kep) none none none 0) := Lib.hid (⟨RowsAt.nil, RowsAt.nil, [], World.ownsRow_nil _ _ _ _, ThingsN.nil⟩ : KepOwn w7 w7.heap.size (⟨2, 1, .zero, []⟩ : Kep) none none none 0)
      have HRA : Hid (RcdAt' w7 (· < w7.heap.size) (Rcd.ofEnt e1) A1 B1 A2 B2) := Lib.hid ⟨RowsAt.nil, RowsAt.nil, RowsAt.nil, RowsAt.nil⟩
      have HSM : Hid (Rcd.Small (Rcd.ofEnt e1)) := Lib.hid ⟨⟨by decide, by decide⟩, ⟨by decide, by decide⟩⟩
      have HOK : Hid (OkK (⟨2, 1, .zero, []⟩ : Kep)) := Lib.hid ⟨⟨by decide, by decide⟩, by decide⟩
      refine (folded_any (⟨2, 1, .zero, []⟩ : Kep) (Rcd.ofEnt e1) none 0 none 0 none 0 A1 c1 B1 d1 A2 c2 B2 d2 w7.heap.size w7 HKO.out (Nat.le_refl _) HOK.out HRA.out HSM.out).mono ?_
      clear HKO HRA HSM HOK
      rintro e w8 ⟨k', A3, c3, B3, d3, E3, n3, x3, hkx, rfl, hka, hb8⟩
      obtain ⟨rfl, rfl⟩ : k' = kF ∧ x3 = 0 := by
        have h : (k', x3) = (kF, 0) := hkx.trans (by kernel_rfl)
        exact ⟨congrArg Prod.fst h, congrArg Prod.snd h⟩
      clear hkx
      rw [show (Kep.cs kF A3 c3 B3 d3 E3 n3).toArray = #[.int .i64 2, .int .i64 1, .int .i64 0, .int .i64 0, .slice A3 0 c3, .slice B3 0 d3, .string ⟨#[]⟩, .slice E3 1 n3] from rfl]
      have HKA := Lib.hid hka
      have hz7 := HB7.out.size
      have HU8 := Lib.hid (HU7.out.below hb8 HU7.out.lt)
      have HB8 := Lib.hid (HB7.out.trans (hb8.mono HB7.out.size))
      clear hb8 HU7 HB7 HR7 hka
      go_wp2_with (first
        | ((with_reducible refine wpList_store_at rfl 38 _ _ rfl w1.heap.size 3 rfl HU8 [.pointer (some ⟨w.heap.size + 1 + 1 + 1 + 1, 0, none⟩), .int .i64 1, .bool true] [.int .i64 2, .int .i64 1, .int .i64 0, .int .i64 0, .slice none 0 0, .slice none 0 0, .string ⟨#[]⟩, .slice none 0 0] [] [.int .i64 2, .int .i64 1, .int .i64 0, .int .i64 0, .slice A3 0 c3, .slice B3 0 d3, .string ⟨#[]⟩, .slice E3 1 n3] rfl rfl rfl (by simp) (by simp) HIK (by simp [Value.oneCell']) ?_)
           intro w9 V)
        | fail)
      refine (smust_ok w9).mono ?_
      rintro e w10 ⟨rfl, rfl⟩
      have HB9 := Lib.hid (V.out.below HB8.out (Nat.le_refl _))
      have HU9 := Lib.hid V.out.blk
      have HK9 : Hid (KepAt w9 (Nw w9 w.heap.size [29, 3]) kF A3 B3 E3) := Lib.hid ⟨(HKA.out.v.nw_keeps V.out.keeps (by decide)).nw_mono (by omega) (fun _ h => h), (HKA.out.l.nw_keeps V.out.keeps (by decide)).nw_mono (by omega) (fun _ h => h), (HKA.out.e.nw_keeps V.out.keeps (by decide)).nw_mono (by omega) (fun _ h => h)⟩
      go_wp2_with fail
      go_roundw
      case rel => exact ⟨5, by omega, by go_num, Lib.hid ⟨HB9.out, fun h => by omega, fun _ => ⟨A3, c3, B3, d3, E3, n3, HU9.out, HK9.out⟩⟩⟩
      case measure => simp [intOf]
    · obtain ⟨A3, c3, B3, d3, E3, n3, hu, hka⟩ := HS.out.f (by omega)
      have HU : Hid (Blk wr w1.heap.size 55 [.pointer (some ⟨w.heap.size + 1 + 1 + 1 + 1, 0, none⟩), .int .i64 1, .bool true, .int .i64 2, .int .i64 1, .int .i64 0, .int .i64 0, .slice A3 0 c3, .slice B3 0 d3, .string ⟨#[]⟩, .slice E3 1 n3]) := Lib.hid hu
      have HKA := Lib.hid hka
      have HT3 := Lib.hid (HT1.out.below HS.out.bel HT1.out.lt)
      have HJ3 := Lib.hid (HJ.out.below HS.out.bel HJ.out.lt)
      have hz3 := HS.out.bel.size
      clear hr hu hka
      go_wp2_with (first
        | (with_reducible refine wpList_load_blk rfl 55 _ rfl w1.heap.size rfl HU (by simp) Tryz.underlying55 rfl HI ?_)
        | ((with_reducible refine wpList_store_blk rfl 55 _ _ rfl w.heap.size [.pointer (some ⟨w.heap.size + 1 + 1 + 1 + 1, 0, none⟩), .int .i64 1, .bool true, .int .i64 2, .int .i64 1, .int .i64 0, .int .i64 0, .slice A3 0 c3, .slice B3 0 d3, .string ⟨#[]⟩, .slice E3 1 n3] rfl rfl HT3 (by simp) (by simp) HI (by simp [Value.oneCell']) ?_)
           intro w4 V))
      refine bodyPost_ret (results_blk rfl _ _ w.heap.size rfl (Lib.hid V.out.blk) (by simp) Tryz.underlying55 rfl HI) rfl ?_
      have hbr : Below base w wr := HB1.out.trans (HS.out.bel.mono (by have := HB1.out.size; omega))
      have hkr : Keeps [80, 106, 96] w wr := HK1.out.then_below HS.out.bel
      refine ⟨_, A3, c3, B3, d3, E3, n3, rfl, ⟨HKA.out.v.nw_keeps V.out.keeps (by decide), HKA.out.l.nw_keeps V.out.keeps (by decide), HKA.out.e.nw_keeps V.out.keeps (by decide)⟩, by omega, V.out.other HJ3.out (by omega), ?_, V.out.below hbr hbw, hkr.below_new V.out.bel⟩
      exact (HO.out.at_.same (SameD.of_below HS.out.bel)).same ⟨Nat.le_of_eq V.out.size.symm, fun k o ho hd => by
        by_cases hk : k = w.heap.size
        · subst hk
          have h1 := HT3.out
          unfold Blk at h1
          rw [ho] at h1
          injection h1 with h1
          subst h1
          exact absurd hd (by simp [isD])
        · exact (V.out.far k hk).trans ho⟩
end Go.Proofs.YtkdmfjpfanmgmaaGreatDoor
