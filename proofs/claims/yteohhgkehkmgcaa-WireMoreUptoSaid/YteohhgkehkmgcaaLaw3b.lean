/- The statements of layer 3: bytes are just one thing, or are refused. Printed by mkbytes.py. -/
import Derived.Test.YteohhgkehkmgcaaLaw3
import Derived.Test.YteohhgkehkmgcaaRGet1
import Derived.Test.YteohhgkehkmgcaaFrame
namespace Go.Proofs.Yteohhgkehkmgcaa
open Go.RowKit Le
set_option maxRecDepth 100000
set_option linter.unusedVariables false
set_option linter.unusedSimpArgs false

theorem Keeps.of_grown {ts : List TypeId} {w w' : World} {g : Nat} {t : TypeId} (hg : w.grownBy w' (some g)) (ht : TypeAt w g t) (hm : t ∈ ts) : Keeps ts w w' :=
  ⟨hg.size, fun k t' hk hn => hg.block k hk.lt (by intro e; injection e with e; subst e; exact hn ((hk.same ht) ▸ hm))⟩
theorem IsRow.cap_le {k : IntKind} {w : World} {a : Option Addr} {len cap : Nat} {zs : List Int} (h : IsRow k w a len cap zs) : cap ≤ 9223372036854775807 := by
  rcases h with ⟨_, _, rfl, _⟩ | ⟨_, _, _, h, _⟩
  · omega
  · exact h
theorem lent_reads {w : World} {g n : Nat} {l : List UInt8} (h : Blk w g 5 (u8s (l ++ marks))) (hn : l.length = n) : Reads w w.heap.size (some ⟨g, 0, none⟩) n (u8s l) := by
  have h2 := h.reads (n := n) (by simp [← hn])
  rwa [show (u8s (l ++ marks)).take n = u8s l by rw [u8s_append, List.take_left' (by simp [hn])]] at h2
theorem rds_back {sh : List Sh} {l : List UInt8} {ds : List Da} (h : rds sh l = some (ds, [])) : lays sh ds ([], 0) = (l, 0) := by
  obtain ⟨p, hp, hB⟩ := rds_lay sh l ds [] h
  rw [List.append_nil] at hp
  subst hp
  have := hB []
  simpa using this

def zeroRecord : List Da := [.int 0, .int 0, .int 0, .int 0, .int 0, .int 0, .rows [], .rows [], .text [], .int 0, .int 0, .int 0, .rows [], .rows [], .text []]
theorem cels_zeroRecord (w : World) (S : Nat → Prop) : Cels w S shRecord zeroRecord [.int .i64 0, .int .i64 0, .int .i64 0, .int .i64 0, .int .i64 0, .int .i64 0, .slice none 0 0, .slice none 0 0, .string ⟨#[]⟩, .int .i64 0, .int .i64 0, .int .i64 0, .slice none 0 0, .slice none 0 0, .string ⟨#[]⟩] := by
  have e := cel_empty w S
  have n := fun x => Cel.mk_num (w := w) (S := S) x
  have z := cel_zero w S
  exact (Cels.mk (n 0) (Cels.mk (n 0) (Cels.mk (n 0) (Cels.mk (n 0) (Cels.mk (n 0) (Cels.mk (n 0) (Cels.mk (cel_nil w S _) (Cels.mk (cel_nil w S _) (Cels.mk e (Cels.mk (n 0) (Cels.mk (n 0) (Cels.mk (n 0) (Cels.mk (cel_nil w S _) (Cels.mk (cel_nil w S _) (Cels.mk e Cels.mk0)))))))))))))))
set_option maxHeartbeats 3200000 in
theorem wireRecordBytes_ok (A : Option Addr) (n c : Nat) (l : List UInt8) (ds : List Da) (w : World) (hb : Reads w w.heap.size A n (u8s l)) (hn : n ≤ c) (hc : c ≤ 9223372036854775807) (hsm : n ≤ 262144) (hds : rds shRecord l = some (ds, [])) :
    Calls Try.prog 8 #[.slice A n c] w fun e w' => e = .returned (.bool true) ∧ Below w.heap.size w w' := by
  have hlen : l.length = n := reads_length hb
  have HLN := Lib.hid hlen
  have HS := Lib.hid hds
  have HLY := Lib.hid (rds_back hds)
  have HB0 := Lib.hid hb
  have C := Lib.hid (lend_any A n c l w hb (by omega))
  clear hb hds hlen
  go_enter Try.func8, Try.ntmps8
  go_wp2_with fail
  refine (unhide C).mono ?_
  rintro e w1 ⟨rfl, hX, hw1⟩
  have hg1 := hX.lt
  have HX1 := Lib.hid hX
  have HBW := Lib.hid hw1
  have HB1 := Lib.hid (HB0.out.below hw1)
  clear hX hw1 C HB0
  go_wp2_with fail
  refine (wget_Record _ _ _ l w1 (lent_reads HX1.out HLN.out) (by omega) ⟨by omega, by omega⟩).mono ?_
  rintro e w2 ⟨hG, hK2⟩
  rcases hG with ⟨ds', vs, hds', rfl, hC⟩ | ⟨hno, rfl⟩
  rotate_left
  · exact absurd HS.out (hno ds)
  rw [HS.out] at hds'
  injection hds' with hds'
  injection hds' with hds' _
  subst hds'
  have HX2 := Lib.hid (HX1.out.below hK2 hg1)
  have HB2 := Lib.hid (HB1.out.below (hK2.mono (by omega)))
  have HBW2 := Lib.hid (HBW.out.trans (hK2.mono (by omega)))
  have hs2 := hK2.size
  -- y is laid in a variable
  have hlen : vs.length = 15 := hC.len.2
  have HX := Lib.hid (Blk.new w2 33 [.int .i64 0, .int .i64 0, .int .i64 0, .int .i64 0, .int .i64 0, .int .i64 0, .slice none 0 0, .slice none 0 0, .string ⟨#[]⟩, .int .i64 0, .int .i64 0, .int .i64 0, .slice none 0 0, .slice none 0 0, .string ⟨#[]⟩])
  have HTE : Hid (World.there (w2.alloc (.cells #[.int .i64 0, .int .i64 0, .int .i64 0, .int .i64 0, .int .i64 0, .int .i64 0, .slice none 0 0, .slice none 0 0, .string ⟨#[]⟩, .int .i64 0, .int .i64 0, .int .i64 0, .slice none 0 0, .slice none 0 0, .string ⟨#[]⟩] 33)) w2.heap.size 0 vs.toArray.size) := Lib.hid (HX.out.there 0 _ (by simp [hlen]))
  have hsV : Hid ((Try.prog.info? 33).map (·.size) = some vs.toArray.size) := Lib.hid (by rw [List.size_toArray, hlen]; kernel_rfl)
  have hiV : Hid ((Try.prog.info? 33).map (·.size) = some vs.length) := Lib.hid (by rw [hlen]; kernel_rfl)
  have h1V : Hid (vs.toArray.all (·.oneCell') = true) := Lib.hid (all_oneCell_toArray hC.oneCell)
  obtain ⟨w3, hw3⟩ : ∃ w3, ((w2.alloc (.cells #[.int .i64 0, .int .i64 0, .int .i64 0, .int .i64 0, .int .i64 0, .int .i64 0, .slice none 0 0, .slice none 0 0, .string ⟨#[]⟩, .int .i64 0, .int .i64 0, .int .i64 0, .slice none 0 0, .slice none 0 0, .string ⟨#[]⟩] 33)).setCells w2.heap.size 0 vs) = w3 := ⟨_, rfl⟩
  have hb3 : Below w2.heap.size w2 ((w2.alloc (.cells #[.int .i64 0, .int .i64 0, .int .i64 0, .int .i64 0, .int .i64 0, .int .i64 0, .slice none 0 0, .slice none 0 0, .string ⟨#[]⟩, .int .i64 0, .int .i64 0, .int .i64 0, .slice none 0 0, .slice none 0 0, .string ⟨#[]⟩] 33)).setCells w2.heap.size 0 vs) := ((Below.refl _ _).alloc (Nat.le_refl _) _).trans (below_setCells_ (Nat.le_refl _) 0 vs)
  have HY3 := Lib.hid (HX.out.setCells0 vs hlen.symm)
  rw [hw3] at HY3 hb3
  have HX3 := Lib.hid (HX2.out.below hb3 (by omega))
  have HB3 := Lib.hid (HB2.out.below (hb3.mono (by omega)))
  have HBW3 := Lib.hid (HBW2.out.trans (hb3.mono (by omega)))
  have HC3 := Lib.hid (hC.keeps (Keeps.of_below (ts := []) hb3 (Nat.le_refl _)) (by simp))
  have hs3 := hb3.size
  have HW3 := Lib.hid hw3
  clear hC hlen hb3 hw3 hK2 HX1 HB1 HBW HX2 HB2 HBW2
  go_wp2_with (with_reducible refine wpList_store_mid rfl 33 _ _ rfl w2.heap.size 0 vs.toArray rfl rfl HTE.out hsV.out h1V.out ?_)
  rw [HW3.out]
  refine (back_any A n c w.heap.size w.heap.size l w3 HB3.out (Nat.le_refl _) HX3.out (by omega)).mono ?_
  rintro e w4 ⟨rfl, hg4⟩
  have HK4 := Lib.hid (Keeps.of_grown (ts := [5]) hg4 HX3.out.typ (by simp))
  have HBW4 := Lib.hid (HBW3.out.grown hg4 (by have := HX3.out.lt; omega) (by intro k hk; injection hk with hk; omega))
  have HY4 := Lib.hid (HY3.out.keeps HK4.out (by decide))
  have HC4 := Lib.hid (HC3.out.keeps HK4.out (by decide))
  have HB4 := Lib.hid (HB3.out.grown hg4 (by have := HX3.out.lt; omega) (by intro k hk; injection hk with hk; omega))
  have hs4 := hg4.size
  clear hg4 HX HTE HW3 HY3 HX3 HB3 HBW3 HC3 HK4
  go_wp2_with fail
  refine (rget_Record A n c l w4 (HB4.out.more (by omega)) ⟨hn, by omega, hc⟩).mono ?_
  rintro e w5 ⟨⟨us, E, rfl, hul, hu1, hE⟩, hK5⟩
  obtain rfl : E = 0 := by
    rcases hE with ⟨h, _⟩ | ⟨_, h⟩
    · exact h
    · exact absurd HS.out (h ds)
  have HY5 := Lib.hid (HY4.out.below hK5 HY4.out.lt)
  have HC5 := Lib.hid (HC4.out.keeps (Keeps.of_below (ts := []) hK5 (Nat.le_refl _)) (by simp))
  have HB5 := Lib.hid (HB4.out.below (hK5.mono (by omega)))
  have HBW5 := Lib.hid (HBW4.out.trans (hK5.mono (by omega)))
  have hs5 := hK5.size
  have HU := Lib.hid (Blk.new w5 33 [.int .i64 0, .int .i64 0, .int .i64 0, .int .i64 0, .int .i64 0, .int .i64 0, .slice none 0 0, .slice none 0 0, .string ⟨#[]⟩, .int .i64 0, .int .i64 0, .int .i64 0, .slice none 0 0, .slice none 0 0, .string ⟨#[]⟩])
  have hul' : us.length = 15 := hul
  have HTU : Hid (World.there (w5.alloc (.cells #[.int .i64 0, .int .i64 0, .int .i64 0, .int .i64 0, .int .i64 0, .int .i64 0, .slice none 0 0, .slice none 0 0, .string ⟨#[]⟩, .int .i64 0, .int .i64 0, .int .i64 0, .slice none 0 0, .slice none 0 0, .string ⟨#[]⟩] 33)) w5.heap.size 0 us.toArray.size) := Lib.hid (HU.out.there 0 _ (by simp [hul']))
  have hsU : Hid ((Try.prog.info? 33).map (·.size) = some us.toArray.size) := Lib.hid (by rw [List.size_toArray, hul']; kernel_rfl)
  have h1U : Hid (us.toArray.all (·.oneCell') = true) := Lib.hid (all_oneCell_toArray hu1)
  obtain ⟨w6, hw6⟩ : ∃ w6, ((w5.alloc (.cells #[.int .i64 0, .int .i64 0, .int .i64 0, .int .i64 0, .int .i64 0, .int .i64 0, .slice none 0 0, .slice none 0 0, .string ⟨#[]⟩, .int .i64 0, .int .i64 0, .int .i64 0, .slice none 0 0, .slice none 0 0, .string ⟨#[]⟩] 33)).setCells w5.heap.size 0 us) = w6 := ⟨_, rfl⟩
  have hb6 : Below w5.heap.size w5 ((w5.alloc (.cells #[.int .i64 0, .int .i64 0, .int .i64 0, .int .i64 0, .int .i64 0, .int .i64 0, .slice none 0 0, .slice none 0 0, .string ⟨#[]⟩, .int .i64 0, .int .i64 0, .int .i64 0, .slice none 0 0, .slice none 0 0, .string ⟨#[]⟩] 33)).setCells w5.heap.size 0 us) := ((Below.refl _ _).alloc (Nat.le_refl _) _).trans (below_setCells_ (Nat.le_refl _) 0 us)
  rw [hw6] at hb6
  have HY6 := Lib.hid (HY5.out.below hb6 HY5.out.lt)
  have HC6 := Lib.hid (HC5.out.keeps (Keeps.of_below (ts := []) hb6 (Nat.le_refl _)) (by simp))
  have HB6 := Lib.hid (HB5.out.below (hb6.mono (by omega)))
  have HBW6 := Lib.hid (HBW5.out.trans (hb6.mono (by omega)))
  have hs6 := hb6.size
  have HW6 := Lib.hid hw6
  have HR6 := Lib.hid HY6.out.range0
  clear hK5 hE hu1 hul hul' hb6 hw6 HY4 HC4 HB4 HBW4 HY5 HC5 HB5 HBW5
  have PR := Lib.hid (rput_Record ds vs w6 HC6.out.inT_lt (by rw [HLY.out]; have := HLN.out; dsimp only; omega))
  rw [HLY.out] at PR
  have HR6e : Hid (World.rangeAt ((w5.alloc (.cells #[.int .i64 0, .int .i64 0, .int .i64 0, .int .i64 0, .int .i64 0, .int .i64 0, .slice none 0 0, .slice none 0 0, .string ⟨#[]⟩, .int .i64 0, .int .i64 0, .int .i64 0, .slice none 0 0, .slice none 0 0, .string ⟨#[]⟩] 33)).setCells w5.heap.size 0 us) w2.heap.size 0 vs) := Lib.hid (by rw [HW6.out]; exact HR6.out)
  go_wp2_with (first | (with_reducible refine wpList_store_mid rfl 33 _ _ rfl w5.heap.size 0 us.toArray rfl rfl HTU.out hsU.out h1U.out ?_) | (with_reducible refine wpList_load_mid rfl 33 _ rfl w2.heap.size 0 rfl vs _ HR6e.out Try.underlying33 rfl hiV.out ?_))
  rw [HW6.out]
  refine (unhide PR).mono ?_
  rintro e w7 ⟨⟨A7, n7, c7, rfl, hn7, _, hR7⟩, hK7⟩
  have ho : out (l, 0) = l := rfl
  rw [ho] at hR7
  have HR7 := Lib.hid hR7
  have HB7 := Lib.hid (HB6.out.below (hK7.mono (by omega)))
  have HBW7 := Lib.hid (HBW6.out.trans (hK7.mono (by omega)))
  have hs7 := hK7.size
  clear hn7 hR7 hK7 PR HU HTU HW6 HY6 HC6 HB6 HBW6 HR6 HR6e ho
  go_wp2_with fail
  refine (awake_any w7).mono ?_
  rintro e w8 ⟨rfl, hK8⟩
  have HBW8 := Lib.hid (HBW7.out.trans (hK8.mono (by omega)))
  have k1 := conv_bytes A7 n7 c7 l w8 (HR7.out.below hK8)
  have k2 := conv_bytes A n c l w8 (HB7.out.below (hK8.mono (by omega)))
  clear HR7 HB7 hK8
  go_wp2
  go_ret
  exact ⟨by simp, HBW8.out⟩
set_option maxHeartbeats 3200000 in
theorem wireRecordBytes_no (A : Option Addr) (n c : Nat) (l : List UInt8) (w : World) (hb : Reads w w.heap.size A n (u8s l)) (hn : n ≤ c) (hc : c ≤ 9223372036854775807) (hsm : n ≤ 262144) (hno : ∀ ds, rds shRecord l ≠ some (ds, [])) :
    Calls Try.prog 8 #[.slice A n c] w fun e w' => e = .returned (.bool true) ∧ Below w.heap.size w w' := by
  have hlen : l.length = n := reads_length hb
  have HLN := Lib.hid hlen
  have HS := Lib.hid hno
  have HB0 := Lib.hid hb
  have C := Lib.hid (lend_any A n c l w hb (by omega))
  have hiV : Hid ((Try.prog.info? 33).map (·.size) = some (List.length ([.int .i64 0, .int .i64 0, .int .i64 0, .int .i64 0, .int .i64 0, .int .i64 0, .slice none 0 0, .slice none 0 0, .string ⟨#[]⟩, .int .i64 0, .int .i64 0, .int .i64 0, .slice none 0 0, .slice none 0 0, .string ⟨#[]⟩] : List Value))) := Lib.hid (by kernel_rfl)
  have hsV : Hid ((Try.prog.info? 33).map (·.size) = some (List.toArray ([.int .i64 0, .int .i64 0, .int .i64 0, .int .i64 0, .int .i64 0, .int .i64 0, .slice none 0 0, .slice none 0 0, .string ⟨#[]⟩, .int .i64 0, .int .i64 0, .int .i64 0, .slice none 0 0, .slice none 0 0, .string ⟨#[]⟩] : List Value)).size) := Lib.hid (by kernel_rfl)
  have h1V : Hid ((List.toArray ([.int .i64 0, .int .i64 0, .int .i64 0, .int .i64 0, .int .i64 0, .int .i64 0, .slice none 0 0, .slice none 0 0, .string ⟨#[]⟩, .int .i64 0, .int .i64 0, .int .i64 0, .slice none 0 0, .slice none 0 0, .string ⟨#[]⟩] : List Value)).all (·.oneCell') = true) := Lib.hid (all_oneCell_toArray (by simp [Value.oneCell']))
  clear hb hno hlen
  go_enter Try.func8, Try.ntmps8
  go_wp2_with fail
  refine (unhide C).mono ?_
  rintro e w1 ⟨rfl, hX, hw1⟩
  have hg1 := hX.lt
  have HX1 := Lib.hid hX
  have HBW := Lib.hid hw1
  have HB1 := Lib.hid (HB0.out.below hw1)
  clear hX hw1 C HB0
  go_wp2_with fail
  refine (wget_Record _ _ _ l w1 (lent_reads HX1.out HLN.out) (by omega) ⟨by omega, by omega⟩).mono ?_
  rintro e w2 ⟨hG, hK2⟩
  rcases hG with ⟨ds', vs, hds', _⟩ | ⟨_, rfl⟩
  · exact absurd hds' (HS.out ds')
  have HX2 := Lib.hid (HX1.out.below hK2 hg1)
  have HB2 := Lib.hid (HB1.out.below (hK2.mono (by omega)))
  have HBW2 := Lib.hid (HBW.out.trans (hK2.mono (by omega)))
  have hs2 := hK2.size
  have HX := Lib.hid (Blk.new w2 33 [.int .i64 0, .int .i64 0, .int .i64 0, .int .i64 0, .int .i64 0, .int .i64 0, .slice none 0 0, .slice none 0 0, .string ⟨#[]⟩, .int .i64 0, .int .i64 0, .int .i64 0, .slice none 0 0, .slice none 0 0, .string ⟨#[]⟩])
  have HTE : Hid (World.there (w2.alloc (.cells #[.int .i64 0, .int .i64 0, .int .i64 0, .int .i64 0, .int .i64 0, .int .i64 0, .slice none 0 0, .slice none 0 0, .string ⟨#[]⟩, .int .i64 0, .int .i64 0, .int .i64 0, .slice none 0 0, .slice none 0 0, .string ⟨#[]⟩] 33)) w2.heap.size 0 (List.toArray ([.int .i64 0, .int .i64 0, .int .i64 0, .int .i64 0, .int .i64 0, .int .i64 0, .slice none 0 0, .slice none 0 0, .string ⟨#[]⟩, .int .i64 0, .int .i64 0, .int .i64 0, .slice none 0 0, .slice none 0 0, .string ⟨#[]⟩] : List Value)).size) := Lib.hid (HX.out.there 0 _ (by simp))
  obtain ⟨w3, hw3⟩ : ∃ w3, ((w2.alloc (.cells #[.int .i64 0, .int .i64 0, .int .i64 0, .int .i64 0, .int .i64 0, .int .i64 0, .slice none 0 0, .slice none 0 0, .string ⟨#[]⟩, .int .i64 0, .int .i64 0, .int .i64 0, .slice none 0 0, .slice none 0 0, .string ⟨#[]⟩] 33)).setCells w2.heap.size 0 [.int .i64 0, .int .i64 0, .int .i64 0, .int .i64 0, .int .i64 0, .int .i64 0, .slice none 0 0, .slice none 0 0, .string ⟨#[]⟩, .int .i64 0, .int .i64 0, .int .i64 0, .slice none 0 0, .slice none 0 0, .string ⟨#[]⟩]) = w3 := ⟨_, rfl⟩
  have hb3 : Below w2.heap.size w2 ((w2.alloc (.cells #[.int .i64 0, .int .i64 0, .int .i64 0, .int .i64 0, .int .i64 0, .int .i64 0, .slice none 0 0, .slice none 0 0, .string ⟨#[]⟩, .int .i64 0, .int .i64 0, .int .i64 0, .slice none 0 0, .slice none 0 0, .string ⟨#[]⟩] 33)).setCells w2.heap.size 0 [.int .i64 0, .int .i64 0, .int .i64 0, .int .i64 0, .int .i64 0, .int .i64 0, .slice none 0 0, .slice none 0 0, .string ⟨#[]⟩, .int .i64 0, .int .i64 0, .int .i64 0, .slice none 0 0, .slice none 0 0, .string ⟨#[]⟩]) := ((Below.refl _ _).alloc (Nat.le_refl _) _).trans (below_setCells_ (Nat.le_refl _) 0 [.int .i64 0, .int .i64 0, .int .i64 0, .int .i64 0, .int .i64 0, .int .i64 0, .slice none 0 0, .slice none 0 0, .string ⟨#[]⟩, .int .i64 0, .int .i64 0, .int .i64 0, .slice none 0 0, .slice none 0 0, .string ⟨#[]⟩])
  have HY3 := Lib.hid (HX.out.setCells0 [.int .i64 0, .int .i64 0, .int .i64 0, .int .i64 0, .int .i64 0, .int .i64 0, .slice none 0 0, .slice none 0 0, .string ⟨#[]⟩, .int .i64 0, .int .i64 0, .int .i64 0, .slice none 0 0, .slice none 0 0, .string ⟨#[]⟩] rfl)
  rw [hw3] at HY3 hb3
  have HX3 := Lib.hid (HX2.out.below hb3 (by omega))
  have HB3 := Lib.hid (HB2.out.below (hb3.mono (by omega)))
  have HBW3 := Lib.hid (HBW2.out.trans (hb3.mono (by omega)))
  have hs3 := hb3.size
  have HW3 := Lib.hid hw3
  clear hb3 hw3 hK2 HX1 HB1 HBW HX2 HB2 HBW2
  go_wp2_with (with_reducible refine wpList_store_mid rfl 33 _ _ rfl w2.heap.size 0 (List.toArray ([.int .i64 0, .int .i64 0, .int .i64 0, .int .i64 0, .int .i64 0, .int .i64 0, .slice none 0 0, .slice none 0 0, .string ⟨#[]⟩, .int .i64 0, .int .i64 0, .int .i64 0, .slice none 0 0, .slice none 0 0, .string ⟨#[]⟩] : List Value)) rfl rfl HTE.out hsV.out h1V.out ?_)
  rw [HW3.out]
  refine (back_any A n c w.heap.size w.heap.size l w3 HB3.out (Nat.le_refl _) HX3.out (by omega)).mono ?_
  rintro e w4 ⟨rfl, hg4⟩
  have HK4 := Lib.hid (Keeps.of_grown (ts := [5]) hg4 HX3.out.typ (by simp))
  have HBW4 := Lib.hid (HBW3.out.grown hg4 (by have := HX3.out.lt; omega) (by intro k hk; injection hk with hk; omega))
  have HY4 := Lib.hid (HY3.out.keeps HK4.out (by decide))
  have HB4 := Lib.hid (HB3.out.grown hg4 (by have := HX3.out.lt; omega) (by intro k hk; injection hk with hk; omega))
  have hs4 := hg4.size
  clear hg4 HX HTE HW3 HY3 HX3 HB3 HBW3 HK4
  go_wp2_with fail
  refine (rget_Record A n c l w4 (HB4.out.more (by omega)) ⟨hn, by omega, hc⟩).mono ?_
  rintro e w5 ⟨⟨us, E, rfl, hul, hu1, hE⟩, hK5⟩
  obtain rfl : E = 11 := by
    rcases hE with ⟨_, d, h⟩ | ⟨h, _⟩
    · exact absurd h (HS.out d)
    · exact h
  have HY5 := Lib.hid (HY4.out.below hK5 HY4.out.lt)
  have HBW5 := Lib.hid (HBW4.out.trans (hK5.mono (by omega)))
  have hs5 := hK5.size
  have HU := Lib.hid (Blk.new w5 33 [.int .i64 0, .int .i64 0, .int .i64 0, .int .i64 0, .int .i64 0, .int .i64 0, .slice none 0 0, .slice none 0 0, .string ⟨#[]⟩, .int .i64 0, .int .i64 0, .int .i64 0, .slice none 0 0, .slice none 0 0, .string ⟨#[]⟩])
  have hul' : us.length = 15 := hul
  have HTU : Hid (World.there (w5.alloc (.cells #[.int .i64 0, .int .i64 0, .int .i64 0, .int .i64 0, .int .i64 0, .int .i64 0, .slice none 0 0, .slice none 0 0, .string ⟨#[]⟩, .int .i64 0, .int .i64 0, .int .i64 0, .slice none 0 0, .slice none 0 0, .string ⟨#[]⟩] 33)) w5.heap.size 0 us.toArray.size) := Lib.hid (HU.out.there 0 _ (by simp [hul']))
  have hsU : Hid ((Try.prog.info? 33).map (·.size) = some us.toArray.size) := Lib.hid (by rw [List.size_toArray, hul']; kernel_rfl)
  have h1U : Hid (us.toArray.all (·.oneCell') = true) := Lib.hid (all_oneCell_toArray hu1)
  obtain ⟨w6, hw6⟩ : ∃ w6, ((w5.alloc (.cells #[.int .i64 0, .int .i64 0, .int .i64 0, .int .i64 0, .int .i64 0, .int .i64 0, .slice none 0 0, .slice none 0 0, .string ⟨#[]⟩, .int .i64 0, .int .i64 0, .int .i64 0, .slice none 0 0, .slice none 0 0, .string ⟨#[]⟩] 33)).setCells w5.heap.size 0 us) = w6 := ⟨_, rfl⟩
  have hb6 : Below w5.heap.size w5 ((w5.alloc (.cells #[.int .i64 0, .int .i64 0, .int .i64 0, .int .i64 0, .int .i64 0, .int .i64 0, .slice none 0 0, .slice none 0 0, .string ⟨#[]⟩, .int .i64 0, .int .i64 0, .int .i64 0, .slice none 0 0, .slice none 0 0, .string ⟨#[]⟩] 33)).setCells w5.heap.size 0 us) := ((Below.refl _ _).alloc (Nat.le_refl _) _).trans (below_setCells_ (Nat.le_refl _) 0 us)
  rw [hw6] at hb6
  have HY6 := Lib.hid (HY5.out.below hb6 HY5.out.lt)
  have HBW6 := Lib.hid (HBW5.out.trans (hb6.mono (by omega)))
  have hs6 := hb6.size
  have HW6 := Lib.hid hw6
  have HR6 := Lib.hid HY6.out.range0
  clear hK5 hE hu1 hul hul' hb6 hw6 HY4 HB4 HBW4 HY5 HBW5
  have PR := fun w' => rput_Record zeroRecord _ w' (cels_zeroRecord w' _) (record_le _)
  obtain ⟨S, hS⟩ : ∃ S, lays shRecord zeroRecord ([], 0) = S := ⟨_, rfl⟩
  rw [hS] at PR
  replace PR := Lib.hid PR
  clear hS
  have HR6e : Hid (World.rangeAt ((w5.alloc (.cells #[.int .i64 0, .int .i64 0, .int .i64 0, .int .i64 0, .int .i64 0, .int .i64 0, .slice none 0 0, .slice none 0 0, .string ⟨#[]⟩, .int .i64 0, .int .i64 0, .int .i64 0, .slice none 0 0, .slice none 0 0, .string ⟨#[]⟩] 33)).setCells w5.heap.size 0 us) w2.heap.size 0 [.int .i64 0, .int .i64 0, .int .i64 0, .int .i64 0, .int .i64 0, .int .i64 0, .slice none 0 0, .slice none 0 0, .string ⟨#[]⟩, .int .i64 0, .int .i64 0, .int .i64 0, .slice none 0 0, .slice none 0 0, .string ⟨#[]⟩]) := Lib.hid (by rw [HW6.out]; exact HR6.out)
  go_wp2_with (first | (with_reducible refine wpList_store_mid rfl 33 _ _ rfl w5.heap.size 0 us.toArray rfl rfl HTU.out hsU.out h1U.out ?_) | (with_reducible refine wpList_load_mid rfl 33 _ rfl w2.heap.size 0 rfl [.int .i64 0, .int .i64 0, .int .i64 0, .int .i64 0, .int .i64 0, .int .i64 0, .slice none 0 0, .slice none 0 0, .string ⟨#[]⟩, .int .i64 0, .int .i64 0, .int .i64 0, .slice none 0 0, .slice none 0 0, .string ⟨#[]⟩] _ HR6e.out Try.underlying33 rfl hiV.out ?_))
  rw [HW6.out]
  refine (unhide PR _).mono ?_
  rintro e w7 ⟨⟨A7, n7, c7, rfl, hn7, _, hR7⟩, hK7⟩
  have HR7 := Lib.hid hR7
  have HBW7 := Lib.hid (HBW6.out.trans (hK7.mono (by omega)))
  have hs7 := hK7.size
  clear hn7 hR7 hK7 HU HTU HW6 HY6 HBW6 HR6 HR6e
  go_wp2_with fail
  refine (unhide PR _).mono ?_
  rintro e w8 ⟨⟨A8, n8, c8, rfl, hn8, _, hR8⟩, hK8⟩
  have HR8 := Lib.hid hR8
  have HR78 := Lib.hid (HR7.out.below hK8)
  have HBW8 := Lib.hid (HBW7.out.trans (hK8.mono (by omega)))
  have hs8 := hK8.size
  clear hn8 hR8 hK8 PR HR7 HBW7
  go_wp2_with fail
  refine (awake_any w8).mono ?_
  rintro e w9 ⟨rfl, hK9⟩
  have HBW9 := Lib.hid (HBW8.out.trans (hK9.mono (by omega)))
  have k1 := conv_bytes A7 n7 c7 _ w9 (HR78.out.below (hK9.mono hs8))
  have k2 := conv_bytes A8 n8 c8 _ w9 (HR8.out.below hK9)
  clear HR78 HR8 hK9
  go_wp2
  go_ret
  exact ⟨by simp, HBW9.out⟩
theorem wireRecordBytes_any (A : Option Addr) (n c : Nat) (l : List UInt8) (w : World) (hb : Reads w w.heap.size A n (u8s l)) (hn : n ≤ c) (hc : c ≤ 9223372036854775807) :
    Calls Try.prog 8 #[.slice A n c] w fun e w' => e = .returned (.bool true) ∧ Below w.heap.size w w' := by
  by_cases hbig : 262144 < n
  · clear hb
    go_enter Try.func8, Try.ntmps8
    go_wp2
    go_ret
    exact ⟨rfl, Below.refl _ _⟩
  · by_cases h : ∃ ds, rds shRecord l = some (ds, [])
    · obtain ⟨ds, hds⟩ := h
      exact wireRecordBytes_ok A n c l ds w hb hn hc (by omega) hds
    · exact wireRecordBytes_no A n c l w hb hn hc (by omega) (fun ds hds => h ⟨ds, hds⟩)

def zeroCommand : List Da := [.int 0, .text [], .text [], .text [], .text [], .text [], .rows [], .text [], .int 0, .rows [], .int 0, .int 0, .text [], .text [], .text [], .int 0, .flag false]
theorem cels_zeroCommand (w : World) (S : Nat → Prop) : Cels w S shCommand zeroCommand [.int .i64 0, .string ⟨#[]⟩, .string ⟨#[]⟩, .string ⟨#[]⟩, .string ⟨#[]⟩, .string ⟨#[]⟩, .slice none 0 0, .string ⟨#[]⟩, .int .i64 0, .slice none 0 0, .int .i64 0, .int .i64 0, .string ⟨#[]⟩, .string ⟨#[]⟩, .string ⟨#[]⟩, .int .i64 0, .bool false] := by
  have e := cel_empty w S
  have n := fun x => Cel.mk_num (w := w) (S := S) x
  have z := cel_zero w S
  exact (Cels.mk (n 0) (Cels.mk e (Cels.mk e (Cels.mk e (Cels.mk e (Cels.mk e (Cels.mk (cel_nil w S _) (Cels.mk e (Cels.mk (n 0) (Cels.mk (cel_nil w S _) (Cels.mk z (Cels.mk z (Cels.mk e (Cels.mk e (Cels.mk e (Cels.mk (n 0) (Cels.mk (Cel.mk_flag false) Cels.mk0)))))))))))))))))
set_option maxHeartbeats 3200000 in
theorem wireCommandBytes_ok (A : Option Addr) (n c : Nat) (l : List UInt8) (ds : List Da) (w : World) (hb : Reads w w.heap.size A n (u8s l)) (hn : n ≤ c) (hc : c ≤ 9223372036854775807) (hsm : n ≤ 262144) (hds : rds shCommand l = some (ds, [])) :
    Calls Try.prog 7 #[.slice A n c] w fun e w' => e = .returned (.bool true) ∧ Below w.heap.size w w' := by
  have hlen : l.length = n := reads_length hb
  have HLN := Lib.hid hlen
  have HS := Lib.hid hds
  have HLY := Lib.hid (rds_back hds)
  have HB0 := Lib.hid hb
  have C := Lib.hid (lend_any A n c l w hb (by omega))
  clear hb hds hlen
  go_enter Try.func7, Try.ntmps7
  go_wp2_with fail
  refine (unhide C).mono ?_
  rintro e w1 ⟨rfl, hX, hw1⟩
  have hg1 := hX.lt
  have HX1 := Lib.hid hX
  have HBW := Lib.hid hw1
  have HB1 := Lib.hid (HB0.out.below hw1)
  clear hX hw1 C HB0
  go_wp2_with fail
  refine (wget_Command _ _ _ l w1 (lent_reads HX1.out HLN.out) (by omega) ⟨by omega, by omega⟩).mono ?_
  rintro e w2 ⟨hG, hK2⟩
  rcases hG with ⟨ds', vs, hds', rfl, hC⟩ | ⟨hno, rfl⟩
  rotate_left
  · exact absurd HS.out (hno ds)
  rw [HS.out] at hds'
  injection hds' with hds'
  injection hds' with hds' _
  subst hds'
  have HX2 := Lib.hid (HX1.out.below hK2 hg1)
  have HB2 := Lib.hid (HB1.out.below (hK2.mono (by omega)))
  have HBW2 := Lib.hid (HBW.out.trans (hK2.mono (by omega)))
  have hs2 := hK2.size
  -- y is laid in a variable
  have hlen : vs.length = 17 := hC.len.2
  have HX := Lib.hid (Blk.new w2 49 [.int .i64 0, .string ⟨#[]⟩, .string ⟨#[]⟩, .string ⟨#[]⟩, .string ⟨#[]⟩, .string ⟨#[]⟩, .slice none 0 0, .string ⟨#[]⟩, .int .i64 0, .slice none 0 0, .int .i64 0, .int .i64 0, .string ⟨#[]⟩, .string ⟨#[]⟩, .string ⟨#[]⟩, .int .i64 0, .bool false])
  have HTE : Hid (World.there (w2.alloc (.cells #[.int .i64 0, .string ⟨#[]⟩, .string ⟨#[]⟩, .string ⟨#[]⟩, .string ⟨#[]⟩, .string ⟨#[]⟩, .slice none 0 0, .string ⟨#[]⟩, .int .i64 0, .slice none 0 0, .int .i64 0, .int .i64 0, .string ⟨#[]⟩, .string ⟨#[]⟩, .string ⟨#[]⟩, .int .i64 0, .bool false] 49)) w2.heap.size 0 vs.toArray.size) := Lib.hid (HX.out.there 0 _ (by simp [hlen]))
  have hsV : Hid ((Try.prog.info? 49).map (·.size) = some vs.toArray.size) := Lib.hid (by rw [List.size_toArray, hlen]; kernel_rfl)
  have hiV : Hid ((Try.prog.info? 49).map (·.size) = some vs.length) := Lib.hid (by rw [hlen]; kernel_rfl)
  have h1V : Hid (vs.toArray.all (·.oneCell') = true) := Lib.hid (all_oneCell_toArray hC.oneCell)
  obtain ⟨w3, hw3⟩ : ∃ w3, ((w2.alloc (.cells #[.int .i64 0, .string ⟨#[]⟩, .string ⟨#[]⟩, .string ⟨#[]⟩, .string ⟨#[]⟩, .string ⟨#[]⟩, .slice none 0 0, .string ⟨#[]⟩, .int .i64 0, .slice none 0 0, .int .i64 0, .int .i64 0, .string ⟨#[]⟩, .string ⟨#[]⟩, .string ⟨#[]⟩, .int .i64 0, .bool false] 49)).setCells w2.heap.size 0 vs) = w3 := ⟨_, rfl⟩
  have hb3 : Below w2.heap.size w2 ((w2.alloc (.cells #[.int .i64 0, .string ⟨#[]⟩, .string ⟨#[]⟩, .string ⟨#[]⟩, .string ⟨#[]⟩, .string ⟨#[]⟩, .slice none 0 0, .string ⟨#[]⟩, .int .i64 0, .slice none 0 0, .int .i64 0, .int .i64 0, .string ⟨#[]⟩, .string ⟨#[]⟩, .string ⟨#[]⟩, .int .i64 0, .bool false] 49)).setCells w2.heap.size 0 vs) := ((Below.refl _ _).alloc (Nat.le_refl _) _).trans (below_setCells_ (Nat.le_refl _) 0 vs)
  have HY3 := Lib.hid (HX.out.setCells0 vs hlen.symm)
  rw [hw3] at HY3 hb3
  have HX3 := Lib.hid (HX2.out.below hb3 (by omega))
  have HB3 := Lib.hid (HB2.out.below (hb3.mono (by omega)))
  have HBW3 := Lib.hid (HBW2.out.trans (hb3.mono (by omega)))
  have HC3 := Lib.hid (hC.keeps (Keeps.of_below (ts := []) hb3 (Nat.le_refl _)) (by simp))
  have hs3 := hb3.size
  have HW3 := Lib.hid hw3
  clear hC hlen hb3 hw3 hK2 HX1 HB1 HBW HX2 HB2 HBW2
  go_wp2_with (with_reducible refine wpList_store_mid rfl 49 _ _ rfl w2.heap.size 0 vs.toArray rfl rfl HTE.out hsV.out h1V.out ?_)
  rw [HW3.out]
  refine (back_any A n c w.heap.size w.heap.size l w3 HB3.out (Nat.le_refl _) HX3.out (by omega)).mono ?_
  rintro e w4 ⟨rfl, hg4⟩
  have HK4 := Lib.hid (Keeps.of_grown (ts := [5]) hg4 HX3.out.typ (by simp))
  have HBW4 := Lib.hid (HBW3.out.grown hg4 (by have := HX3.out.lt; omega) (by intro k hk; injection hk with hk; omega))
  have HY4 := Lib.hid (HY3.out.keeps HK4.out (by decide))
  have HC4 := Lib.hid (HC3.out.keeps HK4.out (by decide))
  have HB4 := Lib.hid (HB3.out.grown hg4 (by have := HX3.out.lt; omega) (by intro k hk; injection hk with hk; omega))
  have hs4 := hg4.size
  clear hg4 HX HTE HW3 HY3 HX3 HB3 HBW3 HC3 HK4
  go_wp2_with fail
  refine (rget_Command A n c l w4 (HB4.out.more (by omega)) ⟨hn, by omega, hc⟩).mono ?_
  rintro e w5 ⟨⟨us, E, rfl, hul, hu1, hE⟩, hK5⟩
  obtain rfl : E = 0 := by
    rcases hE with ⟨h, _⟩ | ⟨_, h⟩
    · exact h
    · exact absurd HS.out (h ds)
  have HY5 := Lib.hid (HY4.out.below hK5 HY4.out.lt)
  have HC5 := Lib.hid (HC4.out.keeps (Keeps.of_below (ts := []) hK5 (Nat.le_refl _)) (by simp))
  have HB5 := Lib.hid (HB4.out.below (hK5.mono (by omega)))
  have HBW5 := Lib.hid (HBW4.out.trans (hK5.mono (by omega)))
  have hs5 := hK5.size
  have HU := Lib.hid (Blk.new w5 49 [.int .i64 0, .string ⟨#[]⟩, .string ⟨#[]⟩, .string ⟨#[]⟩, .string ⟨#[]⟩, .string ⟨#[]⟩, .slice none 0 0, .string ⟨#[]⟩, .int .i64 0, .slice none 0 0, .int .i64 0, .int .i64 0, .string ⟨#[]⟩, .string ⟨#[]⟩, .string ⟨#[]⟩, .int .i64 0, .bool false])
  have hul' : us.length = 17 := hul
  have HTU : Hid (World.there (w5.alloc (.cells #[.int .i64 0, .string ⟨#[]⟩, .string ⟨#[]⟩, .string ⟨#[]⟩, .string ⟨#[]⟩, .string ⟨#[]⟩, .slice none 0 0, .string ⟨#[]⟩, .int .i64 0, .slice none 0 0, .int .i64 0, .int .i64 0, .string ⟨#[]⟩, .string ⟨#[]⟩, .string ⟨#[]⟩, .int .i64 0, .bool false] 49)) w5.heap.size 0 us.toArray.size) := Lib.hid (HU.out.there 0 _ (by simp [hul']))
  have hsU : Hid ((Try.prog.info? 49).map (·.size) = some us.toArray.size) := Lib.hid (by rw [List.size_toArray, hul']; kernel_rfl)
  have h1U : Hid (us.toArray.all (·.oneCell') = true) := Lib.hid (all_oneCell_toArray hu1)
  obtain ⟨w6, hw6⟩ : ∃ w6, ((w5.alloc (.cells #[.int .i64 0, .string ⟨#[]⟩, .string ⟨#[]⟩, .string ⟨#[]⟩, .string ⟨#[]⟩, .string ⟨#[]⟩, .slice none 0 0, .string ⟨#[]⟩, .int .i64 0, .slice none 0 0, .int .i64 0, .int .i64 0, .string ⟨#[]⟩, .string ⟨#[]⟩, .string ⟨#[]⟩, .int .i64 0, .bool false] 49)).setCells w5.heap.size 0 us) = w6 := ⟨_, rfl⟩
  have hb6 : Below w5.heap.size w5 ((w5.alloc (.cells #[.int .i64 0, .string ⟨#[]⟩, .string ⟨#[]⟩, .string ⟨#[]⟩, .string ⟨#[]⟩, .string ⟨#[]⟩, .slice none 0 0, .string ⟨#[]⟩, .int .i64 0, .slice none 0 0, .int .i64 0, .int .i64 0, .string ⟨#[]⟩, .string ⟨#[]⟩, .string ⟨#[]⟩, .int .i64 0, .bool false] 49)).setCells w5.heap.size 0 us) := ((Below.refl _ _).alloc (Nat.le_refl _) _).trans (below_setCells_ (Nat.le_refl _) 0 us)
  rw [hw6] at hb6
  have HY6 := Lib.hid (HY5.out.below hb6 HY5.out.lt)
  have HC6 := Lib.hid (HC5.out.keeps (Keeps.of_below (ts := []) hb6 (Nat.le_refl _)) (by simp))
  have HB6 := Lib.hid (HB5.out.below (hb6.mono (by omega)))
  have HBW6 := Lib.hid (HBW5.out.trans (hb6.mono (by omega)))
  have hs6 := hb6.size
  have HW6 := Lib.hid hw6
  have HR6 := Lib.hid HY6.out.range0
  clear hK5 hE hu1 hul hul' hb6 hw6 HY4 HC4 HB4 HBW4 HY5 HC5 HB5 HBW5
  have PR := Lib.hid (rput_Command ds vs w6 HC6.out.inT_lt (by rw [HLY.out]; have := HLN.out; dsimp only; omega))
  rw [HLY.out] at PR
  have HR6e : Hid (World.rangeAt ((w5.alloc (.cells #[.int .i64 0, .string ⟨#[]⟩, .string ⟨#[]⟩, .string ⟨#[]⟩, .string ⟨#[]⟩, .string ⟨#[]⟩, .slice none 0 0, .string ⟨#[]⟩, .int .i64 0, .slice none 0 0, .int .i64 0, .int .i64 0, .string ⟨#[]⟩, .string ⟨#[]⟩, .string ⟨#[]⟩, .int .i64 0, .bool false] 49)).setCells w5.heap.size 0 us) w2.heap.size 0 vs) := Lib.hid (by rw [HW6.out]; exact HR6.out)
  go_wp2_with (first | (with_reducible refine wpList_store_mid rfl 49 _ _ rfl w5.heap.size 0 us.toArray rfl rfl HTU.out hsU.out h1U.out ?_) | (with_reducible refine wpList_load_mid rfl 49 _ rfl w2.heap.size 0 rfl vs _ HR6e.out Try.underlying49 rfl hiV.out ?_))
  rw [HW6.out]
  refine (unhide PR).mono ?_
  rintro e w7 ⟨⟨A7, n7, c7, rfl, hn7, _, hR7⟩, hK7⟩
  have ho : out (l, 0) = l := rfl
  rw [ho] at hR7
  have HR7 := Lib.hid hR7
  have HB7 := Lib.hid (HB6.out.below (hK7.mono (by omega)))
  have HBW7 := Lib.hid (HBW6.out.trans (hK7.mono (by omega)))
  have hs7 := hK7.size
  clear hn7 hR7 hK7 PR HU HTU HW6 HY6 HC6 HB6 HBW6 HR6 HR6e ho
  go_wp2_with fail
  refine (awake_any w7).mono ?_
  rintro e w8 ⟨rfl, hK8⟩
  have HBW8 := Lib.hid (HBW7.out.trans (hK8.mono (by omega)))
  have k1 := conv_bytes A7 n7 c7 l w8 (HR7.out.below hK8)
  have k2 := conv_bytes A n c l w8 (HB7.out.below (hK8.mono (by omega)))
  clear HR7 HB7 hK8
  go_wp2
  go_ret
  exact ⟨by simp, HBW8.out⟩
set_option maxHeartbeats 3200000 in
theorem wireCommandBytes_no (A : Option Addr) (n c : Nat) (l : List UInt8) (w : World) (hb : Reads w w.heap.size A n (u8s l)) (hn : n ≤ c) (hc : c ≤ 9223372036854775807) (hsm : n ≤ 262144) (hno : ∀ ds, rds shCommand l ≠ some (ds, [])) :
    Calls Try.prog 7 #[.slice A n c] w fun e w' => e = .returned (.bool true) ∧ Below w.heap.size w w' := by
  have hlen : l.length = n := reads_length hb
  have HLN := Lib.hid hlen
  have HS := Lib.hid hno
  have HB0 := Lib.hid hb
  have C := Lib.hid (lend_any A n c l w hb (by omega))
  have hiV : Hid ((Try.prog.info? 49).map (·.size) = some (List.length ([.int .i64 0, .string ⟨#[]⟩, .string ⟨#[]⟩, .string ⟨#[]⟩, .string ⟨#[]⟩, .string ⟨#[]⟩, .slice none 0 0, .string ⟨#[]⟩, .int .i64 0, .slice none 0 0, .int .i64 0, .int .i64 0, .string ⟨#[]⟩, .string ⟨#[]⟩, .string ⟨#[]⟩, .int .i64 0, .bool false] : List Value))) := Lib.hid (by kernel_rfl)
  have hsV : Hid ((Try.prog.info? 49).map (·.size) = some (List.toArray ([.int .i64 0, .string ⟨#[]⟩, .string ⟨#[]⟩, .string ⟨#[]⟩, .string ⟨#[]⟩, .string ⟨#[]⟩, .slice none 0 0, .string ⟨#[]⟩, .int .i64 0, .slice none 0 0, .int .i64 0, .int .i64 0, .string ⟨#[]⟩, .string ⟨#[]⟩, .string ⟨#[]⟩, .int .i64 0, .bool false] : List Value)).size) := Lib.hid (by kernel_rfl)
  have h1V : Hid ((List.toArray ([.int .i64 0, .string ⟨#[]⟩, .string ⟨#[]⟩, .string ⟨#[]⟩, .string ⟨#[]⟩, .string ⟨#[]⟩, .slice none 0 0, .string ⟨#[]⟩, .int .i64 0, .slice none 0 0, .int .i64 0, .int .i64 0, .string ⟨#[]⟩, .string ⟨#[]⟩, .string ⟨#[]⟩, .int .i64 0, .bool false] : List Value)).all (·.oneCell') = true) := Lib.hid (all_oneCell_toArray (by simp [Value.oneCell']))
  clear hb hno hlen
  go_enter Try.func7, Try.ntmps7
  go_wp2_with fail
  refine (unhide C).mono ?_
  rintro e w1 ⟨rfl, hX, hw1⟩
  have hg1 := hX.lt
  have HX1 := Lib.hid hX
  have HBW := Lib.hid hw1
  have HB1 := Lib.hid (HB0.out.below hw1)
  clear hX hw1 C HB0
  go_wp2_with fail
  refine (wget_Command _ _ _ l w1 (lent_reads HX1.out HLN.out) (by omega) ⟨by omega, by omega⟩).mono ?_
  rintro e w2 ⟨hG, hK2⟩
  rcases hG with ⟨ds', vs, hds', _⟩ | ⟨_, rfl⟩
  · exact absurd hds' (HS.out ds')
  have HX2 := Lib.hid (HX1.out.below hK2 hg1)
  have HB2 := Lib.hid (HB1.out.below (hK2.mono (by omega)))
  have HBW2 := Lib.hid (HBW.out.trans (hK2.mono (by omega)))
  have hs2 := hK2.size
  have HX := Lib.hid (Blk.new w2 49 [.int .i64 0, .string ⟨#[]⟩, .string ⟨#[]⟩, .string ⟨#[]⟩, .string ⟨#[]⟩, .string ⟨#[]⟩, .slice none 0 0, .string ⟨#[]⟩, .int .i64 0, .slice none 0 0, .int .i64 0, .int .i64 0, .string ⟨#[]⟩, .string ⟨#[]⟩, .string ⟨#[]⟩, .int .i64 0, .bool false])
  have HTE : Hid (World.there (w2.alloc (.cells #[.int .i64 0, .string ⟨#[]⟩, .string ⟨#[]⟩, .string ⟨#[]⟩, .string ⟨#[]⟩, .string ⟨#[]⟩, .slice none 0 0, .string ⟨#[]⟩, .int .i64 0, .slice none 0 0, .int .i64 0, .int .i64 0, .string ⟨#[]⟩, .string ⟨#[]⟩, .string ⟨#[]⟩, .int .i64 0, .bool false] 49)) w2.heap.size 0 (List.toArray ([.int .i64 0, .string ⟨#[]⟩, .string ⟨#[]⟩, .string ⟨#[]⟩, .string ⟨#[]⟩, .string ⟨#[]⟩, .slice none 0 0, .string ⟨#[]⟩, .int .i64 0, .slice none 0 0, .int .i64 0, .int .i64 0, .string ⟨#[]⟩, .string ⟨#[]⟩, .string ⟨#[]⟩, .int .i64 0, .bool false] : List Value)).size) := Lib.hid (HX.out.there 0 _ (by simp))
  obtain ⟨w3, hw3⟩ : ∃ w3, ((w2.alloc (.cells #[.int .i64 0, .string ⟨#[]⟩, .string ⟨#[]⟩, .string ⟨#[]⟩, .string ⟨#[]⟩, .string ⟨#[]⟩, .slice none 0 0, .string ⟨#[]⟩, .int .i64 0, .slice none 0 0, .int .i64 0, .int .i64 0, .string ⟨#[]⟩, .string ⟨#[]⟩, .string ⟨#[]⟩, .int .i64 0, .bool false] 49)).setCells w2.heap.size 0 [.int .i64 0, .string ⟨#[]⟩, .string ⟨#[]⟩, .string ⟨#[]⟩, .string ⟨#[]⟩, .string ⟨#[]⟩, .slice none 0 0, .string ⟨#[]⟩, .int .i64 0, .slice none 0 0, .int .i64 0, .int .i64 0, .string ⟨#[]⟩, .string ⟨#[]⟩, .string ⟨#[]⟩, .int .i64 0, .bool false]) = w3 := ⟨_, rfl⟩
  have hb3 : Below w2.heap.size w2 ((w2.alloc (.cells #[.int .i64 0, .string ⟨#[]⟩, .string ⟨#[]⟩, .string ⟨#[]⟩, .string ⟨#[]⟩, .string ⟨#[]⟩, .slice none 0 0, .string ⟨#[]⟩, .int .i64 0, .slice none 0 0, .int .i64 0, .int .i64 0, .string ⟨#[]⟩, .string ⟨#[]⟩, .string ⟨#[]⟩, .int .i64 0, .bool false] 49)).setCells w2.heap.size 0 [.int .i64 0, .string ⟨#[]⟩, .string ⟨#[]⟩, .string ⟨#[]⟩, .string ⟨#[]⟩, .string ⟨#[]⟩, .slice none 0 0, .string ⟨#[]⟩, .int .i64 0, .slice none 0 0, .int .i64 0, .int .i64 0, .string ⟨#[]⟩, .string ⟨#[]⟩, .string ⟨#[]⟩, .int .i64 0, .bool false]) := ((Below.refl _ _).alloc (Nat.le_refl _) _).trans (below_setCells_ (Nat.le_refl _) 0 [.int .i64 0, .string ⟨#[]⟩, .string ⟨#[]⟩, .string ⟨#[]⟩, .string ⟨#[]⟩, .string ⟨#[]⟩, .slice none 0 0, .string ⟨#[]⟩, .int .i64 0, .slice none 0 0, .int .i64 0, .int .i64 0, .string ⟨#[]⟩, .string ⟨#[]⟩, .string ⟨#[]⟩, .int .i64 0, .bool false])
  have HY3 := Lib.hid (HX.out.setCells0 [.int .i64 0, .string ⟨#[]⟩, .string ⟨#[]⟩, .string ⟨#[]⟩, .string ⟨#[]⟩, .string ⟨#[]⟩, .slice none 0 0, .string ⟨#[]⟩, .int .i64 0, .slice none 0 0, .int .i64 0, .int .i64 0, .string ⟨#[]⟩, .string ⟨#[]⟩, .string ⟨#[]⟩, .int .i64 0, .bool false] rfl)
  rw [hw3] at HY3 hb3
  have HX3 := Lib.hid (HX2.out.below hb3 (by omega))
  have HB3 := Lib.hid (HB2.out.below (hb3.mono (by omega)))
  have HBW3 := Lib.hid (HBW2.out.trans (hb3.mono (by omega)))
  have hs3 := hb3.size
  have HW3 := Lib.hid hw3
  clear hb3 hw3 hK2 HX1 HB1 HBW HX2 HB2 HBW2
  go_wp2_with (with_reducible refine wpList_store_mid rfl 49 _ _ rfl w2.heap.size 0 (List.toArray ([.int .i64 0, .string ⟨#[]⟩, .string ⟨#[]⟩, .string ⟨#[]⟩, .string ⟨#[]⟩, .string ⟨#[]⟩, .slice none 0 0, .string ⟨#[]⟩, .int .i64 0, .slice none 0 0, .int .i64 0, .int .i64 0, .string ⟨#[]⟩, .string ⟨#[]⟩, .string ⟨#[]⟩, .int .i64 0, .bool false] : List Value)) rfl rfl HTE.out hsV.out h1V.out ?_)
  rw [HW3.out]
  refine (back_any A n c w.heap.size w.heap.size l w3 HB3.out (Nat.le_refl _) HX3.out (by omega)).mono ?_
  rintro e w4 ⟨rfl, hg4⟩
  have HK4 := Lib.hid (Keeps.of_grown (ts := [5]) hg4 HX3.out.typ (by simp))
  have HBW4 := Lib.hid (HBW3.out.grown hg4 (by have := HX3.out.lt; omega) (by intro k hk; injection hk with hk; omega))
  have HY4 := Lib.hid (HY3.out.keeps HK4.out (by decide))
  have HB4 := Lib.hid (HB3.out.grown hg4 (by have := HX3.out.lt; omega) (by intro k hk; injection hk with hk; omega))
  have hs4 := hg4.size
  clear hg4 HX HTE HW3 HY3 HX3 HB3 HBW3 HK4
  go_wp2_with fail
  refine (rget_Command A n c l w4 (HB4.out.more (by omega)) ⟨hn, by omega, hc⟩).mono ?_
  rintro e w5 ⟨⟨us, E, rfl, hul, hu1, hE⟩, hK5⟩
  obtain rfl : E = 11 := by
    rcases hE with ⟨_, d, h⟩ | ⟨h, _⟩
    · exact absurd h (HS.out d)
    · exact h
  have HY5 := Lib.hid (HY4.out.below hK5 HY4.out.lt)
  have HBW5 := Lib.hid (HBW4.out.trans (hK5.mono (by omega)))
  have hs5 := hK5.size
  have HU := Lib.hid (Blk.new w5 49 [.int .i64 0, .string ⟨#[]⟩, .string ⟨#[]⟩, .string ⟨#[]⟩, .string ⟨#[]⟩, .string ⟨#[]⟩, .slice none 0 0, .string ⟨#[]⟩, .int .i64 0, .slice none 0 0, .int .i64 0, .int .i64 0, .string ⟨#[]⟩, .string ⟨#[]⟩, .string ⟨#[]⟩, .int .i64 0, .bool false])
  have hul' : us.length = 17 := hul
  have HTU : Hid (World.there (w5.alloc (.cells #[.int .i64 0, .string ⟨#[]⟩, .string ⟨#[]⟩, .string ⟨#[]⟩, .string ⟨#[]⟩, .string ⟨#[]⟩, .slice none 0 0, .string ⟨#[]⟩, .int .i64 0, .slice none 0 0, .int .i64 0, .int .i64 0, .string ⟨#[]⟩, .string ⟨#[]⟩, .string ⟨#[]⟩, .int .i64 0, .bool false] 49)) w5.heap.size 0 us.toArray.size) := Lib.hid (HU.out.there 0 _ (by simp [hul']))
  have hsU : Hid ((Try.prog.info? 49).map (·.size) = some us.toArray.size) := Lib.hid (by rw [List.size_toArray, hul']; kernel_rfl)
  have h1U : Hid (us.toArray.all (·.oneCell') = true) := Lib.hid (all_oneCell_toArray hu1)
  obtain ⟨w6, hw6⟩ : ∃ w6, ((w5.alloc (.cells #[.int .i64 0, .string ⟨#[]⟩, .string ⟨#[]⟩, .string ⟨#[]⟩, .string ⟨#[]⟩, .string ⟨#[]⟩, .slice none 0 0, .string ⟨#[]⟩, .int .i64 0, .slice none 0 0, .int .i64 0, .int .i64 0, .string ⟨#[]⟩, .string ⟨#[]⟩, .string ⟨#[]⟩, .int .i64 0, .bool false] 49)).setCells w5.heap.size 0 us) = w6 := ⟨_, rfl⟩
  have hb6 : Below w5.heap.size w5 ((w5.alloc (.cells #[.int .i64 0, .string ⟨#[]⟩, .string ⟨#[]⟩, .string ⟨#[]⟩, .string ⟨#[]⟩, .string ⟨#[]⟩, .slice none 0 0, .string ⟨#[]⟩, .int .i64 0, .slice none 0 0, .int .i64 0, .int .i64 0, .string ⟨#[]⟩, .string ⟨#[]⟩, .string ⟨#[]⟩, .int .i64 0, .bool false] 49)).setCells w5.heap.size 0 us) := ((Below.refl _ _).alloc (Nat.le_refl _) _).trans (below_setCells_ (Nat.le_refl _) 0 us)
  rw [hw6] at hb6
  have HY6 := Lib.hid (HY5.out.below hb6 HY5.out.lt)
  have HBW6 := Lib.hid (HBW5.out.trans (hb6.mono (by omega)))
  have hs6 := hb6.size
  have HW6 := Lib.hid hw6
  have HR6 := Lib.hid HY6.out.range0
  clear hK5 hE hu1 hul hul' hb6 hw6 HY4 HB4 HBW4 HY5 HBW5
  have PR := fun w' => rput_Command zeroCommand _ w' (cels_zeroCommand w' _) (command_le _)
  obtain ⟨S, hS⟩ : ∃ S, lays shCommand zeroCommand ([], 0) = S := ⟨_, rfl⟩
  rw [hS] at PR
  replace PR := Lib.hid PR
  clear hS
  have HR6e : Hid (World.rangeAt ((w5.alloc (.cells #[.int .i64 0, .string ⟨#[]⟩, .string ⟨#[]⟩, .string ⟨#[]⟩, .string ⟨#[]⟩, .string ⟨#[]⟩, .slice none 0 0, .string ⟨#[]⟩, .int .i64 0, .slice none 0 0, .int .i64 0, .int .i64 0, .string ⟨#[]⟩, .string ⟨#[]⟩, .string ⟨#[]⟩, .int .i64 0, .bool false] 49)).setCells w5.heap.size 0 us) w2.heap.size 0 [.int .i64 0, .string ⟨#[]⟩, .string ⟨#[]⟩, .string ⟨#[]⟩, .string ⟨#[]⟩, .string ⟨#[]⟩, .slice none 0 0, .string ⟨#[]⟩, .int .i64 0, .slice none 0 0, .int .i64 0, .int .i64 0, .string ⟨#[]⟩, .string ⟨#[]⟩, .string ⟨#[]⟩, .int .i64 0, .bool false]) := Lib.hid (by rw [HW6.out]; exact HR6.out)
  go_wp2_with (first | (with_reducible refine wpList_store_mid rfl 49 _ _ rfl w5.heap.size 0 us.toArray rfl rfl HTU.out hsU.out h1U.out ?_) | (with_reducible refine wpList_load_mid rfl 49 _ rfl w2.heap.size 0 rfl [.int .i64 0, .string ⟨#[]⟩, .string ⟨#[]⟩, .string ⟨#[]⟩, .string ⟨#[]⟩, .string ⟨#[]⟩, .slice none 0 0, .string ⟨#[]⟩, .int .i64 0, .slice none 0 0, .int .i64 0, .int .i64 0, .string ⟨#[]⟩, .string ⟨#[]⟩, .string ⟨#[]⟩, .int .i64 0, .bool false] _ HR6e.out Try.underlying49 rfl hiV.out ?_))
  rw [HW6.out]
  refine (unhide PR _).mono ?_
  rintro e w7 ⟨⟨A7, n7, c7, rfl, hn7, _, hR7⟩, hK7⟩
  have HR7 := Lib.hid hR7
  have HBW7 := Lib.hid (HBW6.out.trans (hK7.mono (by omega)))
  have hs7 := hK7.size
  clear hn7 hR7 hK7 HU HTU HW6 HY6 HBW6 HR6 HR6e
  go_wp2_with fail
  refine (unhide PR _).mono ?_
  rintro e w8 ⟨⟨A8, n8, c8, rfl, hn8, _, hR8⟩, hK8⟩
  have HR8 := Lib.hid hR8
  have HR78 := Lib.hid (HR7.out.below hK8)
  have HBW8 := Lib.hid (HBW7.out.trans (hK8.mono (by omega)))
  have hs8 := hK8.size
  clear hn8 hR8 hK8 PR HR7 HBW7
  go_wp2_with fail
  refine (awake_any w8).mono ?_
  rintro e w9 ⟨rfl, hK9⟩
  have HBW9 := Lib.hid (HBW8.out.trans (hK9.mono (by omega)))
  have k1 := conv_bytes A7 n7 c7 _ w9 (HR78.out.below (hK9.mono hs8))
  have k2 := conv_bytes A8 n8 c8 _ w9 (HR8.out.below hK9)
  clear HR78 HR8 hK9
  go_wp2
  go_ret
  exact ⟨by simp, HBW9.out⟩
theorem wireCommandBytes_any (A : Option Addr) (n c : Nat) (l : List UInt8) (w : World) (hb : Reads w w.heap.size A n (u8s l)) (hn : n ≤ c) (hc : c ≤ 9223372036854775807) :
    Calls Try.prog 7 #[.slice A n c] w fun e w' => e = .returned (.bool true) ∧ Below w.heap.size w w' := by
  by_cases hbig : 262144 < n
  · clear hb
    go_enter Try.func7, Try.ntmps7
    go_wp2
    go_ret
    exact ⟨rfl, Below.refl _ _⟩
  · by_cases h : ∃ ds, rds shCommand l = some (ds, [])
    · obtain ⟨ds, hds⟩ := h
      exact wireCommandBytes_ok A n c l ds w hb hn hc (by omega) hds
    · exact wireCommandBytes_no A n c l w hb hn hc (by omega) (fun ds hds => h ⟨ds, hds⟩)

def zeroOp : List Da := [.int 0, .int 0, .int 0, .int 0, .text [], .text [], .text [], .text [], .text [], .rows [], .text [], .int 0, .rows [], .int 0, .int 0, .text [], .text [], .text [], .int 0, .flag false, .int 0, .int 0, .int 0]
theorem cels_zeroOp (w : World) (S : Nat → Prop) : Cels w S shOp zeroOp [.int .i64 0, .int .i64 0, .int .i64 0, .int .i64 0, .string ⟨#[]⟩, .string ⟨#[]⟩, .string ⟨#[]⟩, .string ⟨#[]⟩, .string ⟨#[]⟩, .slice none 0 0, .string ⟨#[]⟩, .int .i64 0, .slice none 0 0, .int .i64 0, .int .i64 0, .string ⟨#[]⟩, .string ⟨#[]⟩, .string ⟨#[]⟩, .int .i64 0, .bool false, .int .i64 0, .int .i64 0, .int .i64 0] := by
  have e := cel_empty w S
  have n := fun x => Cel.mk_num (w := w) (S := S) x
  have z := cel_zero w S
  exact (Cels.mk (n 0) (Cels.mk (n 0) (Cels.mk (n 0) (Cels.mk (n 0) (Cels.mk e (Cels.mk e (Cels.mk e (Cels.mk e (Cels.mk e (Cels.mk (cel_nil w S _) (Cels.mk e (Cels.mk (n 0) (Cels.mk (cel_nil w S _) (Cels.mk z (Cels.mk z (Cels.mk e (Cels.mk e (Cels.mk e (Cels.mk (n 0) (Cels.mk (Cel.mk_flag false) (Cels.mk (n 0) (Cels.mk (n 0) (Cels.mk (n 0) Cels.mk0)))))))))))))))))))))))
set_option maxHeartbeats 3200000 in
theorem wireOpBytes_ok (A : Option Addr) (n c : Nat) (l : List UInt8) (ds : List Da) (w : World) (hb : Reads w w.heap.size A n (u8s l)) (hn : n ≤ c) (hc : c ≤ 9223372036854775807) (hsm : n ≤ 262144) (hds : rds shOp l = some (ds, [])) :
    Calls Try.prog 5 #[.slice A n c] w fun e w' => e = .returned (.bool true) ∧ Below w.heap.size w w' := by
  have hlen : l.length = n := reads_length hb
  have HLN := Lib.hid hlen
  have HS := Lib.hid hds
  have HLY := Lib.hid (rds_back hds)
  have HB0 := Lib.hid hb
  have C := Lib.hid (lend_any A n c l w hb (by omega))
  clear hb hds hlen
  go_enter Try.func5, Try.ntmps5
  go_wp2_with fail
  refine (unhide C).mono ?_
  rintro e w1 ⟨rfl, hX, hw1⟩
  have hg1 := hX.lt
  have HX1 := Lib.hid hX
  have HBW := Lib.hid hw1
  have HB1 := Lib.hid (HB0.out.below hw1)
  clear hX hw1 C HB0
  go_wp2_with fail
  refine (wget_Op _ _ _ l w1 (lent_reads HX1.out HLN.out) (by omega) ⟨by omega, by omega⟩).mono ?_
  rintro e w2 ⟨hG, hK2⟩
  rcases hG with ⟨ds', vs, hds', rfl, hC⟩ | ⟨hno, rfl⟩
  rotate_left
  · exact absurd HS.out (hno ds)
  rw [HS.out] at hds'
  injection hds' with hds'
  injection hds' with hds' _
  subst hds'
  have HX2 := Lib.hid (HX1.out.below hK2 hg1)
  have HB2 := Lib.hid (HB1.out.below (hK2.mono (by omega)))
  have HBW2 := Lib.hid (HBW.out.trans (hK2.mono (by omega)))
  have hs2 := hK2.size
  -- y is laid in a variable
  have hlen : vs.length = 23 := hC.len.2
  have HX := Lib.hid (Blk.new w2 51 [.int .i64 0, .int .i64 0, .int .i64 0, .int .i64 0, .string ⟨#[]⟩, .string ⟨#[]⟩, .string ⟨#[]⟩, .string ⟨#[]⟩, .string ⟨#[]⟩, .slice none 0 0, .string ⟨#[]⟩, .int .i64 0, .slice none 0 0, .int .i64 0, .int .i64 0, .string ⟨#[]⟩, .string ⟨#[]⟩, .string ⟨#[]⟩, .int .i64 0, .bool false, .int .i64 0, .int .i64 0, .int .i64 0])
  have HTE : Hid (World.there (w2.alloc (.cells #[.int .i64 0, .int .i64 0, .int .i64 0, .int .i64 0, .string ⟨#[]⟩, .string ⟨#[]⟩, .string ⟨#[]⟩, .string ⟨#[]⟩, .string ⟨#[]⟩, .slice none 0 0, .string ⟨#[]⟩, .int .i64 0, .slice none 0 0, .int .i64 0, .int .i64 0, .string ⟨#[]⟩, .string ⟨#[]⟩, .string ⟨#[]⟩, .int .i64 0, .bool false, .int .i64 0, .int .i64 0, .int .i64 0] 51)) w2.heap.size 0 vs.toArray.size) := Lib.hid (HX.out.there 0 _ (by simp [hlen]))
  have hsV : Hid ((Try.prog.info? 51).map (·.size) = some vs.toArray.size) := Lib.hid (by rw [List.size_toArray, hlen]; kernel_rfl)
  have hiV : Hid ((Try.prog.info? 51).map (·.size) = some vs.length) := Lib.hid (by rw [hlen]; kernel_rfl)
  have h1V : Hid (vs.toArray.all (·.oneCell') = true) := Lib.hid (all_oneCell_toArray hC.oneCell)
  obtain ⟨w3, hw3⟩ : ∃ w3, ((w2.alloc (.cells #[.int .i64 0, .int .i64 0, .int .i64 0, .int .i64 0, .string ⟨#[]⟩, .string ⟨#[]⟩, .string ⟨#[]⟩, .string ⟨#[]⟩, .string ⟨#[]⟩, .slice none 0 0, .string ⟨#[]⟩, .int .i64 0, .slice none 0 0, .int .i64 0, .int .i64 0, .string ⟨#[]⟩, .string ⟨#[]⟩, .string ⟨#[]⟩, .int .i64 0, .bool false, .int .i64 0, .int .i64 0, .int .i64 0] 51)).setCells w2.heap.size 0 vs) = w3 := ⟨_, rfl⟩
  have hb3 : Below w2.heap.size w2 ((w2.alloc (.cells #[.int .i64 0, .int .i64 0, .int .i64 0, .int .i64 0, .string ⟨#[]⟩, .string ⟨#[]⟩, .string ⟨#[]⟩, .string ⟨#[]⟩, .string ⟨#[]⟩, .slice none 0 0, .string ⟨#[]⟩, .int .i64 0, .slice none 0 0, .int .i64 0, .int .i64 0, .string ⟨#[]⟩, .string ⟨#[]⟩, .string ⟨#[]⟩, .int .i64 0, .bool false, .int .i64 0, .int .i64 0, .int .i64 0] 51)).setCells w2.heap.size 0 vs) := ((Below.refl _ _).alloc (Nat.le_refl _) _).trans (below_setCells_ (Nat.le_refl _) 0 vs)
  have HY3 := Lib.hid (HX.out.setCells0 vs hlen.symm)
  rw [hw3] at HY3 hb3
  have HX3 := Lib.hid (HX2.out.below hb3 (by omega))
  have HB3 := Lib.hid (HB2.out.below (hb3.mono (by omega)))
  have HBW3 := Lib.hid (HBW2.out.trans (hb3.mono (by omega)))
  have HC3 := Lib.hid (hC.keeps (Keeps.of_below (ts := []) hb3 (Nat.le_refl _)) (by simp))
  have hs3 := hb3.size
  have HW3 := Lib.hid hw3
  clear hC hlen hb3 hw3 hK2 HX1 HB1 HBW HX2 HB2 HBW2
  go_wp2_with (with_reducible refine wpList_store_mid rfl 51 _ _ rfl w2.heap.size 0 vs.toArray rfl rfl HTE.out hsV.out h1V.out ?_)
  rw [HW3.out]
  refine (back_any A n c w.heap.size w.heap.size l w3 HB3.out (Nat.le_refl _) HX3.out (by omega)).mono ?_
  rintro e w4 ⟨rfl, hg4⟩
  have HK4 := Lib.hid (Keeps.of_grown (ts := [5]) hg4 HX3.out.typ (by simp))
  have HBW4 := Lib.hid (HBW3.out.grown hg4 (by have := HX3.out.lt; omega) (by intro k hk; injection hk with hk; omega))
  have HY4 := Lib.hid (HY3.out.keeps HK4.out (by decide))
  have HC4 := Lib.hid (HC3.out.keeps HK4.out (by decide))
  have HB4 := Lib.hid (HB3.out.grown hg4 (by have := HX3.out.lt; omega) (by intro k hk; injection hk with hk; omega))
  have hs4 := hg4.size
  clear hg4 HX HTE HW3 HY3 HX3 HB3 HBW3 HC3 HK4
  go_wp2_with fail
  refine (rget_Op A n c l w4 (HB4.out.more (by omega)) ⟨hn, by omega, hc⟩).mono ?_
  rintro e w5 ⟨⟨us, E, rfl, hul, hu1, hE⟩, hK5⟩
  obtain rfl : E = 0 := by
    rcases hE with ⟨h, _⟩ | ⟨_, h⟩
    · exact h
    · exact absurd HS.out (h ds)
  have HY5 := Lib.hid (HY4.out.below hK5 HY4.out.lt)
  have HC5 := Lib.hid (HC4.out.keeps (Keeps.of_below (ts := []) hK5 (Nat.le_refl _)) (by simp))
  have HB5 := Lib.hid (HB4.out.below (hK5.mono (by omega)))
  have HBW5 := Lib.hid (HBW4.out.trans (hK5.mono (by omega)))
  have hs5 := hK5.size
  have HU := Lib.hid (Blk.new w5 51 [.int .i64 0, .int .i64 0, .int .i64 0, .int .i64 0, .string ⟨#[]⟩, .string ⟨#[]⟩, .string ⟨#[]⟩, .string ⟨#[]⟩, .string ⟨#[]⟩, .slice none 0 0, .string ⟨#[]⟩, .int .i64 0, .slice none 0 0, .int .i64 0, .int .i64 0, .string ⟨#[]⟩, .string ⟨#[]⟩, .string ⟨#[]⟩, .int .i64 0, .bool false, .int .i64 0, .int .i64 0, .int .i64 0])
  have hul' : us.length = 23 := hul
  have HTU : Hid (World.there (w5.alloc (.cells #[.int .i64 0, .int .i64 0, .int .i64 0, .int .i64 0, .string ⟨#[]⟩, .string ⟨#[]⟩, .string ⟨#[]⟩, .string ⟨#[]⟩, .string ⟨#[]⟩, .slice none 0 0, .string ⟨#[]⟩, .int .i64 0, .slice none 0 0, .int .i64 0, .int .i64 0, .string ⟨#[]⟩, .string ⟨#[]⟩, .string ⟨#[]⟩, .int .i64 0, .bool false, .int .i64 0, .int .i64 0, .int .i64 0] 51)) w5.heap.size 0 us.toArray.size) := Lib.hid (HU.out.there 0 _ (by simp [hul']))
  have hsU : Hid ((Try.prog.info? 51).map (·.size) = some us.toArray.size) := Lib.hid (by rw [List.size_toArray, hul']; kernel_rfl)
  have h1U : Hid (us.toArray.all (·.oneCell') = true) := Lib.hid (all_oneCell_toArray hu1)
  obtain ⟨w6, hw6⟩ : ∃ w6, ((w5.alloc (.cells #[.int .i64 0, .int .i64 0, .int .i64 0, .int .i64 0, .string ⟨#[]⟩, .string ⟨#[]⟩, .string ⟨#[]⟩, .string ⟨#[]⟩, .string ⟨#[]⟩, .slice none 0 0, .string ⟨#[]⟩, .int .i64 0, .slice none 0 0, .int .i64 0, .int .i64 0, .string ⟨#[]⟩, .string ⟨#[]⟩, .string ⟨#[]⟩, .int .i64 0, .bool false, .int .i64 0, .int .i64 0, .int .i64 0] 51)).setCells w5.heap.size 0 us) = w6 := ⟨_, rfl⟩
  have hb6 : Below w5.heap.size w5 ((w5.alloc (.cells #[.int .i64 0, .int .i64 0, .int .i64 0, .int .i64 0, .string ⟨#[]⟩, .string ⟨#[]⟩, .string ⟨#[]⟩, .string ⟨#[]⟩, .string ⟨#[]⟩, .slice none 0 0, .string ⟨#[]⟩, .int .i64 0, .slice none 0 0, .int .i64 0, .int .i64 0, .string ⟨#[]⟩, .string ⟨#[]⟩, .string ⟨#[]⟩, .int .i64 0, .bool false, .int .i64 0, .int .i64 0, .int .i64 0] 51)).setCells w5.heap.size 0 us) := ((Below.refl _ _).alloc (Nat.le_refl _) _).trans (below_setCells_ (Nat.le_refl _) 0 us)
  rw [hw6] at hb6
  have HY6 := Lib.hid (HY5.out.below hb6 HY5.out.lt)
  have HC6 := Lib.hid (HC5.out.keeps (Keeps.of_below (ts := []) hb6 (Nat.le_refl _)) (by simp))
  have HB6 := Lib.hid (HB5.out.below (hb6.mono (by omega)))
  have HBW6 := Lib.hid (HBW5.out.trans (hb6.mono (by omega)))
  have hs6 := hb6.size
  have HW6 := Lib.hid hw6
  have HR6 := Lib.hid HY6.out.range0
  clear hK5 hE hu1 hul hul' hb6 hw6 HY4 HC4 HB4 HBW4 HY5 HC5 HB5 HBW5
  have PR := Lib.hid (rput_Op ds vs w6 HC6.out.inT_lt (by rw [HLY.out]; have := HLN.out; dsimp only; omega))
  rw [HLY.out] at PR
  have HR6e : Hid (World.rangeAt ((w5.alloc (.cells #[.int .i64 0, .int .i64 0, .int .i64 0, .int .i64 0, .string ⟨#[]⟩, .string ⟨#[]⟩, .string ⟨#[]⟩, .string ⟨#[]⟩, .string ⟨#[]⟩, .slice none 0 0, .string ⟨#[]⟩, .int .i64 0, .slice none 0 0, .int .i64 0, .int .i64 0, .string ⟨#[]⟩, .string ⟨#[]⟩, .string ⟨#[]⟩, .int .i64 0, .bool false, .int .i64 0, .int .i64 0, .int .i64 0] 51)).setCells w5.heap.size 0 us) w2.heap.size 0 vs) := Lib.hid (by rw [HW6.out]; exact HR6.out)
  go_wp2_with (first | (with_reducible refine wpList_store_mid rfl 51 _ _ rfl w5.heap.size 0 us.toArray rfl rfl HTU.out hsU.out h1U.out ?_) | (with_reducible refine wpList_load_mid rfl 51 _ rfl w2.heap.size 0 rfl vs _ HR6e.out Try.underlying51 rfl hiV.out ?_))
  rw [HW6.out]
  refine (unhide PR).mono ?_
  rintro e w7 ⟨⟨A7, n7, c7, rfl, hn7, _, hR7⟩, hK7⟩
  have ho : out (l, 0) = l := rfl
  rw [ho] at hR7
  have HR7 := Lib.hid hR7
  have HB7 := Lib.hid (HB6.out.below (hK7.mono (by omega)))
  have HBW7 := Lib.hid (HBW6.out.trans (hK7.mono (by omega)))
  have hs7 := hK7.size
  clear hn7 hR7 hK7 PR HU HTU HW6 HY6 HC6 HB6 HBW6 HR6 HR6e ho
  go_wp2_with fail
  refine (awake_any w7).mono ?_
  rintro e w8 ⟨rfl, hK8⟩
  have HBW8 := Lib.hid (HBW7.out.trans (hK8.mono (by omega)))
  have k1 := conv_bytes A7 n7 c7 l w8 (HR7.out.below hK8)
  have k2 := conv_bytes A n c l w8 (HB7.out.below (hK8.mono (by omega)))
  clear HR7 HB7 hK8
  go_wp2
  go_ret
  exact ⟨by simp, HBW8.out⟩
set_option maxHeartbeats 3200000 in
theorem wireOpBytes_no (A : Option Addr) (n c : Nat) (l : List UInt8) (w : World) (hb : Reads w w.heap.size A n (u8s l)) (hn : n ≤ c) (hc : c ≤ 9223372036854775807) (hsm : n ≤ 262144) (hno : ∀ ds, rds shOp l ≠ some (ds, [])) :
    Calls Try.prog 5 #[.slice A n c] w fun e w' => e = .returned (.bool true) ∧ Below w.heap.size w w' := by
  have hlen : l.length = n := reads_length hb
  have HLN := Lib.hid hlen
  have HS := Lib.hid hno
  have HB0 := Lib.hid hb
  have C := Lib.hid (lend_any A n c l w hb (by omega))
  have hiV : Hid ((Try.prog.info? 51).map (·.size) = some (List.length ([.int .i64 0, .int .i64 0, .int .i64 0, .int .i64 0, .string ⟨#[]⟩, .string ⟨#[]⟩, .string ⟨#[]⟩, .string ⟨#[]⟩, .string ⟨#[]⟩, .slice none 0 0, .string ⟨#[]⟩, .int .i64 0, .slice none 0 0, .int .i64 0, .int .i64 0, .string ⟨#[]⟩, .string ⟨#[]⟩, .string ⟨#[]⟩, .int .i64 0, .bool false, .int .i64 0, .int .i64 0, .int .i64 0] : List Value))) := Lib.hid (by kernel_rfl)
  have hsV : Hid ((Try.prog.info? 51).map (·.size) = some (List.toArray ([.int .i64 0, .int .i64 0, .int .i64 0, .int .i64 0, .string ⟨#[]⟩, .string ⟨#[]⟩, .string ⟨#[]⟩, .string ⟨#[]⟩, .string ⟨#[]⟩, .slice none 0 0, .string ⟨#[]⟩, .int .i64 0, .slice none 0 0, .int .i64 0, .int .i64 0, .string ⟨#[]⟩, .string ⟨#[]⟩, .string ⟨#[]⟩, .int .i64 0, .bool false, .int .i64 0, .int .i64 0, .int .i64 0] : List Value)).size) := Lib.hid (by kernel_rfl)
  have h1V : Hid ((List.toArray ([.int .i64 0, .int .i64 0, .int .i64 0, .int .i64 0, .string ⟨#[]⟩, .string ⟨#[]⟩, .string ⟨#[]⟩, .string ⟨#[]⟩, .string ⟨#[]⟩, .slice none 0 0, .string ⟨#[]⟩, .int .i64 0, .slice none 0 0, .int .i64 0, .int .i64 0, .string ⟨#[]⟩, .string ⟨#[]⟩, .string ⟨#[]⟩, .int .i64 0, .bool false, .int .i64 0, .int .i64 0, .int .i64 0] : List Value)).all (·.oneCell') = true) := Lib.hid (all_oneCell_toArray (by simp [Value.oneCell']))
  clear hb hno hlen
  go_enter Try.func5, Try.ntmps5
  go_wp2_with fail
  refine (unhide C).mono ?_
  rintro e w1 ⟨rfl, hX, hw1⟩
  have hg1 := hX.lt
  have HX1 := Lib.hid hX
  have HBW := Lib.hid hw1
  have HB1 := Lib.hid (HB0.out.below hw1)
  clear hX hw1 C HB0
  go_wp2_with fail
  refine (wget_Op _ _ _ l w1 (lent_reads HX1.out HLN.out) (by omega) ⟨by omega, by omega⟩).mono ?_
  rintro e w2 ⟨hG, hK2⟩
  rcases hG with ⟨ds', vs, hds', _⟩ | ⟨_, rfl⟩
  · exact absurd hds' (HS.out ds')
  have HX2 := Lib.hid (HX1.out.below hK2 hg1)
  have HB2 := Lib.hid (HB1.out.below (hK2.mono (by omega)))
  have HBW2 := Lib.hid (HBW.out.trans (hK2.mono (by omega)))
  have hs2 := hK2.size
  have HX := Lib.hid (Blk.new w2 51 [.int .i64 0, .int .i64 0, .int .i64 0, .int .i64 0, .string ⟨#[]⟩, .string ⟨#[]⟩, .string ⟨#[]⟩, .string ⟨#[]⟩, .string ⟨#[]⟩, .slice none 0 0, .string ⟨#[]⟩, .int .i64 0, .slice none 0 0, .int .i64 0, .int .i64 0, .string ⟨#[]⟩, .string ⟨#[]⟩, .string ⟨#[]⟩, .int .i64 0, .bool false, .int .i64 0, .int .i64 0, .int .i64 0])
  have HTE : Hid (World.there (w2.alloc (.cells #[.int .i64 0, .int .i64 0, .int .i64 0, .int .i64 0, .string ⟨#[]⟩, .string ⟨#[]⟩, .string ⟨#[]⟩, .string ⟨#[]⟩, .string ⟨#[]⟩, .slice none 0 0, .string ⟨#[]⟩, .int .i64 0, .slice none 0 0, .int .i64 0, .int .i64 0, .string ⟨#[]⟩, .string ⟨#[]⟩, .string ⟨#[]⟩, .int .i64 0, .bool false, .int .i64 0, .int .i64 0, .int .i64 0] 51)) w2.heap.size 0 (List.toArray ([.int .i64 0, .int .i64 0, .int .i64 0, .int .i64 0, .string ⟨#[]⟩, .string ⟨#[]⟩, .string ⟨#[]⟩, .string ⟨#[]⟩, .string ⟨#[]⟩, .slice none 0 0, .string ⟨#[]⟩, .int .i64 0, .slice none 0 0, .int .i64 0, .int .i64 0, .string ⟨#[]⟩, .string ⟨#[]⟩, .string ⟨#[]⟩, .int .i64 0, .bool false, .int .i64 0, .int .i64 0, .int .i64 0] : List Value)).size) := Lib.hid (HX.out.there 0 _ (by simp))
  obtain ⟨w3, hw3⟩ : ∃ w3, ((w2.alloc (.cells #[.int .i64 0, .int .i64 0, .int .i64 0, .int .i64 0, .string ⟨#[]⟩, .string ⟨#[]⟩, .string ⟨#[]⟩, .string ⟨#[]⟩, .string ⟨#[]⟩, .slice none 0 0, .string ⟨#[]⟩, .int .i64 0, .slice none 0 0, .int .i64 0, .int .i64 0, .string ⟨#[]⟩, .string ⟨#[]⟩, .string ⟨#[]⟩, .int .i64 0, .bool false, .int .i64 0, .int .i64 0, .int .i64 0] 51)).setCells w2.heap.size 0 [.int .i64 0, .int .i64 0, .int .i64 0, .int .i64 0, .string ⟨#[]⟩, .string ⟨#[]⟩, .string ⟨#[]⟩, .string ⟨#[]⟩, .string ⟨#[]⟩, .slice none 0 0, .string ⟨#[]⟩, .int .i64 0, .slice none 0 0, .int .i64 0, .int .i64 0, .string ⟨#[]⟩, .string ⟨#[]⟩, .string ⟨#[]⟩, .int .i64 0, .bool false, .int .i64 0, .int .i64 0, .int .i64 0]) = w3 := ⟨_, rfl⟩
  have hb3 : Below w2.heap.size w2 ((w2.alloc (.cells #[.int .i64 0, .int .i64 0, .int .i64 0, .int .i64 0, .string ⟨#[]⟩, .string ⟨#[]⟩, .string ⟨#[]⟩, .string ⟨#[]⟩, .string ⟨#[]⟩, .slice none 0 0, .string ⟨#[]⟩, .int .i64 0, .slice none 0 0, .int .i64 0, .int .i64 0, .string ⟨#[]⟩, .string ⟨#[]⟩, .string ⟨#[]⟩, .int .i64 0, .bool false, .int .i64 0, .int .i64 0, .int .i64 0] 51)).setCells w2.heap.size 0 [.int .i64 0, .int .i64 0, .int .i64 0, .int .i64 0, .string ⟨#[]⟩, .string ⟨#[]⟩, .string ⟨#[]⟩, .string ⟨#[]⟩, .string ⟨#[]⟩, .slice none 0 0, .string ⟨#[]⟩, .int .i64 0, .slice none 0 0, .int .i64 0, .int .i64 0, .string ⟨#[]⟩, .string ⟨#[]⟩, .string ⟨#[]⟩, .int .i64 0, .bool false, .int .i64 0, .int .i64 0, .int .i64 0]) := ((Below.refl _ _).alloc (Nat.le_refl _) _).trans (below_setCells_ (Nat.le_refl _) 0 [.int .i64 0, .int .i64 0, .int .i64 0, .int .i64 0, .string ⟨#[]⟩, .string ⟨#[]⟩, .string ⟨#[]⟩, .string ⟨#[]⟩, .string ⟨#[]⟩, .slice none 0 0, .string ⟨#[]⟩, .int .i64 0, .slice none 0 0, .int .i64 0, .int .i64 0, .string ⟨#[]⟩, .string ⟨#[]⟩, .string ⟨#[]⟩, .int .i64 0, .bool false, .int .i64 0, .int .i64 0, .int .i64 0])
  have HY3 := Lib.hid (HX.out.setCells0 [.int .i64 0, .int .i64 0, .int .i64 0, .int .i64 0, .string ⟨#[]⟩, .string ⟨#[]⟩, .string ⟨#[]⟩, .string ⟨#[]⟩, .string ⟨#[]⟩, .slice none 0 0, .string ⟨#[]⟩, .int .i64 0, .slice none 0 0, .int .i64 0, .int .i64 0, .string ⟨#[]⟩, .string ⟨#[]⟩, .string ⟨#[]⟩, .int .i64 0, .bool false, .int .i64 0, .int .i64 0, .int .i64 0] rfl)
  rw [hw3] at HY3 hb3
  have HX3 := Lib.hid (HX2.out.below hb3 (by omega))
  have HB3 := Lib.hid (HB2.out.below (hb3.mono (by omega)))
  have HBW3 := Lib.hid (HBW2.out.trans (hb3.mono (by omega)))
  have hs3 := hb3.size
  have HW3 := Lib.hid hw3
  clear hb3 hw3 hK2 HX1 HB1 HBW HX2 HB2 HBW2
  go_wp2_with (with_reducible refine wpList_store_mid rfl 51 _ _ rfl w2.heap.size 0 (List.toArray ([.int .i64 0, .int .i64 0, .int .i64 0, .int .i64 0, .string ⟨#[]⟩, .string ⟨#[]⟩, .string ⟨#[]⟩, .string ⟨#[]⟩, .string ⟨#[]⟩, .slice none 0 0, .string ⟨#[]⟩, .int .i64 0, .slice none 0 0, .int .i64 0, .int .i64 0, .string ⟨#[]⟩, .string ⟨#[]⟩, .string ⟨#[]⟩, .int .i64 0, .bool false, .int .i64 0, .int .i64 0, .int .i64 0] : List Value)) rfl rfl HTE.out hsV.out h1V.out ?_)
  rw [HW3.out]
  refine (back_any A n c w.heap.size w.heap.size l w3 HB3.out (Nat.le_refl _) HX3.out (by omega)).mono ?_
  rintro e w4 ⟨rfl, hg4⟩
  have HK4 := Lib.hid (Keeps.of_grown (ts := [5]) hg4 HX3.out.typ (by simp))
  have HBW4 := Lib.hid (HBW3.out.grown hg4 (by have := HX3.out.lt; omega) (by intro k hk; injection hk with hk; omega))
  have HY4 := Lib.hid (HY3.out.keeps HK4.out (by decide))
  have HB4 := Lib.hid (HB3.out.grown hg4 (by have := HX3.out.lt; omega) (by intro k hk; injection hk with hk; omega))
  have hs4 := hg4.size
  clear hg4 HX HTE HW3 HY3 HX3 HB3 HBW3 HK4
  go_wp2_with fail
  refine (rget_Op A n c l w4 (HB4.out.more (by omega)) ⟨hn, by omega, hc⟩).mono ?_
  rintro e w5 ⟨⟨us, E, rfl, hul, hu1, hE⟩, hK5⟩
  obtain rfl : E = 11 := by
    rcases hE with ⟨_, d, h⟩ | ⟨h, _⟩
    · exact absurd h (HS.out d)
    · exact h
  have HY5 := Lib.hid (HY4.out.below hK5 HY4.out.lt)
  have HBW5 := Lib.hid (HBW4.out.trans (hK5.mono (by omega)))
  have hs5 := hK5.size
  have HU := Lib.hid (Blk.new w5 51 [.int .i64 0, .int .i64 0, .int .i64 0, .int .i64 0, .string ⟨#[]⟩, .string ⟨#[]⟩, .string ⟨#[]⟩, .string ⟨#[]⟩, .string ⟨#[]⟩, .slice none 0 0, .string ⟨#[]⟩, .int .i64 0, .slice none 0 0, .int .i64 0, .int .i64 0, .string ⟨#[]⟩, .string ⟨#[]⟩, .string ⟨#[]⟩, .int .i64 0, .bool false, .int .i64 0, .int .i64 0, .int .i64 0])
  have hul' : us.length = 23 := hul
  have HTU : Hid (World.there (w5.alloc (.cells #[.int .i64 0, .int .i64 0, .int .i64 0, .int .i64 0, .string ⟨#[]⟩, .string ⟨#[]⟩, .string ⟨#[]⟩, .string ⟨#[]⟩, .string ⟨#[]⟩, .slice none 0 0, .string ⟨#[]⟩, .int .i64 0, .slice none 0 0, .int .i64 0, .int .i64 0, .string ⟨#[]⟩, .string ⟨#[]⟩, .string ⟨#[]⟩, .int .i64 0, .bool false, .int .i64 0, .int .i64 0, .int .i64 0] 51)) w5.heap.size 0 us.toArray.size) := Lib.hid (HU.out.there 0 _ (by simp [hul']))
  have hsU : Hid ((Try.prog.info? 51).map (·.size) = some us.toArray.size) := Lib.hid (by rw [List.size_toArray, hul']; kernel_rfl)
  have h1U : Hid (us.toArray.all (·.oneCell') = true) := Lib.hid (all_oneCell_toArray hu1)
  obtain ⟨w6, hw6⟩ : ∃ w6, ((w5.alloc (.cells #[.int .i64 0, .int .i64 0, .int .i64 0, .int .i64 0, .string ⟨#[]⟩, .string ⟨#[]⟩, .string ⟨#[]⟩, .string ⟨#[]⟩, .string ⟨#[]⟩, .slice none 0 0, .string ⟨#[]⟩, .int .i64 0, .slice none 0 0, .int .i64 0, .int .i64 0, .string ⟨#[]⟩, .string ⟨#[]⟩, .string ⟨#[]⟩, .int .i64 0, .bool false, .int .i64 0, .int .i64 0, .int .i64 0] 51)).setCells w5.heap.size 0 us) = w6 := ⟨_, rfl⟩
  have hb6 : Below w5.heap.size w5 ((w5.alloc (.cells #[.int .i64 0, .int .i64 0, .int .i64 0, .int .i64 0, .string ⟨#[]⟩, .string ⟨#[]⟩, .string ⟨#[]⟩, .string ⟨#[]⟩, .string ⟨#[]⟩, .slice none 0 0, .string ⟨#[]⟩, .int .i64 0, .slice none 0 0, .int .i64 0, .int .i64 0, .string ⟨#[]⟩, .string ⟨#[]⟩, .string ⟨#[]⟩, .int .i64 0, .bool false, .int .i64 0, .int .i64 0, .int .i64 0] 51)).setCells w5.heap.size 0 us) := ((Below.refl _ _).alloc (Nat.le_refl _) _).trans (below_setCells_ (Nat.le_refl _) 0 us)
  rw [hw6] at hb6
  have HY6 := Lib.hid (HY5.out.below hb6 HY5.out.lt)
  have HBW6 := Lib.hid (HBW5.out.trans (hb6.mono (by omega)))
  have hs6 := hb6.size
  have HW6 := Lib.hid hw6
  have HR6 := Lib.hid HY6.out.range0
  clear hK5 hE hu1 hul hul' hb6 hw6 HY4 HB4 HBW4 HY5 HBW5
  have PR := fun w' => rput_Op zeroOp _ w' (cels_zeroOp w' _) (op_le _)
  obtain ⟨S, hS⟩ : ∃ S, lays shOp zeroOp ([], 0) = S := ⟨_, rfl⟩
  rw [hS] at PR
  replace PR := Lib.hid PR
  clear hS
  have HR6e : Hid (World.rangeAt ((w5.alloc (.cells #[.int .i64 0, .int .i64 0, .int .i64 0, .int .i64 0, .string ⟨#[]⟩, .string ⟨#[]⟩, .string ⟨#[]⟩, .string ⟨#[]⟩, .string ⟨#[]⟩, .slice none 0 0, .string ⟨#[]⟩, .int .i64 0, .slice none 0 0, .int .i64 0, .int .i64 0, .string ⟨#[]⟩, .string ⟨#[]⟩, .string ⟨#[]⟩, .int .i64 0, .bool false, .int .i64 0, .int .i64 0, .int .i64 0] 51)).setCells w5.heap.size 0 us) w2.heap.size 0 [.int .i64 0, .int .i64 0, .int .i64 0, .int .i64 0, .string ⟨#[]⟩, .string ⟨#[]⟩, .string ⟨#[]⟩, .string ⟨#[]⟩, .string ⟨#[]⟩, .slice none 0 0, .string ⟨#[]⟩, .int .i64 0, .slice none 0 0, .int .i64 0, .int .i64 0, .string ⟨#[]⟩, .string ⟨#[]⟩, .string ⟨#[]⟩, .int .i64 0, .bool false, .int .i64 0, .int .i64 0, .int .i64 0]) := Lib.hid (by rw [HW6.out]; exact HR6.out)
  go_wp2_with (first | (with_reducible refine wpList_store_mid rfl 51 _ _ rfl w5.heap.size 0 us.toArray rfl rfl HTU.out hsU.out h1U.out ?_) | (with_reducible refine wpList_load_mid rfl 51 _ rfl w2.heap.size 0 rfl [.int .i64 0, .int .i64 0, .int .i64 0, .int .i64 0, .string ⟨#[]⟩, .string ⟨#[]⟩, .string ⟨#[]⟩, .string ⟨#[]⟩, .string ⟨#[]⟩, .slice none 0 0, .string ⟨#[]⟩, .int .i64 0, .slice none 0 0, .int .i64 0, .int .i64 0, .string ⟨#[]⟩, .string ⟨#[]⟩, .string ⟨#[]⟩, .int .i64 0, .bool false, .int .i64 0, .int .i64 0, .int .i64 0] _ HR6e.out Try.underlying51 rfl hiV.out ?_))
  rw [HW6.out]
  refine (unhide PR _).mono ?_
  rintro e w7 ⟨⟨A7, n7, c7, rfl, hn7, _, hR7⟩, hK7⟩
  have HR7 := Lib.hid hR7
  have HBW7 := Lib.hid (HBW6.out.trans (hK7.mono (by omega)))
  have hs7 := hK7.size
  clear hn7 hR7 hK7 HU HTU HW6 HY6 HBW6 HR6 HR6e
  go_wp2_with fail
  refine (unhide PR _).mono ?_
  rintro e w8 ⟨⟨A8, n8, c8, rfl, hn8, _, hR8⟩, hK8⟩
  have HR8 := Lib.hid hR8
  have HR78 := Lib.hid (HR7.out.below hK8)
  have HBW8 := Lib.hid (HBW7.out.trans (hK8.mono (by omega)))
  have hs8 := hK8.size
  clear hn8 hR8 hK8 PR HR7 HBW7
  go_wp2_with fail
  refine (awake_any w8).mono ?_
  rintro e w9 ⟨rfl, hK9⟩
  have HBW9 := Lib.hid (HBW8.out.trans (hK9.mono (by omega)))
  have k1 := conv_bytes A7 n7 c7 _ w9 (HR78.out.below (hK9.mono hs8))
  have k2 := conv_bytes A8 n8 c8 _ w9 (HR8.out.below hK9)
  clear HR78 HR8 hK9
  go_wp2
  go_ret
  exact ⟨by simp, HBW9.out⟩
theorem wireOpBytes_any (A : Option Addr) (n c : Nat) (l : List UInt8) (w : World) (hb : Reads w w.heap.size A n (u8s l)) (hn : n ≤ c) (hc : c ≤ 9223372036854775807) :
    Calls Try.prog 5 #[.slice A n c] w fun e w' => e = .returned (.bool true) ∧ Below w.heap.size w w' := by
  by_cases hbig : 262144 < n
  · clear hb
    go_enter Try.func5, Try.ntmps5
    go_wp2
    go_ret
    exact ⟨rfl, Below.refl _ _⟩
  · by_cases h : ∃ ds, rds shOp l = some (ds, [])
    · obtain ⟨ds, hds⟩ := h
      exact wireOpBytes_ok A n c l ds w hb hn hc (by omega) hds
    · exact wireOpBytes_no A n c l w hb hn hc (by omega) (fun ds hds => h ⟨ds, hds⟩)
end Go.Proofs.Yteohhgkehkmgcaa
