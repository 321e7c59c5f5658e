/- The document's examples (the statements' awake). -/
import Derived.Test.YteohhgkehkmgcaaPut1
import Derived.Test.YteohhgkehkmgcaaGet1
namespace Go.Proofs.Yteohhgkehkmgcaa
open Go.RowKit Le
set_option maxRecDepth 100000
set_option linter.unusedVariables false

/-! ### Plain: the example's bytes. -/
def opA (k s : Int) : List Da := [.int k, .int 0, .int 0, .int 0, .text [], .text [], .text [], .text [], .text [], .rows [], .text [], .int 0, .rows [], .int 0, .int 0, .text [], .text [], .text [], .int 0, .flag false, .int 0, .int 0, .int s]
def b97 : List UInt8 := (lays shOp (opA 4 7) ([], 0)).1
theorem b97_st : lays shOp (opA 4 7) ([], 0) = (b97, 0) := by
  have h : (lays shOp (opA 4 7) ([], 0)).2 = 0 := by kernel_rfl
  exact Prod.ext rfl h
theorem b97_len : b97.length = 97 := by kernel_rfl
theorem b97_0 : (u8s b97)[0]? = some (.int .u8 4) := by kernel_rfl
theorem b97_93 : (u8s b97)[93]? = some (.int .u8 7) := by kernel_rfl
theorem b97_rd : rds shOp b97 = some (opA 4 7, []) := by kernel_rfl
theorem nil_rd : rds shOp [] = none := by kernel_rfl
def recA (v : Int) : List Da := [.int 0, .int 0, .int v, .int 0, .int 0, .int 0, .rows [], .rows [], .text [], .int 0, .int 0, .int 0, .rows [], .rows [], .text []]
theorem rec_st : (lays shRecord (recA (-1)) ([], 0)).2 = 1 := by kernel_rfl
theorem rec_len : (lays shRecord (recA (-1)) ([], 0)).1.length ≤ 1099511627776 := by
  have h : (lays shRecord (recA (-1)) ([], 0)).1.length = 40 := by kernel_rfl
  omega
theorem b97_le : (lays shOp (opA 4 7) ([], 0)).1.length ≤ 1099511627776 := by rw [b97_st]; rw [b97_len]; decide

/-! ### The values in memory. -/
section
variable (w : World) (S : Nat → Prop)
theorem cel_nil (l : List Sh) : Cel w S (.rows l) (.rows []) (.slice none 0 0) := Cel.mk_rows (ds := []) (A := none) 0 RowsAt.nil
theorem cel_empty : Cel w S .text (.text []) (.string ⟨#[]⟩) := Cel.mk_text []
theorem cel_zero : Cel w S .whole (.int 0) (.int .i64 0) := Cel.mk_whole (by decide)
theorem cels_op (k s : Int) : Cels w S shOp (opA k s) [.int .i64 k, .int .i64 0, .int .i64 0, .int .i64 0, .string ⟨#[]⟩, .string ⟨#[]⟩, .string ⟨#[]⟩, .string ⟨#[]⟩, .string ⟨#[]⟩, .slice none 0 0, .string ⟨#[]⟩, .int .i64 0, .slice none 0 0, .int .i64 0, .int .i64 0, .string ⟨#[]⟩, .string ⟨#[]⟩, .string ⟨#[]⟩, .int .i64 0, .bool false, .int .i64 0, .int .i64 0, .int .i64 s] := by
  have e := cel_empty w S
  have n := fun x => Cel.mk_num (w := w) (S := S) x
  have z := cel_zero w S
  exact Cels.mk (n k) (Cels.mk (n 0) (Cels.mk (n 0) (Cels.mk (n 0) (Cels.mk e (Cels.mk e (Cels.mk e (Cels.mk e (Cels.mk e (Cels.mk (cel_nil w S _) (Cels.mk e (Cels.mk (n 0) (Cels.mk (cel_nil w S _) (Cels.mk z (Cels.mk z (Cels.mk e (Cels.mk e (Cels.mk e (Cels.mk (n 0) (Cels.mk (Cel.mk_flag false) (Cels.mk (n 0) (Cels.mk (n 0) (Cels.mk (n s) Cels.mk0))))))))))))))))))))))
theorem cels_rec (v : Int) : Cels w S shRecord (recA v) [.int .i64 0, .int .i64 0, .int .i64 v, .int .i64 0, .int .i64 0, .int .i64 0, .slice none 0 0, .slice none 0 0, .string ⟨#[]⟩, .int .i64 0, .int .i64 0, .int .i64 0, .slice none 0 0, .slice none 0 0, .string ⟨#[]⟩] := by
  have e := cel_empty w S
  have n := fun x => Cel.mk_num (w := w) (S := S) x
  have r := cel_nil w S [.num]
  exact Cels.mk (n 0) (Cels.mk (n 0) (Cels.mk (n v) (Cels.mk (n 0) (Cels.mk (n 0) (Cels.mk (n 0) (Cels.mk r (Cels.mk r (Cels.mk e (Cels.mk (n 0) (Cels.mk (n 0) (Cels.mk (n 0) (Cels.mk r (Cels.mk r (Cels.mk e Cels.mk0))))))))))))))
end

set_option maxHeartbeats 3200000 in
theorem awake_any (w : World) :
    Calls Try.prog 16 #[] w fun e w' => e = .returned (.bool true) ∧ Below w.heap.size w w' := by
  have C1 := Lib.hid (wput_Op (opA 4 7) _ w (cels_op w _ 4 7) b97_le)
  rw [b97_st] at C1
  go_enter Try.func16, Try.ntmps16
  go_wp2_with fail
  refine (unhide C1).mono ?_
  rintro e w1 ⟨⟨A, n, c, rfl, hn, hcap, hR⟩, hK⟩
  have ho : out (b97, 0) = b97 := rfl
  rw [ho] at hn hR
  rw [b97_len] at hn
  subst hn
  obtain ⟨ad, rfl, hab, hcell⟩ := hR.2 (by decide)
  have hk0 : w1.cell? ad = some (.int .u8 4) := by have := hcell 0 _ b97_0; simpa [Addr.add] using this
  have hk93 : w1.cell? ⟨ad.block, ad.off + 93, none⟩ = some (.int .u8 7) := by have := hcell 93 _ b97_93; simpa [Addr.add] using this
  have HR := Lib.hid hR
  have HK := Lib.hid hK
  clear C1 hcell hR hK ho
  go_wp2_with fail
  refine (wget_Op _ _ _ b97 w1 HR.out hcap.1 ⟨by decide, hcap.2⟩).mono ?_
  rintro e w2 ⟨hG, hK2⟩
  rcases hG with ⟨ds, vs, hds, rfl, hC⟩ | ⟨hno, rfl⟩
  rotate_left
  · exact absurd b97_rd (hno _)
  rw [b97_rd] at hds
  injection hds with hds
  injection hds with hds _
  subst hds
  replace hC : Cels w2 (InT w2 [150, 9]) shOp (opA 4 7) vs := hC
  have hlen : vs.length = 23 := hC.len.2
  have h1V : Hid (vs.toArray.all (·.oneCell') = true) := Lib.hid (all_oneCell_toArray hC.oneCell)
  have hf0 : vs[0]? = some (.int .i64 4) := by
    obtain ⟨_, _, v, vs', h1, rfl, h2, _⟩ := hC.cons
    injection h1 with h1
    subst h1
    obtain ⟨n, h3, rfl⟩ := h2.num
    injection h3 with h3
    subst h3
    rfl
  have hf22 : vs[22]? = some (.int .i64 7) := by
    obtain ⟨d1, d2, v1, v2, h1, rfl, h2, h3⟩ := Cels.split (l := [.num, .num, .num, .num, .text, .text, .text, .text, .text, .rows shColumn, .text, .num, .rows [.text], .whole, .whole, .text, .text, .text, .num, .flag, .num, .num]) (l' := [.num]) hC
    obtain ⟨d, ds', v, vs', rfl, rfl, h4, h5⟩ := h3.cons
    obtain ⟨rfl, rfl⟩ := h5.nil
    obtain ⟨n, rfl, rfl⟩ := h4.num
    have hl1 := h2.len
    have hd : (opA 4 7)[22]? = some (.int n) := by
      rw [h1, List.getElem?_append_right (by rw [hl1.1]; decide), hl1.1]
      rfl
    have hn : n = 7 := by
      have e : (opA 4 7)[22]? = some (.int 7) := rfl
      rw [e] at hd
      injection hd with hd
      injection hd with hd
      exact hd.symm
    subst hn
    rw [List.getElem?_append_right (by rw [hl1.2]; decide), hl1.2]
    rfl
  have HB2 := Lib.hid (HK.out.trans (hK2.mono HK.out.size))
  have HX := Lib.hid (Blk.new w2 51 [.int .i64 0, .int .i64 0, .int .i64 0, .int .i64 0, .string ⟨#[]⟩, .string ⟨#[]⟩, .string ⟨#[]⟩, .string ⟨#[]⟩, .string ⟨#[]⟩, .slice none 0 0, .string ⟨#[]⟩, .int .i64 0, .slice none 0 0, .int .i64 0, .int .i64 0, .string ⟨#[]⟩, .string ⟨#[]⟩, .string ⟨#[]⟩, .int .i64 0, .bool false, .int .i64 0, .int .i64 0, .int .i64 0])
  have HTE : Hid (World.there (w2.alloc (.cells #[.int .i64 0, .int .i64 0, .int .i64 0, .int .i64 0, .string ⟨#[]⟩, .string ⟨#[]⟩, .string ⟨#[]⟩, .string ⟨#[]⟩, .string ⟨#[]⟩, .slice none 0 0, .string ⟨#[]⟩, .int .i64 0, .slice none 0 0, .int .i64 0, .int .i64 0, .string ⟨#[]⟩, .string ⟨#[]⟩, .string ⟨#[]⟩, .int .i64 0, .bool false, .int .i64 0, .int .i64 0, .int .i64 0] 51)) w2.heap.size 0 vs.toArray.size) := Lib.hid (HX.out.there 0 _ (by simp [hlen]))
  have hsV : Hid ((Try.prog.info? 51).map (·.size) = some vs.toArray.size) := Lib.hid (by rw [List.size_toArray, hlen]; kernel_rfl)
  have HX2 := Lib.hid (HX.out.setCells0 vs hlen.symm)
  have HF0 := Lib.hid hf0
  have HF22 := Lib.hid hf22
  clear hC hlen hf0 hf22 hK2 HR hk0 hk93 hcap hab
  go_wp2_with (with_reducible refine wpList_store_mid rfl 51 _ _ rfl w2.heap.size 0 vs.toArray rfl rfl HTE.out hsV.out h1V.out ?_)
  have hx0 : ((w2.alloc (.cells #[.int .i64 0, .int .i64 0, .int .i64 0, .int .i64 0, .string ⟨#[]⟩, .string ⟨#[]⟩, .string ⟨#[]⟩, .string ⟨#[]⟩, .string ⟨#[]⟩, .slice none 0 0, .string ⟨#[]⟩, .int .i64 0, .slice none 0 0, .int .i64 0, .int .i64 0, .string ⟨#[]⟩, .string ⟨#[]⟩, .string ⟨#[]⟩, .int .i64 0, .bool false, .int .i64 0, .int .i64 0, .int .i64 0] 51)).setCells w2.heap.size 0 vs).cell? ⟨w2.heap.size, 0, none⟩ = some (.int .i64 4) := (HX2.out.cell 0).trans HF0.out
  have hx22 : ((w2.alloc (.cells #[.int .i64 0, .int .i64 0, .int .i64 0, .int .i64 0, .string ⟨#[]⟩, .string ⟨#[]⟩, .string ⟨#[]⟩, .string ⟨#[]⟩, .string ⟨#[]⟩, .slice none 0 0, .string ⟨#[]⟩, .int .i64 0, .slice none 0 0, .int .i64 0, .int .i64 0, .string ⟨#[]⟩, .string ⟨#[]⟩, .string ⟨#[]⟩, .int .i64 0, .bool false, .int .i64 0, .int .i64 0, .int .i64 0] 51)).setCells w2.heap.size 0 vs).cell? ⟨w2.heap.size, 22, none⟩ = some (.int .i64 7) := (HX2.out.cell 22).trans HF22.out
  have HB3 : Hid (Below w2.heap.size w2 ((w2.alloc (.cells #[.int .i64 0, .int .i64 0, .int .i64 0, .int .i64 0, .string ⟨#[]⟩, .string ⟨#[]⟩, .string ⟨#[]⟩, .string ⟨#[]⟩, .string ⟨#[]⟩, .slice none 0 0, .string ⟨#[]⟩, .int .i64 0, .slice none 0 0, .int .i64 0, .int .i64 0, .string ⟨#[]⟩, .string ⟨#[]⟩, .string ⟨#[]⟩, .int .i64 0, .bool false, .int .i64 0, .int .i64 0, .int .i64 0] 51)).setCells w2.heap.size 0 vs)) := Lib.hid (((Below.refl _ _).alloc (Nat.le_refl _) _).trans (below_setCells_ (Nat.le_refl _) 0 vs))
  have hs3 := HB3.out.size
  refine (wget_Op none 0 0 [] _ (by simpa [u8s] using Reads.none_) (Nat.le_refl _) ⟨by decide, by decide⟩).mono ?_
  rintro e w4 ⟨hG, hK4⟩
  rcases hG with ⟨ds, vs', hds, _⟩ | ⟨_, rfl⟩
  · rw [nil_rd] at hds; cases hds
  have HB4 : Hid (Below w2.heap.size w2 w4) := Lib.hid (HB3.out.trans (hK4.mono hs3))
  have HX4 := Lib.hid (HX2.out.below hK4 HX2.out.lt)
  have hy0 : w4.cell? ⟨w2.heap.size, 0, none⟩ = some (.int .i64 4) := (HX4.out.cell 0).trans HF0.out
  have hy22 : w4.cell? ⟨w2.heap.size, 22, none⟩ = some (.int .i64 7) := (HX4.out.cell 22).trans HF22.out
  have hs4 := HB4.out.size
  have HZ := Lib.hid (Blk.new w4 51 [.int .i64 0, .int .i64 0, .int .i64 0, .int .i64 0, .string ⟨#[]⟩, .string ⟨#[]⟩, .string ⟨#[]⟩, .string ⟨#[]⟩, .string ⟨#[]⟩, .slice none 0 0, .string ⟨#[]⟩, .int .i64 0, .slice none 0 0, .int .i64 0, .int .i64 0, .string ⟨#[]⟩, .string ⟨#[]⟩, .string ⟨#[]⟩, .int .i64 0, .bool false, .int .i64 0, .int .i64 0, .int .i64 0])
  have HTE4 : Hid (World.there (w4.alloc (.cells #[.int .i64 0, .int .i64 0, .int .i64 0, .int .i64 0, .string ⟨#[]⟩, .string ⟨#[]⟩, .string ⟨#[]⟩, .string ⟨#[]⟩, .string ⟨#[]⟩, .slice none 0 0, .string ⟨#[]⟩, .int .i64 0, .slice none 0 0, .int .i64 0, .int .i64 0, .string ⟨#[]⟩, .string ⟨#[]⟩, .string ⟨#[]⟩, .int .i64 0, .bool false, .int .i64 0, .int .i64 0, .int .i64 0] 51)) w4.heap.size 0 (List.toArray ([.int .i64 0, .int .i64 0, .int .i64 0, .int .i64 0, .string ⟨#[]⟩, .string ⟨#[]⟩, .string ⟨#[]⟩, .string ⟨#[]⟩, .string ⟨#[]⟩, .slice none 0 0, .string ⟨#[]⟩, .int .i64 0, .slice none 0 0, .int .i64 0, .int .i64 0, .string ⟨#[]⟩, .string ⟨#[]⟩, .string ⟨#[]⟩, .int .i64 0, .bool false, .int .i64 0, .int .i64 0, .int .i64 0] : List Value)).size) := Lib.hid (HZ.out.there 0 _ (by simp))
  have hsV4 : Hid ((Try.prog.info? 51).map (·.size) = some (List.toArray ([.int .i64 0, .int .i64 0, .int .i64 0, .int .i64 0, .string ⟨#[]⟩, .string ⟨#[]⟩, .string ⟨#[]⟩, .string ⟨#[]⟩, .string ⟨#[]⟩, .slice none 0 0, .string ⟨#[]⟩, .int .i64 0, .slice none 0 0, .int .i64 0, .int .i64 0, .string ⟨#[]⟩, .string ⟨#[]⟩, .string ⟨#[]⟩, .int .i64 0, .bool false, .int .i64 0, .int .i64 0, .int .i64 0] : List Value)).size) := Lib.hid (by kernel_rfl)
  have h1V4 : Hid ((List.toArray ([.int .i64 0, .int .i64 0, .int .i64 0, .int .i64 0, .string ⟨#[]⟩, .string ⟨#[]⟩, .string ⟨#[]⟩, .string ⟨#[]⟩, .string ⟨#[]⟩, .slice none 0 0, .string ⟨#[]⟩, .int .i64 0, .slice none 0 0, .int .i64 0, .int .i64 0, .string ⟨#[]⟩, .string ⟨#[]⟩, .string ⟨#[]⟩, .int .i64 0, .bool false, .int .i64 0, .int .i64 0, .int .i64 0] : List Value)).all (·.oneCell') = true) := Lib.hid (all_oneCell_toArray (by simp [Value.oneCell']))
  clear HX HTE HX2 hx0 hx22 HB3 hs3 hK4
  go_wp2_with (with_reducible refine wpList_store_mid rfl 51 _ _ rfl w4.heap.size 0 (List.toArray ([.int .i64 0, .int .i64 0, .int .i64 0, .int .i64 0, .string ⟨#[]⟩, .string ⟨#[]⟩, .string ⟨#[]⟩, .string ⟨#[]⟩, .string ⟨#[]⟩, .slice none 0 0, .string ⟨#[]⟩, .int .i64 0, .slice none 0 0, .int .i64 0, .int .i64 0, .string ⟨#[]⟩, .string ⟨#[]⟩, .string ⟨#[]⟩, .int .i64 0, .bool false, .int .i64 0, .int .i64 0, .int .i64 0] : List Value)) rfl rfl HTE4.out hsV4.out h1V4.out ?_)
  have HB5 : Hid (Below w4.heap.size w4 ((w4.alloc (.cells #[.int .i64 0, .int .i64 0, .int .i64 0, .int .i64 0, .string ⟨#[]⟩, .string ⟨#[]⟩, .string ⟨#[]⟩, .string ⟨#[]⟩, .string ⟨#[]⟩, .slice none 0 0, .string ⟨#[]⟩, .int .i64 0, .slice none 0 0, .int .i64 0, .int .i64 0, .string ⟨#[]⟩, .string ⟨#[]⟩, .string ⟨#[]⟩, .int .i64 0, .bool false, .int .i64 0, .int .i64 0, .int .i64 0] 51)).setCells w4.heap.size 0 [.int .i64 0, .int .i64 0, .int .i64 0, .int .i64 0, .string ⟨#[]⟩, .string ⟨#[]⟩, .string ⟨#[]⟩, .string ⟨#[]⟩, .string ⟨#[]⟩, .slice none 0 0, .string ⟨#[]⟩, .int .i64 0, .slice none 0 0, .int .i64 0, .int .i64 0, .string ⟨#[]⟩, .string ⟨#[]⟩, .string ⟨#[]⟩, .int .i64 0, .bool false, .int .i64 0, .int .i64 0, .int .i64 0])) := Lib.hid (((Below.refl _ _).alloc (Nat.le_refl _) _).trans (below_setCells_ (Nat.le_refl _) 0 _))
  have hs5 := HB5.out.size
  have HX5 := Lib.hid (HX4.out.below HB5.out HX4.out.lt)
  refine (wput_Record (recA (-1)) _ _ (cels_rec _ _ (-1)) rec_len).mono ?_
  rintro e w6 ⟨⟨A6, n6, c6, rfl, _, _, _⟩, hK6⟩
  have HX6 := Lib.hid (HX5.out.below hK6 HX5.out.lt)
  have hz0 : w6.cell? ⟨w2.heap.size, 0, none⟩ = some (.int .i64 4) := (HX6.out.cell 0).trans HF0.out
  have hz22 : w6.cell? ⟨w2.heap.size, 22, none⟩ = some (.int .i64 7) := (HX6.out.cell 22).trans HF22.out
  have HB6 : Hid (Below w.heap.size w w6) := Lib.hid (HB2.out.trans ((HB4.out.trans ((HB5.out.mono hs4).trans (hK6.mono (by omega)))).mono HB2.out.size))
  rw [rec_st]
  clear HZ HTE4 HX4 HX5 HX6 hK6 HB5
  go_wp2
  go_ret
  exact ⟨rfl, HB6.out⟩
end Go.Proofs.Yteohhgkehkmgcaa
