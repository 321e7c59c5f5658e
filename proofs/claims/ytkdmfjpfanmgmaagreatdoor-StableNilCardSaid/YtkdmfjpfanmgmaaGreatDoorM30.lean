/- Joined by mkmerge.py from the proof's texts Disk11, Disk12. Conditions: each theorem's own hypotheses. -/
import Derived.Test.YtkdmfjpfanmgmaaGreatDoorM29
import Derived.Shelf.SlMaps.Clone
namespace Go.Proofs
open Go.Shelf
def Tryz.cloneFiles_ren : Go.Shelf.Ren := ⟨fun | 5 => 46 | 7 => 84 | n => n, fun | 23 => 77 | 25 => 9 | 3 => 72 | 4 => 4 | 20 => 20 | n => n, fun | n => n⟩
theorem Tryz.cloneFiles : Go.Proofs.SlLaysW.n5 Tryz.prog Tryz.cloneFiles_ren := {
 mixed := by kernel_rfl
 f5 := ⟨Tryz.f46.name, by decide, Tryz.func46.trans (congrArg some (by kernel_rfl))⟩
 f7 := Tryz.func84.trans (congrArg some (by kernel_rfl))
 t4 := Tryz.underlying4
 a4 := Tryz.isAgg4
 z4 := Tryz.sizeOf4
 v4 := Tryz.zeroValue4
 t20 := Tryz.underlying20
 a20 := Tryz.isAgg20
 z20 := Tryz.sizeOf20
 v20 := Tryz.zeroValue20
 t23 := Tryz.underlying77
 a23 := Tryz.isAgg77
 z23 := Tryz.sizeOf77
 v23 := Tryz.zeroValue77 }
end Go.Proofs
namespace Go.Proofs.YtkdmfjpfanmgmaaGreatDoor
open Go.RowKit Le Go.Maps
set_option maxRecDepth 100000
set_option linter.unusedSimpArgs false
set_option linter.unusedVariables false
set_option maxHeartbeats 800000 in
theorem cloneF_any {w : World} {base b : Nat} {F : FM} (h : FilesAt w base b F) (hbw : base ≤ w.heap.size) :
    Calls Tryz.prog 46 #[.map (some b)] w fun e w' => e = .returned (.map (some w.heap.size)) ∧ FilesAt w' base w.heap.size F ∧ Below w.heap.size w w' := by
  obtain ⟨hge, hon, D, hown, hz, h0, h1⟩ := h
  have hcon := AnyW.maps_Clone_owns Tryz.cloneFiles 9 heldR b F.length D w hown
  change Calls Tryz.prog 46 _ _ _ at hcon
  refine hcon.mono ?_
  rintro e w' ⟨rfl, h2, _, hb⟩
  refine ⟨rfl, ⟨hbw, hon, D, h2, hz, h0, fun k l hk => ?_⟩, hb⟩
  obtain ⟨h3, A, c, h4, h5, h6, h7⟩ := h1 k l hk
  exact ⟨h3, A, c, h4, h5, h6, h7.same (SameC.of_below hb)⟩
end Go.Proofs.YtkdmfjpfanmgmaaGreatDoor
namespace Go.Proofs.YtkdmfjpfanmgmaaGreatDoor
open Go.RowKit Le Go.Maps
set_option maxRecDepth 100000
set_option linter.unusedSimpArgs false
set_option linter.unusedVariables false
set_option maxHeartbeats 1600000 in
theorem Crash_any {w : World} {base d : Nat} {lasts now : FM} {cs : List Chg} (h : DiskAt w base d lasts now cs) (hbw : base ≤ w.heap.size) (hcs : cs.length ≤ 1000) :
    Calls Tryz.prog 24 #[.pointer (some ⟨d, 0, none⟩), .slice none 0 0, .int .i64 0] w fun e w' => e = .returned (.int .i64 0) ∧ DiskTo w w' base d lasts lasts [] := by
  have hge := h.ge
  obtain ⟨m1, m2, C, cap, xs, g1, g2, g3, g4, g5, g6⟩ := h.blk
  have HG := Lib.hid g1
  have HF1 := Lib.hid g3
  have HO := Lib.hid g5
  have HC := Lib.hid g6
  have b3 : w.cell? ⟨d, 3, none⟩ = some (.slice C cs.length cap) := g1.cell 3
  have HI : Hid ((Tryz.prog.info? 106).map (·.size) = some 5) := Lib.hid (by kernel_rfl)
  clear g1 g3 g4 g5 g6 h
  go_enter Tryz.func24, Tryz.ntmps24
  go_wp2_with fail
  go_loopw [7, 21] (fun kp i wr => ∃ j : Nat, j ≤ cs.length ∧ kp = .slice none 0 0 ∧ i = .int .i64 j ∧ Hid (Below w.heap.size w wr)) (fun _ i _ => cs.length - (intOf i).toNat)
  case atStart => exact ⟨0, Nat.zero_le _, rfl, rfl, Lib.hid (Below.refl _ _)⟩
  case round =>
    obtain ⟨j, hj, rfl, rfl, HBw⟩ := hrel
    have hwr := HBw.out.size
    by_cases hlt : j < cs.length
    · obtain ⟨g, vs, rfl, hg, hr, hca⟩ := chg_at (HO.out.below_ HBw.out) (HC.out.same (SameC.of_below HBw.out)) hlt
      have hlen := hca.len
      have h1c : ∀ v ∈ vs, v.oneCell' = true := by
        obtain ⟨fn, cp, n, A, m, k, l, rfl⟩ := hca.shape
        simp [Value.oneCell']
      have HL : Hid ((Tryz.prog.info? 106).map (·.size) = some vs.length) := Lib.hid (by rw [hca.len]; exact HI.out)
      have HGR := Lib.hid hr
      have HZ := Lib.hid (Blk.new wr 106 [.string ⟨#[]⟩, .nilFunc, .int .i64 0, .slice none 0 0, .bool false])
      clear hca hr
      go_wp2_with (first
        | (with_reducible refine wpList_load_mid rfl 106 _ rfl g (j * 5) rfl vs _ HGR.out Tryz.underlying106 rfl HL.out ?_)
        | ((with_reducible refine wpList_store_blk rfl 106 _ _ rfl wr.heap.size vs rfl rfl HZ (by simp) hlen HI h1c ?_)
           intro w2 H2
           have HBD : Hid (Below w.heap.size w w2) := Lib.hid (HBw.out.trans ((H2.out.below ((Below.refl wr.heap.size wr).alloc (Nat.le_refl _) _) (Nat.le_refl _)).mono hwr)))
        | fail)
      go_roundw
      case rel => exact ⟨j + 1, by omega, rfl, by go_num, HBD⟩
      case measure => simp [intOf]; omega
    · obtain rfl : j = cs.length := by omega
      have HGr := Lib.hid (HG.out.below HBw.out HG.out.lt)
      have HFr := Lib.hid (HF1.out.same (SameD.of_below HBw.out))
      have q1 : wr.cell? ⟨d, 1, none⟩ = some (.map (some m1)) := HGr.out.cell 1
      clear b3
      have HKr : Hid (Keeps [80, 106] w wr) := Lib.hid (Keeps.of_below HBw.out (Nat.le_refl _))
      go_wp2_with fail
      go_loopw [90] (fun i ws => i = .int .i64 0 ∧ Hid (ws = wr)) (fun _ _ => 0)
      case atStart => exact ⟨rfl, Lib.hid rfl⟩
      case round =>
        obtain ⟨rfl, hws⟩ := hrel
        have hws' := hws.out
        subst hws'
        go_wp2_with fail
        refine (cloneF_any HFr.out (Nat.le_trans hbw hwr)).mono ?_
        rintro e w3 ⟨rfl, h5, h6⟩
        have HG3 := Lib.hid (HGr.out.below h6 HGr.out.lt)
        have HN3 := Lib.hid h5
        have HL3 := Lib.hid (HFr.out.same (SameD.of_below h6))
        have HB3 := Lib.hid (HBw.out.trans (h6.mono hwr))
        have hm1 := HF1.out.lt
        clear h5 h6 q1
        have f2 : w3.frozen? ⟨d, 2, none⟩ = false := HG3.out.frozen 2
        have f3 : w3.frozen? ⟨d, 3, none⟩ = false := HG3.out.frozen 3
        have f4 : w3.frozen? ⟨d, 4, none⟩ = false := HG3.out.frozen 4
        have f5 : w3.frozen? ⟨d, 5, none⟩ = false := HG3.out.frozen 5
        have q2 : w3.cell? ⟨d, 2, none⟩ = some (.map (some m2)) := HG3.out.cell 2
        have q3 : w3.cell? ⟨d, 3, none⟩ = some (.slice C cs.length cap) := HG3.out.cell 3
        have q4 : w3.cell? ⟨d, 4, none⟩ = some (.bool false) := HG3.out.cell 4
        have q5 : w3.cell? ⟨d, 5, none⟩ = some (.bool false) := HG3.out.cell 5
        go_wp2_with fail
        go_ret
        have B1 := HG3.out.set_ 2 (.map (some wr.heap.size))
        have B2 := B1.set_ 3 (.slice none 0 0)
        have B3 := B2.set_ 4 (.bool false)
        have B4 := B3.set_ 5 (.bool false)
        have K4 : Keeps [80, 106] w3 ((((w3.setCell ⟨d, 2, none⟩ (.map (some wr.heap.size))).setCell ⟨d, 3, none⟩ (.slice none 0 0)).setCell ⟨d, 4, none⟩ (.bool false)).setCell ⟨d, 5, none⟩ (.bool false)) :=
          ((((Keeps.refl _ _).step HG3.out.typ (by simp)).step B1.typ (by simp)).step B2.typ (by simp)).step B3.typ (by simp)
        have M4 : KeepM w3 ((((w3.setCell ⟨d, 2, none⟩ (.map (some wr.heap.size))).setCell ⟨d, 3, none⟩ (.slice none 0 0)).setCell ⟨d, 4, none⟩ (.bool false)).setCell ⟨d, 5, none⟩ (.bool false)) :=
          (((KeepM.set HG3.out.typ _).trans (KeepM.set B1.typ _)).trans (KeepM.set B2.typ _)).trans (KeepM.set B3.typ _)
        refine ⟨rfl, ⟨hge, m1, wr.heap.size, none, 0, [], by simpa using B4, by omega, HL3.out.keep (SameC.of_keeps K4) M4, HN3.out.keep (SameC.of_keeps K4) M4, World.ownsRow_nil _ _ _ _, rfl⟩, ?_, ?_⟩
        · exact ((((HB3.out.mono hbw).setCell hge _).setCell hge _).setCell hge _).setCell hge _
        · exact (Keeps.of_below HB3.out (Nat.le_refl _)).trans K4
end Go.Proofs.YtkdmfjpfanmgmaaGreatDoor
