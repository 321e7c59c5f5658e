/- Joined by mkmerge.py from the proof's texts Stb15, Stb16. Conditions: each theorem's own hypotheses. -/
import Derived.Test.YtkdmfjpfanmgmaaGreatDoorM48
import Derived.Test.YtkdmfjpfanmgmaaGreatDoorM49
namespace Go.Proofs.YtkdmfjpfanmgmaaGreatDoor
open Go.RowKit Le Go.Maps
set_option maxRecDepth 100000
set_option linter.unusedSimpArgs false
set_option linter.unusedVariables false
set_option maxHeartbeats 6400000 in
theorem awake_any {w : World} (hT : Tab w) (hN : NmAt w) : Calls Tryz.prog 6 #[] w fun e w' => e = .returned (.bool true) ∧ Below w.heap.size w w' := by
  have hTb : 3 < w.heap.size := hT.lt
  have HT := Lib.hid hT
  have HN := Lib.hid hN
  have HIK : Hid ((Tryz.prog.info? 38).map (·.size) = some 8) := Lib.hid (by kernel_rfl)
  clear hT hN
  go_enter Tryz.func6, Tryz.ntmps6
  go_wp2_with fail
  refine (fresh_any w).mono ?_
  rintro e w1 ⟨d, rfl, hd, hb1⟩
  have HD1 := Lib.hid hd
  have HB1 := Lib.hid hb1
  clear hd hb1
  go_wp2_with fail
  have hz1 := HB1.out.size
  have hop := sopen_fresh (w := w1) (s0 := (⟨[], [], []⟩ : DS)) (s1 := (⟨[], [], []⟩ : DS)) (s2 := (⟨[], [], []⟩ : DS)) (s4 := (⟨[((nmA ++ endL), (logB ssA))], [((nmA ++ endL), (logB ssA))], []⟩ : DS)) (sw := wrS (nmA ++ endM) 0 (frameOf (low (logB ssA).length 4)) (⟨[((nmA ++ endL), (logB ssA))], [((nmA ++ endL), (logB ssA))], []⟩ : DS)) (s5 := (⟨[((nmA ++ endM), (frameOf (low (logB ssA).length 4))), ((nmA ++ endL), (logB ssA))], [((nmA ++ endM), (frameOf (low (logB ssA).length 4))), ((nmA ++ endL), (logB ssA))], []⟩ : DS)) HD1.out hz1 (HT.out.below HB1.out hTb) (HN.out.below HB1.out (by omega)) hTb (fun _ _ => ⟨rfl, rfl⟩) rok_z ssA ssA_eq t1 t2 small0 small0 small0 rfl rfl (fit_of (s := (⟨[], [], []⟩ : DS)) rfl lenA (by decide) (by decide) (by decide) (by decide)) t3 smalD2 (by decide) (by simp [FM.put, FM.del, FM.get, nmA, nmB, endL, endM]) rfl smallw2 t4
  refine hop.mono ?_
  clear hop
  rintro e w2 ⟨s, j, rfl, hs, hj, hd2, hb2, hj2, hbel2, hk2⟩
  have HA2 : Hid (AwSt w w2 w.heap.size d s j Kep.zero (logB ssA).length 12 (logB ssA).length ssA.length ssA.length (⟨[((nmA ++ endM), (frameOf (low (logB ssA).length 4))), ((nmA ++ endL), (logB ssA))], [((nmA ++ endM), (frameOf (low (logB ssA).length 4))), ((nmA ++ endL), (logB ssA))], []⟩ : DS)) := Lib.hid ⟨hd2, ⟨none, 0, none, 0, none, 0, hb2, ⟨RowsAt.nil, RowsAt.nil, RowsAt.nil⟩⟩, hj2, Nat.le_refl _, hs, hj, HB1.out.trans hbel2⟩
  clear hs hj hd2 hb2 hj2 hbel2 hk2 HD1 HB1 hz1
  go_wp2_with fail
  refine at_world _ fun W3 hW3 => ?_
  have HA3 := Lib.hid (HA2.out.below (show Below w2.heap.size w2 W3 from by rw [hW3]; exact (Below.refl _ _).alloc (Nat.le_refl _) _))
  clear hW3 HA2
  have hsm : Calls Tryz.prog 7 #[.agg #[.int .i64 0, .int .i64 0, .int .i64 0, .int .i64 0, .slice none 0 0, .slice none 0 0, .string ⟨#[]⟩, .slice none 0 0], .agg #[.int .i64 0, .int .i64 0, .int .i64 0, .int .i64 0, .slice none 0 0, .slice none 0 0, .string ⟨#[]⟩, .slice none 0 0]] W3 (TestEnd W3 (decide (Kep.zero = Kep.zero))) := Same_any Kep.zero Kep.zero none 0 none 0 none 0 none 0 none 0 none 0 W3 ⟨RowsAt.nil, RowsAt.nil, RowsAt.nil⟩ ⟨RowsAt.nil, RowsAt.nil, RowsAt.nil⟩ sm0 sm0
  refine hsm.mono ?_
  clear hsm
  rw [show decide (Kep.zero = Kep.zero) = true from by decide]
  rintro e w4 ⟨rfl, hb4⟩
  have HA4 := Lib.hid (HA3.out.below hb4)
  clear hb4 HA3
  go_wp2_with fail
  refine (lvote_any w4).mono ?_
  rintro e w5 ⟨rfl, hb5⟩
  have HA5 := Lib.hid (HA4.out.below hb5)
  clear hb5 HA4
  go_wp2_with fail
  have hsv : Calls Tryz.prog 8 #[(.pointer (some ⟨s, 0, none⟩)), .agg #[.int .i64 1, .int .i64 2, .int .i64 1, .int .i64 0, .int .i64 0, .int .i64 0, .slice none 0 0, .slice none 0 0, .string ⟨#[]⟩, .int .i64 0, .int .i64 0, .int .i64 0, .slice none 0 0, .slice none 0 0, .string ⟨#[]⟩]] w5 _ := aw_save (r := Rcd.ofVote 2 1) (k' := (⟨2, 1, .zero, []⟩ : Kep)) HA5.out HT.out hTb sm0 ok0 ok_v1 fo1 fit3 (by decide)
  refine hsv.mono ?_
  clear hsv
  rintro e w6 ⟨rfl, ha6⟩
  have HA6 := Lib.hid ha6
  clear ha6 HA5
  go_wp2_with fail
  refine (lentry_any 1 w6).mono ?_
  rintro e w7 ⟨rfl, hb7⟩
  have HA7 := Lib.hid (HA6.out.below hb7)
  clear hb7 HA6
  go_wp2_with fail
  have hsv : Calls Tryz.prog 8 #[(.pointer (some ⟨s, 0, none⟩)), .agg #[.int .i64 2, .int .i64 0, .int .i64 0, .int .i64 1, .int .i64 2, .int .i64 1, .slice none 0 0, .slice none 0 0, .string ⟨#[]⟩, .int .i64 0, .int .i64 0, .int .i64 0, .slice none 0 0, .slice none 0 0, .string ⟨#[]⟩]] w7 _ := aw_save (r := Rcd.ofEnt e1) (k' := kF) HA7.out HT.out hTb sm1 ok1 ok_e1 fo2 fit4 (by decide)
  refine hsv.mono ?_
  clear hsv
  rintro e w8 ⟨rfl, ha8⟩
  rw [lenAB] at ha8
  have HA8 : Hid (AwSt w w8 w.heap.size d s j kF (logB ssB).length 12 (logB ssA).length 5 3 (wrS (nmA ++ endL) ((logB ssA).length + (12 + (rcS (Rcd.ofVote 2 1)).length)) (frameOf (textB (rcS (Rcd.ofEnt e1)))) (wrS (nmA ++ endL) (logB ssA).length (frameOf (textB (rcS (Rcd.ofVote 2 1)))) (⟨[((nmA ++ endM), (frameOf (low (logB ssA).length 4))), ((nmA ++ endL), (logB ssA))], [((nmA ++ endM), (frameOf (low (logB ssA).length 4))), ((nmA ++ endL), (logB ssA))], []⟩ : DS)))) := Lib.hid ha8
  clear ha8 HA7
  go_wp2_with fail
  refine (lentry_any 3 w8).mono ?_
  rintro e w9 ⟨rfl, hb9⟩
  have HA9 := Lib.hid (HA8.out.below hb9)
  clear hb9 HA8
  go_wp2_with fail
  have hsv : Calls Tryz.prog 8 #[(.pointer (some ⟨s, 0, none⟩)), .agg #[.int .i64 2, .int .i64 0, .int .i64 0, .int .i64 3, .int .i64 2, .int .i64 1, .slice none 0 0, .slice none 0 0, .string ⟨#[]⟩, .int .i64 0, .int .i64 0, .int .i64 0, .slice none 0 0, .slice none 0 0, .string ⟨#[]⟩]] w9 _ := aw_save_no (r := Rcd.ofEnt (en 3)) (k' := .zero) (x := 140) HA9.out smF okF ok_e3 fo3 (by decide)
  refine hsv.mono ?_
  clear hsv
  rintro e w10 ⟨rfl, ha10⟩
  have HA10 := Lib.hid ha10
  clear ha10 HA9
  go_wp2_with fail
  refine (aw_sync (s1 := (⟨[((nmA ++ endL), (logB ssB)), ((nmA ++ endM), (frameOf (low (logB ssA).length 4)))], [((nmA ++ endL), (logB ssB)), ((nmA ++ endM), (frameOf (low (logB ssA).length 4)))], []⟩ : DS)) (sw := wrS (nmA ++ endM) 12 (frameOf (low (logB ssB).length 4)) (⟨[((nmA ++ endL), (logB ssB)), ((nmA ++ endM), (frameOf (low (logB ssA).length 4)))], [((nmA ++ endL), (logB ssB)), ((nmA ++ endM), (frameOf (low (logB ssA).length 4)))], []⟩ : DS)) (s2 := (⟨[((nmA ++ endM), ((frameOf (low (logB ssA).length 4)) ++ (frameOf (low (logB ssB).length 4)))), ((nmA ++ endL), (logB ssB))], [((nmA ++ endM), ((frameOf (low (logB ssA).length 4)) ++ (frameOf (low (logB ssB).length 4)))), ((nmA ++ endL), (logB ssB))], []⟩ : DS)) HA10.out HT.out hTb t5 rfl t6 small5 small6 (by decide) smallw6 (by simp [FM.put, FM.del, FM.get, nmA, nmB, endL, endM]) (by rw [← lenAB]; omega) (by have := lnB; omega)).mono ?_
  rintro e w11 ⟨rfl, ha11⟩
  have HA11 := Lib.hid ha11
  clear ha11 HA10
  go_wp2_with fail
  refine (Crash_any HA11.out.at_ HA11.out.size (by decide)).mono ?_
  rintro e w12 ⟨rfl, hdt⟩
  have HD12 : Hid (DiskAt w12 w.heap.size d [((nmA ++ endM), ((frameOf (low (logB ssA).length 4)) ++ (frameOf (low (logB ssB).length 4)))), ((nmA ++ endL), (logB ssB))] [((nmA ++ endM), ((frameOf (low (logB ssA).length 4)) ++ (frameOf (low (logB ssB).length 4)))), ((nmA ++ endL), (logB ssB))] []) := Lib.hid hdt.at_
  have HB12 := Lib.hid (HA11.out.bel.trans hdt.bel)
  clear hdt HA11
  go_wp2_with fail
  have hop := sopen_again (w := w12) (s0 := (⟨[((nmA ++ endM), ((frameOf (low (logB ssA).length 4)) ++ (frameOf (low (logB ssB).length 4)))), ((nmA ++ endL), (logB ssB))], [((nmA ++ endM), ((frameOf (low (logB ssA).length 4)) ++ (frameOf (low (logB ssB).length 4)))), ((nmA ++ endL), (logB ssB))], []⟩ : DS)) (ns := [(logB ssA).length, (logB ssB).length]) HD12.out HB12.out.size (HT.out.below HB12.out hTb) (HN.out.below HB12.out (by omega)) hTb small7 (by simp [FM.put, FM.del, FM.get, nmA, nmB, endL, endM]) (by rw [← mkB1]; simp [FM.put, FM.del, FM.get, nmA, nmB, endL, endM]) (by have := lnA; have := lnB; intro n hn; simp at hn; rcases hn with rfl | rfl <;> omega) rfl rfl lenB (by simp [FM.put, FM.del, FM.get, nmA, nmB, endL, endM]) (by simp [FM.put, FM.del, FM.get, nmA, nmB, endL, endM])
  refine hop.mono ?_
  clear hop
  rintro e w13 ⟨s2, j2, A2, c2, B2, d2, E2, n2, A3, c3, B3, d3, E3, m3, rfl, _, hs2, hj2, hd13, hb13, hk13, hjb13, hbel13, _⟩
  have HA13 : Hid (AwSt w w13 w.heap.size d s2 j2 kF (logB ssB).length (markB [(logB ssA).length, (logB ssB).length]).length (logB ssB).length 5 5 (⟨[((nmA ++ endM), ((frameOf (low (logB ssA).length 4)) ++ (frameOf (low (logB ssB).length 4)))), ((nmA ++ endL), (logB ssB))], [((nmA ++ endM), ((frameOf (low (logB ssA).length 4)) ++ (frameOf (low (logB ssB).length 4)))), ((nmA ++ endL), (logB ssB))], []⟩ : DS)) := Lib.hid ⟨hd13, ⟨A3, c3, B3, d3, E3, m3, hb13, hk13⟩, hjb13, Nat.le_refl _, hs2, hj2, HB12.out.trans hbel13⟩
  clear hs2 hj2 hd13 hb13 hk13 hjb13 hbel13 HD12 HB12
  go_wp2_with fail
  refine at_world _ fun W14 hW14 => ?_
  have HA14 := Lib.hid (HA13.out.below (show Below w13.heap.size w13 W14 from by rw [hW14]; exact (Below.refl _ _).alloc (Nat.le_refl _) _))
  have HM14 : Hid (Blk W14 w13.heap.size 38 [.int .i64 2, .int .i64 1, .int .i64 0, .int .i64 0, .slice A2 0 c2, .slice B2 0 d2, .string ⟨#[]⟩, .slice E2 1 n2]) := Lib.hid (by rw [hW14]; exact Blk.new w13 _ [.int .i64 2, .int .i64 1, .int .i64 0, .int .i64 0, .slice A2 0 c2, .slice B2 0 d2, .string ⟨#[]⟩, .slice E2 1 n2])
  clear hW14 HA13
  have hsv : Calls Tryz.prog 8 #[(.pointer (some ⟨s2, 0, none⟩)), .agg #[.int .i64 4, .int .i64 0, .int .i64 0, .int .i64 0, .int .i64 0, .int .i64 0, .slice none 0 0, .slice none 0 0, .string ⟨#[]⟩, .int .i64 0, .int .i64 1, .int .i64 2, .slice none 0 0, .slice none 0 0, .string ⟨#[]⟩]] W14 _ := aw_save (r := Rcd.ofSnp snE) (k' := kC) HA14.out HT.out hTb smF okF ok_sn fo4 fit7 (by decide)
  refine hsv.mono ?_
  clear hsv
  rintro e w15 ⟨rfl, ha15⟩
  rw [t9] at ha15
  have HA15 := Lib.hid ha15
  clear ha15 HA14 HM14
  go_wp2_with fail
  obtain ⟨A5, c5, B5, d5, E5, n5, h15, hk15⟩ := HA15.out.kep
  have HK15 := Lib.hid hk15
  have hcl := sclean_any (w := w15) (base := w.heap.size) (s := s2) (j0 := j2) (k := kC) (s0 := (⟨[((nmA ++ endM), ((frameOf (low (logB ssA).length 4)) ++ (frameOf (low (logB ssB).length 4)))), ((nmA ++ endL), (logB ssB))], [((nmA ++ endL), (logB ssC)), ((nmA ++ endM), ((frameOf (low (logB ssA).length 4)) ++ (frameOf (low (logB ssB).length 4))))], [Chg.wr (nmA ++ endL) (logB ssB).length (frameOf (textB (rcS (Rcd.ofSnp snE))))]⟩ : DS)) (s1 := (⟨[((nmA ++ endM), ((frameOf (low (logB ssA).length 4)) ++ (frameOf (low (logB ssB).length 4)))), ((nmA ++ endL), (logB ssB))], [((nmA ++ endL), (logB ssC)), ((nmA ++ endM), ((frameOf (low (logB ssA).length 4)) ++ (frameOf (low (logB ssB).length 4))))], [Chg.wr (nmA ++ endL) (logB ssB).length (frameOf (textB (rcS (Rcd.ofSnp snE))))]⟩ : DS)) (s2 := (⟨[((nmA ++ endM), ((frameOf (low (logB ssA).length 4)) ++ (frameOf (low (logB ssB).length 4)))), ((nmA ++ endL), (logB ssB))], [((nmA ++ endL), (logB ssC)), ((nmA ++ endM), ((frameOf (low (logB ssA).length 4)) ++ (frameOf (low (logB ssB).length 4))))], [Chg.wr (nmA ++ endL) (logB ssB).length (frameOf (textB (rcS (Rcd.ofSnp snE))))]⟩ : DS)) (s4 := (⟨[((nmB ++ endL), (logB ssD)), ((nmA ++ endM), ((frameOf (low (logB ssA).length 4)) ++ (frameOf (low (logB ssB).length 4)))), ((nmA ++ endL), (logB ssB))], [((nmB ++ endL), (logB ssD)), ((nmA ++ endL), (logB ssC)), ((nmA ++ endM), ((frameOf (low (logB ssA).length 4)) ++ (frameOf (low (logB ssB).length 4))))], [Chg.wr (nmA ++ endL) (logB ssB).length (frameOf (textB (rcS (Rcd.ofSnp snE))))]⟩ : DS)) (sw := wrS (nmB ++ endM) 0 (frameOf (low (logB ssD).length 4)) (⟨[((nmB ++ endL), (logB ssD)), ((nmA ++ endM), ((frameOf (low (logB ssA).length 4)) ++ (frameOf (low (logB ssB).length 4)))), ((nmA ++ endL), (logB ssB))], [((nmB ++ endL), (logB ssD)), ((nmA ++ endL), (logB ssC)), ((nmA ++ endM), ((frameOf (low (logB ssA).length 4)) ++ (frameOf (low (logB ssB).length 4))))], [Chg.wr (nmA ++ endL) (logB ssB).length (frameOf (textB (rcS (Rcd.ofSnp snE))))]⟩ : DS)) (s5 := (⟨[((nmB ++ endM), (frameOf (low (logB ssD).length 4))), ((nmB ++ endL), (logB ssD)), ((nmA ++ endM), ((frameOf (low (logB ssA).length 4)) ++ (frameOf (low (logB ssB).length 4)))), ((nmA ++ endL), (logB ssB))], [((nmB ++ endM), (frameOf (low (logB ssD).length 4))), ((nmB ++ endL), (logB ssD)), ((nmA ++ endL), (logB ssC)), ((nmA ++ endM), ((frameOf (low (logB ssA).length 4)) ++ (frameOf (low (logB ssB).length 4))))], [Chg.wr (nmA ++ endL) (logB ssB).length (frameOf (textB (rcS (Rcd.ofSnp snE))))]⟩ : DS)) (s6 := (⟨[((nmB ++ endM), (frameOf (low (logB ssD).length 4))), ((nmB ++ endL), (logB ssD)), ((nmA ++ endL), (logB ssB))], [((nmB ++ endM), (frameOf (low (logB ssD).length 4))), ((nmB ++ endL), (logB ssD)), ((nmA ++ endL), (logB ssC))], [Chg.wr (nmA ++ endL) (logB ssB).length (frameOf (textB (rcS (Rcd.ofSnp snE))))]⟩ : DS)) (s7 := (⟨[((nmB ++ endM), (frameOf (low (logB ssD).length 4))), ((nmB ++ endL), (logB ssD))], [((nmB ++ endM), (frameOf (low (logB ssD).length 4))), ((nmB ++ endL), (logB ssD))], []⟩ : DS)) HA15.out.at_ HA15.out.size (HT.out.below HA15.out.bel hTb) (HN.out.below HA15.out.bel (by omega)) hTb h15 HA15.out.gs ⟨rfl, rfl, rfl⟩ rok_C ssD ssD_eq t10 t11 small9 small9 small9 (by simp [FM.put, FM.del, FM.get, nmA, nmB, endL, endM]) (by simp [FM.put, FM.del, FM.get, nmA, nmB, endL, endM]) (fit_of (s := (⟨[((nmA ++ endM), ((frameOf (low (logB ssA).length 4)) ++ (frameOf (low (logB ssB).length 4)))), ((nmA ++ endL), (logB ssB))], [((nmA ++ endL), (logB ssC)), ((nmA ++ endM), ((frameOf (low (logB ssA).length 4)) ++ (frameOf (low (logB ssB).length 4))))], [Chg.wr (nmA ++ endL) (logB ssB).length (frameOf (textB (rcS (Rcd.ofSnp snE))))]⟩ : DS)) (by simp [FM.put, FM.del, FM.get, nmA, nmB, endL, endM]) lenD (by decide) (by decide) (by show FM.sum _ ≤ _; rw [sum1, m2_len]; have := lnC; omega) (by show (2 : Nat) ≤ 10; decide)) t12 small11 (by show (3 : Nat) ≤ 15; decide) (by simp [FM.put, FM.del, FM.get, nmA, nmB, endL, endM]) rfl smallw11 t13 t14 t15 small12 small13
  refine hcl.mono ?_
  clear hcl h15 hk15
  rintro e w16 ⟨rfl, ⟨j3, hs16⟩, hd16, hb16, hk16⟩
  have hka16 : KepAt w16 (· < w16.heap.size) kC A5 B5 E5 := (kep_nw_keeps HK15.out hk16 (by decide)).nw_lt
  have HB16 := Lib.hid (HA15.out.bel.trans hb16)
  have hkp := skept_any (d := d) (j := j3) (at0 := 1) (gen0 := 2) (k := kC) hs16 hka16 smC
  have HKP := Lib.hid hkp
  clear hs16 hd16 hb16 hk16 hka16 hkp HK15 HA15
  go_wp2_with fail
  refine HKP.out.mono ?_
  rintro e w17 ⟨A6, c6, B6, d6, E6, n6, rfl, _, hb17⟩
  have HB17 := Lib.hid (HB16.out.trans (hb17.mono HB16.out.size))
  rw [show (#[.int .i64 kC.term, .int .i64 kC.vote, .int .i64 kC.snp.idx, .int .i64 kC.snp.term, .slice A6 kC.snp.v.length c6, .slice B6 kC.snp.l.length d6, .string (text kC.snp.b), .slice E6 kC.ents.length n6] : Array Value) = #[.int .i64 2, .int .i64 1, .int .i64 1, .int .i64 2, .slice A6 0 c6, .slice B6 0 d6, .string ⟨#[]⟩, .slice E6 0 n6] from rfl]
  have hz17 := HB17.out.size
  clear hb17 HB16 HKP
  go_wp2_with fail
  go_ret
  exact ⟨rfl, HB17.out.alloc hz17 _⟩
end Go.Proofs.YtkdmfjpfanmgmaaGreatDoor
namespace Go.Proofs.YtkdmfjpfanmgmaaGreatDoor
open Go.RowKit Le Go.Maps
set_option maxRecDepth 100000
set_option linter.unusedSimpArgs false
set_option linter.unusedVariables false
def SomeSize (w : World) (e : Ending) (w' : World) : Prop := ∃ n : Int, e = .returned (.int .i64 n) ∧ Below w.heap.size w w'
set_option maxHeartbeats 3200000 in
theorem size_some (r : Rcd) (A1 : Option Addr) (c1 : Nat) (B1 : Option Addr) (d1 : Nat) (A2 : Option Addr) (c2 : Nat) (B2 : Option Addr) (d2 : Nat) (w : World) :
    Calls Tryz.prog 4 #[.agg #[.int .i64 r.kind, .int .i64 r.term, .int .i64 r.vote, .int .i64 r.ent.idx, .int .i64 r.ent.term, .int .i64 r.ent.kind, .slice A1 r.ent.v.length c1, .slice B1 r.ent.l.length d1, .string (text r.ent.b), .int .i64 r.at_, .int .i64 r.snp.idx, .int .i64 r.snp.term, .slice A2 r.snp.v.length c2, .slice B2 r.snp.l.length d2, .string (text r.snp.b)]] w (SomeSize w) := by
  have P0 := Lib.hid (Blk.new w 33 [.int .i64 r.kind, .int .i64 r.term, .int .i64 r.vote, .int .i64 r.ent.idx, .int .i64 r.ent.term, .int .i64 r.ent.kind, .slice A1 r.ent.v.length c1, .slice B1 r.ent.l.length d1, .string (text r.ent.b), .int .i64 r.at_, .int .i64 r.snp.idx, .int .i64 r.snp.term, .slice A2 r.snp.v.length c2, .slice B2 r.snp.l.length d2, .string (text r.snp.b)])
  have e6 : (w.alloc (.cells #[.int .i64 r.kind, .int .i64 r.term, .int .i64 r.vote, .int .i64 r.ent.idx, .int .i64 r.ent.term, .int .i64 r.ent.kind, .slice A1 r.ent.v.length c1, .slice B1 r.ent.l.length d1, .string (text r.ent.b), .int .i64 r.at_, .int .i64 r.snp.idx, .int .i64 r.snp.term, .slice A2 r.snp.v.length c2, .slice B2 r.snp.l.length d2, .string (text r.snp.b)] 33)).cell? ⟨w.heap.size, 6, none⟩ = some (.slice A1 r.ent.v.length c1) := P0.out.cell 6
  have e7 : (w.alloc (.cells #[.int .i64 r.kind, .int .i64 r.term, .int .i64 r.vote, .int .i64 r.ent.idx, .int .i64 r.ent.term, .int .i64 r.ent.kind, .slice A1 r.ent.v.length c1, .slice B1 r.ent.l.length d1, .string (text r.ent.b), .int .i64 r.at_, .int .i64 r.snp.idx, .int .i64 r.snp.term, .slice A2 r.snp.v.length c2, .slice B2 r.snp.l.length d2, .string (text r.snp.b)] 33)).cell? ⟨w.heap.size, 7, none⟩ = some (.slice B1 r.ent.l.length d1) := P0.out.cell 7
  have e8 : (w.alloc (.cells #[.int .i64 r.kind, .int .i64 r.term, .int .i64 r.vote, .int .i64 r.ent.idx, .int .i64 r.ent.term, .int .i64 r.ent.kind, .slice A1 r.ent.v.length c1, .slice B1 r.ent.l.length d1, .string (text r.ent.b), .int .i64 r.at_, .int .i64 r.snp.idx, .int .i64 r.snp.term, .slice A2 r.snp.v.length c2, .slice B2 r.snp.l.length d2, .string (text r.snp.b)] 33)).cell? ⟨w.heap.size, 8, none⟩ = some (.string (text r.ent.b)) := P0.out.cell 8
  have e12 : (w.alloc (.cells #[.int .i64 r.kind, .int .i64 r.term, .int .i64 r.vote, .int .i64 r.ent.idx, .int .i64 r.ent.term, .int .i64 r.ent.kind, .slice A1 r.ent.v.length c1, .slice B1 r.ent.l.length d1, .string (text r.ent.b), .int .i64 r.at_, .int .i64 r.snp.idx, .int .i64 r.snp.term, .slice A2 r.snp.v.length c2, .slice B2 r.snp.l.length d2, .string (text r.snp.b)] 33)).cell? ⟨w.heap.size, 12, none⟩ = some (.slice A2 r.snp.v.length c2) := P0.out.cell 12
  have e13 : (w.alloc (.cells #[.int .i64 r.kind, .int .i64 r.term, .int .i64 r.vote, .int .i64 r.ent.idx, .int .i64 r.ent.term, .int .i64 r.ent.kind, .slice A1 r.ent.v.length c1, .slice B1 r.ent.l.length d1, .string (text r.ent.b), .int .i64 r.at_, .int .i64 r.snp.idx, .int .i64 r.snp.term, .slice A2 r.snp.v.length c2, .slice B2 r.snp.l.length d2, .string (text r.snp.b)] 33)).cell? ⟨w.heap.size, 13, none⟩ = some (.slice B2 r.snp.l.length d2) := P0.out.cell 13
  have e14 : (w.alloc (.cells #[.int .i64 r.kind, .int .i64 r.term, .int .i64 r.vote, .int .i64 r.ent.idx, .int .i64 r.ent.term, .int .i64 r.ent.kind, .slice A1 r.ent.v.length c1, .slice B1 r.ent.l.length d1, .string (text r.ent.b), .int .i64 r.at_, .int .i64 r.snp.idx, .int .i64 r.snp.term, .slice A2 r.snp.v.length c2, .slice B2 r.snp.l.length d2, .string (text r.snp.b)] 33)).cell? ⟨w.heap.size, 14, none⟩ = some (.string (text r.snp.b)) := P0.out.cell 14
  go_enter Tryz.func4, Tryz.ntmps4
  go_wp2_with fail
  go_ret
  exact ⟨_, rfl, (Below.refl _ _).alloc (Nat.le_refl _) _⟩
set_option maxHeartbeats 6400000 in
theorem stableNil_any (r : Rcd) (A1 : Option Addr) (c1 : Nat) (B1 : Option Addr) (d1 : Nat) (A2 : Option Addr) (c2 : Nat) (B2 : Option Addr) (d2 : Nat) (w : World) (hT : Tab w) (hN : NmAt w) :
    Calls Tryz.prog 3 #[.agg #[.int .i64 r.kind, .int .i64 r.term, .int .i64 r.vote, .int .i64 r.ent.idx, .int .i64 r.ent.term, .int .i64 r.ent.kind, .slice A1 r.ent.v.length c1, .slice B1 r.ent.l.length d1, .string (text r.ent.b), .int .i64 r.at_, .int .i64 r.snp.idx, .int .i64 r.snp.term, .slice A2 r.snp.v.length c2, .slice B2 r.snp.l.length d2, .string (text r.snp.b)]] w fun e w' => e = .returned (.bool true) ∧ Below w.heap.size w w' := by
  have HIR : Hid ((Tryz.prog.info? 33).map (·.size) = some 15) := Lib.hid (by kernel_rfl)
  have HIK : Hid ((Tryz.prog.info? 38).map (·.size) = some 8) := Lib.hid (by kernel_rfl)
  have HT := Lib.hid hT
  have HN := Lib.hid hN
  have hTl := hT.lt
  have hNl : 0 < w.heap.size := World.block_lt_of_cell? w _ hN.1
  clear hT hN
  have HR0 : Hid (Blk (w.alloc (.cells #[.int .i64 r.kind, .int .i64 r.term, .int .i64 r.vote, .int .i64 r.ent.idx, .int .i64 r.ent.term, .int .i64 r.ent.kind, .slice A1 r.ent.v.length c1, .slice B1 r.ent.l.length d1, .string (text r.ent.b), .int .i64 r.at_, .int .i64 r.snp.idx, .int .i64 r.snp.term, .slice A2 r.snp.v.length c2, .slice B2 r.snp.l.length d2, .string (text r.snp.b)] 33)) w.heap.size 33 [.int .i64 r.kind, .int .i64 r.term, .int .i64 r.vote, .int .i64 r.ent.idx, .int .i64 r.ent.term, .int .i64 r.ent.kind, .slice A1 r.ent.v.length c1, .slice B1 r.ent.l.length d1, .string (text r.ent.b), .int .i64 r.at_, .int .i64 r.snp.idx, .int .i64 r.snp.term, .slice A2 r.snp.v.length c2, .slice B2 r.snp.l.length d2, .string (text r.snp.b)]) := Lib.hid (Blk.new w _ [.int .i64 r.kind, .int .i64 r.term, .int .i64 r.vote, .int .i64 r.ent.idx, .int .i64 r.ent.term, .int .i64 r.ent.kind, .slice A1 r.ent.v.length c1, .slice B1 r.ent.l.length d1, .string (text r.ent.b), .int .i64 r.at_, .int .i64 r.snp.idx, .int .i64 r.snp.term, .slice A2 r.snp.v.length c2, .slice B2 r.snp.l.length d2, .string (text r.snp.b)])
  have HB0 : Hid (Below w.heap.size w (w.alloc (.cells #[.int .i64 r.kind, .int .i64 r.term, .int .i64 r.vote, .int .i64 r.ent.idx, .int .i64 r.ent.term, .int .i64 r.ent.kind, .slice A1 r.ent.v.length c1, .slice B1 r.ent.l.length d1, .string (text r.ent.b), .int .i64 r.at_, .int .i64 r.snp.idx, .int .i64 r.snp.term, .slice A2 r.snp.v.length c2, .slice B2 r.snp.l.length d2, .string (text r.snp.b)] 33))) := Lib.hid ((Below.refl _ _).alloc (Nat.le_refl _) _)
  go_enter Tryz.func3, Tryz.ntmps3
  go_wp2_with (first
    | (with_reducible refine wpList_load_blk rfl 33 _ rfl w.heap.size rfl HR0 (by simp) Tryz.underlying33 rfl HIR ?_)
    | fail)
  refine (size_some r A1 c1 B1 d1 A2 c2 B2 d2 _).mono ?_
  rintro e w1 ⟨n, rfl, hb1⟩
  have HR1 := Lib.hid (HR0.out.below hb1 HR0.out.lt)
  have HB1 := Lib.hid (HB0.out.trans (hb1.mono (by simp)))
  clear hb1 HR0 HB0
  by_cases hn : n > 100000
  · have h1 : decide (n > 100000) = true := decide_eq_true hn
    have h2 : decide ((100000 : Int) < n) = true := decide_eq_true hn
    go_wp2_with fail
    go_ret
    exact ⟨rfl, HB1.out⟩
  · have h1 : decide (n > 100000) = false := decide_eq_false hn
    have h2 : decide ((100000 : Int) < n) = false := decide_eq_false hn
    clear hn
    go_wp2_with fail
    refine (sopen_nil w1).mono ?_
    rintro e w2 ⟨rfl, hb2⟩
    have HR2 := Lib.hid (HR1.out.below hb2 HR1.out.lt)
    have HB2 := Lib.hid (HB1.out.trans (hb2.mono HB1.out.size))
    clear hb2 HR1 HB1 h1 h2
    go_wp2_with fail
    refine at_world _ fun W3 hW3 => ?_
    have hb3 : Below w2.heap.size w2 W3 := by rw [hW3]; exact (Below.refl _ _).alloc (Nat.le_refl _) _
    have HK3 : Hid (Blk W3 w2.heap.size 38 [.int .i64 0, .int .i64 0, .int .i64 0, .int .i64 0, .slice none 0 0, .slice none 0 0, .string ⟨#[]⟩, .slice none 0 0]) := Lib.hid (by rw [hW3]; exact Blk.new w2 _ [.int .i64 0, .int .i64 0, .int .i64 0, .int .i64 0, .slice none 0 0, .slice none 0 0, .string ⟨#[]⟩, .slice none 0 0])
    have HR3 := Lib.hid (HR2.out.below hb3 HR2.out.lt)
    have HB3 := Lib.hid (HB2.out.trans (hb3.mono HB2.out.size))
    clear hb3 hW3 HR2 HB2
    refine (awake_any (HT.out.below HB3.out hTl) (HN.out.below HB3.out hNl)).mono ?_
    rintro e w4 ⟨rfl, hb4⟩
    have HK4 := Lib.hid (HK3.out.below hb4 HK3.out.lt)
    have HR4 := Lib.hid (HR3.out.below hb4 HR3.out.lt)
    have HB4 := Lib.hid (HB3.out.trans (hb4.mono HB3.out.size))
    clear hb4 HK3 HR3 HB3
    have p0 := HK4.out.cell 0
    have p1 := HK4.out.cell 1
    have p2 := HK4.out.cell 2
    have p3 := HK4.out.cell 3
    have p4 := HK4.out.cell 4
    have p5 := HK4.out.cell 5
    have p6 := HK4.out.cell 6
    have p7 := HK4.out.cell 7
    simp only [List.getElem?_cons_zero, List.getElem?_cons_succ] at p0 p1 p2 p3 p4 p5 p6 p7
    go_wp2_with fail
    clear p0 p1 p2 p3 p4 p5 p6 p7
    have hsm : ∀ W, Calls Tryz.prog 7 #[.agg #[.int .i64 0, .int .i64 0, .int .i64 0, .int .i64 0, .slice none 0 0, .slice none 0 0, .string ⟨#[]⟩, .slice none 0 0], .agg #[.int .i64 0, .int .i64 0, .int .i64 0, .int .i64 0, .slice none 0 0, .slice none 0 0, .string ⟨#[]⟩, .slice none 0 0]] W (TestEnd W true) := fun W => by
      have h := Same_any Kep.zero Kep.zero none 0 none 0 none 0 none 0 none 0 none 0 W ⟨RowsAt.nil, RowsAt.nil, RowsAt.nil⟩ ⟨RowsAt.nil, RowsAt.nil, RowsAt.nil⟩ sm0 sm0
      rw [show decide (Kep.zero = Kep.zero) = true from by decide] at h
      exact h
    have HSM := Lib.hid hsm
    clear hsm
    refine (HSM.out w4).mono ?_
    rintro e w5 ⟨rfl, hb5⟩
    have HR5 := Lib.hid (HR4.out.below hb5 HR4.out.lt)
    have HB5 := Lib.hid (HB4.out.trans (hb5.mono HB4.out.size))
    clear hb5 HK4 HR4 HB4
    have p0 := HR5.out.cell 0
    have p1 := HR5.out.cell 1
    have p2 := HR5.out.cell 2
    have p3 := HR5.out.cell 3
    have p4 := HR5.out.cell 4
    have p5 := HR5.out.cell 5
    have p6 := HR5.out.cell 6
    have p7 := HR5.out.cell 7
    have p8 := HR5.out.cell 8
    have p9 := HR5.out.cell 9
    have p10 := HR5.out.cell 10
    have p11 := HR5.out.cell 11
    have p12 := HR5.out.cell 12
    have p13 := HR5.out.cell 13
    have p14 := HR5.out.cell 14
    simp only [List.getElem?_cons_zero, List.getElem?_cons_succ] at p0 p1 p2 p3 p4 p5 p6 p7 p8 p9 p10 p11 p12 p13 p14
    go_wp2_with fail
    clear p0 p1 p2 p3 p4 p5 p6 p7 p8 p9 p10 p11 p12 p13 p14
    refine (ssave_nil w5 [.int .i64 r.kind, .int .i64 r.term, .int .i64 r.vote, .int .i64 r.ent.idx, .int .i64 r.ent.term, .int .i64 r.ent.kind, .slice A1 r.ent.v.length c1, .slice B1 r.ent.l.length d1, .string (text r.ent.b), .int .i64 r.at_, .int .i64 r.snp.idx, .int .i64 r.snp.term, .slice A2 r.snp.v.length c2, .slice B2 r.snp.l.length d2, .string (text r.snp.b)] rfl).mono ?_
    rintro e w6 ⟨rfl, hb6⟩
    have HB6 := Lib.hid (HB5.out.trans (hb6.mono HB5.out.size))
    clear hb6 HR5 HB5
    go_wp2_with fail
    refine (ssync_nil w6).mono ?_
    rintro e w7 ⟨rfl, rfl⟩
    go_wp2_with fail
    refine (sclean_nil w6).mono ?_
    rintro e w7 ⟨rfl, hb7⟩
    have HB7 := Lib.hid (HB6.out.trans (hb7.mono HB6.out.size))
    clear hb7 HB6
    go_wp2_with fail
    refine (skept_nil w7).mono ?_
    rintro e w8 ⟨rfl, hb8⟩
    have HB8 := Lib.hid (HB7.out.trans (hb8.mono HB7.out.size))
    clear hb8 HB7
    go_wp2_with fail
    refine (HSM.out w8).mono ?_
    rintro e w9 ⟨rfl, hb9⟩
    have HB9 := Lib.hid (HB8.out.trans (hb9.mono HB8.out.size))
    clear hb9 HB8 HSM
    go_wp2_with fail
    go_ret
    exact ⟨rfl, HB9.out⟩
end Go.Proofs.YtkdmfjpfanmgmaaGreatDoor
