/- Joined by mkmerge.py from the proof's texts Stb5, Stb6, Stb7. Conditions: each theorem's own hypotheses. -/
import Derived.Test.YtkdmfjpfanmgmaaGreatDoorM43
import Derived.Test.YtkdmfjpfanmgmaaGreatDoorM44
import Derived.Test.YtkdmfjpfanmgmaaGreatDoorM27
namespace Go.Proofs.YtkdmfjpfanmgmaaGreatDoor
open Go.RowKit Le Go.Maps
set_option maxRecDepth 100000
set_option linter.unusedSimpArgs false
set_option linter.unusedVariables false
theorem cut14 {F T : Option Addr → Nat → Option Addr → Nat → Option Addr → Nat → Nat → Option Addr → Nat → Option Addr → Nat → Option Addr → Nat → World → Prop} {G : Prop} (h : (∀ a b c d e f g A B C D E N w, F a b c d e f g A B C D E N w → T a b c d e f g A B C D E N w) → G) (k : ∀ a b c d e f g A B C D E N w, F a b c d e f g A B C D E N w → T a b c d e f g A B C D E N w) : G := h k
theorem kep_nw_keeps {ts us : List TypeId} {w w' : World} {b : Nat} {k : Kep} {A B E : Option Addr} (h : KepAt w (Nw w b us) k A B E) (hk : Keeps ts w w') (hd : ∀ t, t ∈ us → t ∉ ts) : KepAt w' (Nw w' b us) k A B E := ⟨h.v.nw_keeps hk hd, h.l.nw_keeps hk hd, h.e.nw_keeps hk hd⟩
set_option maxHeartbeats 6400000 in
theorem save_ok {w : World} {base d s j : Nat} {at0 gen0 : Int} {k k' : Kep} {r : Rcd} {x : Nat} {A : Option Addr} {c : Nat} {B : Option Addr} {d' : Nat} {E : Option Addr} {n : Nat} {name : List UInt8} {log marks mark many safe : Nat} {s0 s1 : DS} (h : DiskAt w base d s0.lasts s0.now s0.cs) (hbw : base ≤ w.heap.size) (hs : Blk w s 53 [.pointer (some ⟨d, 0, none⟩), .pointer (some ⟨j, 0, none⟩), .int .i64 at0, .int .i64 gen0, .int .i64 k.term, .int .i64 k.vote, .int .i64 k.snp.idx, .int .i64 k.snp.term, .slice A k.snp.v.length c, .slice B k.snp.l.length d', .string (text k.snp.b), .slice E k.ents.length n]) (hge : base ≤ s)
    (hA : KepAt w (· < w.heap.size) k A B E) (hks : k.Small) (hok : OkK k) (hro : RcOk r) (hfo : (if mayP r then foldedP k r else (.zero, 140)) = (k', x)) (hs1 : s1 = wrS (name ++ endL) log (frameOf (textB (rcS r))) s0) (hx : x = 0) (hT : Tab w) (hTb : 3 < base) (hj : Blk w j 96 (jCs d name log marks mark many safe)) (hgj : base ≤ j) (hnl : nameB (name ++ endL) = true) (hl : name.length ≤ 8) (hf : Fit (name ++ endL) log s0) (hmany : many ≤ 1000) :
    Calls Tryz.prog 8 #[.pointer (some ⟨s, 0, none⟩), .agg #[.int .i64 r.kind, .int .i64 r.term, .int .i64 r.vote, .int .i64 r.ent.idx, .int .i64 r.ent.term, .int .i64 r.ent.kind, .slice none r.ent.v.length 0, .slice none r.ent.l.length 0, .string (text r.ent.b), .int .i64 r.at_, .int .i64 r.snp.idx, .int .i64 r.snp.term, .slice none r.snp.v.length 0, .slice none r.snp.l.length 0, .string (text r.snp.b)]] w fun e w' => e = .returned (.int .i64 0) ∧ (∃ A c B d' E n, Blk w' s 53 [.pointer (some ⟨d, 0, none⟩), .pointer (some ⟨j, 0, none⟩), .int .i64 at0, .int .i64 gen0, .int .i64 k'.term, .int .i64 k'.vote, .int .i64 k'.snp.idx, .int .i64 k'.snp.term, .slice A k'.snp.v.length c, .slice B k'.snp.l.length d', .string (text k'.snp.b), .slice E k'.ents.length n] ∧ KepAt w' (Nw w' w.heap.size [29, 3]) k' A B E) ∧ DiskAt w' base d s1.lasts s1.now s1.cs ∧ Blk w' j 96 (jCs d name (log + (12 + (rcS r).length)) marks mark (many + 1) safe) ∧ Below base w w' ∧ Keeps [80, 106, 96, 53] w w' := by
  have HIK : Hid ((Tryz.prog.info? 38).map (·.size) = some 8) := Lib.hid (by kernel_rfl)
  have HIR : Hid ((Tryz.prog.info? 33).map (·.size) = some 15) := Lib.hid (by kernel_rfl)
  have HRO := Lib.hid hro
  have HFO := Lib.hid hfo
  have HRS : Hid r.Small := Lib.hid ⟨⟨by rw [hro.ev]; decide, by rw [hro.el]; decide⟩, ⟨by rw [hro.sv]; decide, by rw [hro.sl]; decide⟩⟩
  have HS := Lib.hid hs
  have HA := Lib.hid hA
  have H := Lib.hid h
  have HT := Lib.hid hT
  have HJ := Lib.hid hj
  have HFI := Lib.hid hf
  have HS1 := Lib.hid hs1
  have HX := Lib.hid hx
  
  
  clear h hs hA hro hfo hx hT hj hf hs1
  go_enter Tryz.func8, Tryz.ntmps8
  go_wp2_with fail
  refine at_worldC _ fun W hW => ?_
  have HW0 : Hid (Below w.heap.size w W) := Lib.hid (by rw [hW]; exact (Below.refl _ _).alloc (Nat.le_refl _) _)
  have HR0 : Hid (Blk W w.heap.size 33 [.int .i64 r.kind, .int .i64 r.term, .int .i64 r.vote, .int .i64 r.ent.idx, .int .i64 r.ent.term, .int .i64 r.ent.kind, .slice none r.ent.v.length 0, .slice none r.ent.l.length 0, .string (text r.ent.b), .int .i64 r.at_, .int .i64 r.snp.idx, .int .i64 r.snp.term, .slice none r.snp.v.length 0, .slice none r.snp.l.length 0, .string (text r.snp.b)]) := Lib.hid (by rw [hW]; exact Blk.new w _ [.int .i64 r.kind, .int .i64 r.term, .int .i64 r.vote, .int .i64 r.ent.idx, .int .i64 r.ent.term, .int .i64 r.ent.kind, .slice none r.ent.v.length 0, .slice none r.ent.l.length 0, .string (text r.ent.b), .int .i64 r.at_, .int .i64 r.snp.idx, .int .i64 r.snp.term, .slice none r.snp.v.length 0, .slice none r.snp.l.length 0, .string (text r.snp.b)])
  have HS0 := Lib.hid (HS.out.below HW0.out HS.out.lt)
  have HA0 : Hid (KepAt W (· < W.heap.size) k A B E) := Lib.hid ((HA.out.below HW0.out).more HW0.out.size)
  have hzW := HW0.out.size
  clear hW HA
  refine' cut14 (F := fun (_ : Option Addr) (_ : Nat) (_ : Option Addr) (_ : Nat) (_ : Option Addr) (_ : Nat) g A c B d E n V => Hid (Blk V g 38 [.int .i64 k'.term, .int .i64 k'.vote, .int .i64 k'.snp.idx, .int .i64 k'.snp.term, .slice A k'.snp.v.length c, .slice B k'.snp.l.length d, .string (text k'.snp.b), .slice E k'.ents.length n]) ∧ Hid (KepAt V (Nw V W.heap.size [29, 3]) k' A B E) ∧ Hid (Below W.heap.size W V) ∧ Hid (W.heap.size ≤ g ∧ g < V.heap.size)) (fun key => _) _
  rotate_left
  · refine wp_region_held_drew (S := fun w' => Blk w' s 53 [.pointer (some ⟨d, 0, none⟩), .pointer (some ⟨j, 0, none⟩), .int .i64 at0, .int .i64 gen0, .int .i64 k.term, .int .i64 k.vote, .int .i64 k.snp.idx, .int .i64 k.snp.term, .slice A k.snp.v.length c, .slice B k.snp.l.length d', .string (text k.snp.b), .slice E k.ents.length n] ∧ Blk w' w.heap.size 33 [.int .i64 r.kind, .int .i64 r.term, .int .i64 r.vote, .int .i64 r.ent.idx, .int .i64 r.ent.term, .int .i64 r.ent.kind, .slice none r.ent.v.length 0, .slice none r.ent.l.length 0, .string (text r.ent.b), .int .i64 r.at_, .int .i64 r.snp.idx, .int .i64 r.snp.term, .slice none r.snp.v.length 0, .slice none r.snp.l.length 0, .string (text r.snp.b)]) (by kernel_rfl) ⟨HS0.out, HR0.out⟩ (fun HD => ?_)
    refine wpAnyH_take (i := 0) (oi := ⟨some 12, _, _, _, _, _⟩) (v := (.pointer (some ⟨s, 0, none⟩))) rfl (by kernel_rfl) (by kernel_rfl) (by kernel_rfl) (fun _ _ _ h => h) (Or.inl ⟨by rfl, ?_⟩) HD ?_
    · intro w' hw'
      (go_simp; try with_reducible rfl)
    (try simp only [Act.put, List.setIfInBounds_toArray, List.set_cons_zero, List.set_cons_succ])
    refine wpAnyH_take (i := 1) (oi := ⟨some 13, _, _, _, _, _⟩) (v := (.pointer (some ⟨s, 0, none⟩))) rfl (by kernel_rfl) (by kernel_rfl) (by kernel_rfl) (fun _ _ _ h => h) (Or.inl ⟨by rfl, ?_⟩) HD ?_
    · intro w' hw'
      (go_simp; try with_reducible rfl)
    (try simp only [Act.put, List.setIfInBounds_toArray, List.set_cons_zero, List.set_cons_succ])
    refine wpAnyH_take (i := 2) (oi := ⟨some 14, _, _, _, _, _⟩) (v := (.pointer (some ⟨s, 4, none⟩))) rfl (by kernel_rfl) (by kernel_rfl) (by kernel_rfl) (fun _ _ _ h => h) (Or.inl ⟨by rfl, ?_⟩) HD ?_
    · intro w' hw'
      (go_simp; try with_reducible rfl)
    (try simp only [Act.put, List.setIfInBounds_toArray, List.set_cons_zero, List.set_cons_succ])
    refine wpAnyH_take (i := 3) (oi := ⟨some 15, _, _, _, _, _⟩) (v := _) rfl (by kernel_rfl) (by kernel_rfl) (by kernel_rfl) (fun _ _ _ h => h) (yieldsIf_load_mid (by rfl) _ _ rfl s 4 rfl [.int .i64 k.term, .int .i64 k.vote, .int .i64 k.snp.idx, .int .i64 k.snp.term, .slice A k.snp.v.length c, .slice B k.snp.l.length d', .string (text k.snp.b), .slice E k.ents.length n] _ (fun _ h => h.1.rangeMid (pre := [.pointer (some ⟨d, 0, none⟩), .pointer (some ⟨j, 0, none⟩), .int .i64 at0, .int .i64 gen0]) (post := []) rfl) Tryz.underlying38 rfl HIK.out) HD ?_
    (try simp only [Act.put, List.setIfInBounds_toArray, List.set_cons_zero, List.set_cons_succ])
    refine wpAnyH_take (i := 5) (oi := ⟨some 17, _, _, _, _, _⟩) (v := _) rfl (by kernel_rfl) (by kernel_rfl) (by kernel_rfl) (fun _ _ _ h => h) (yieldsIf_load_mid (by rfl) _ _ rfl w.heap.size 0 rfl [.int .i64 r.kind, .int .i64 r.term, .int .i64 r.vote, .int .i64 r.ent.idx, .int .i64 r.ent.term, .int .i64 r.ent.kind, .slice none r.ent.v.length 0, .slice none r.ent.l.length 0, .string (text r.ent.b), .int .i64 r.at_, .int .i64 r.snp.idx, .int .i64 r.snp.term, .slice none r.snp.v.length 0, .slice none r.snp.l.length 0, .string (text r.snp.b)] _ (fun _ h => h.2.range0) Tryz.underlying33 rfl HIR.out) HD ?_
    (try simp only [Act.put, List.setIfInBounds_toArray, List.set_cons_zero, List.set_cons_succ])
    have HBa : Hid (Below W.heap.size W W.drew) := Lib.hid (Below.refl _ _).drew
    generalize W.drew = wa at *
    refine wpAnyH_ready (rs := [4, 10]) (by kernel_rfl) (by simp) ?_
    refine AllReadyH.cons (o := ⟨some 16, _, _, _, _, _⟩) rfl (fun K hK => ?_) (AllReadyH.cons (o := ⟨some 5, _, _, _, _, _⟩) rfl (fun K hK => ?_) (AllReadyH.nil))
    · go_simp
      go_at_call 20
      refine (own_any k A c B d' E n wa ((HA0.out.below HBa.out).more HBa.out.size) hks).mono ?_
      rintro e wb ⟨Ao, co, Bo, dd, Eo, no, rfl, hown, hb⟩
      rw [show (k.cs Ao co Bo dd Eo no).toArray = #[.int .i64 k.term, .int .i64 k.vote, .int .i64 k.snp.idx, .int .i64 k.snp.term, .slice Ao k.snp.v.length co, .slice Bo k.snp.l.length dd, .string (text k.snp.b), .slice Eo k.ents.length no] from rfl]
      have HBb : Hid (Below W.heap.size W wb) := Lib.hid (HBa.out.trans (hb.mono HBa.out.size))
      obtain ⟨bo, HBO, HOW⟩ : ∃ bo, Hid (W.heap.size ≤ bo ∧ bo ≤ wb.heap.size) ∧ Hid (KepOwn wb bo k Ao Bo Eo no) := ⟨_, Lib.hid ⟨HBa.out.size, hb.size⟩, Lib.hid hown⟩
      clear hb hown
      (try dsimp only)
      refine hK.out _ _ ⟨HS0.out.below HBb.out HS0.out.lt, HR0.out.below HBb.out HR0.out.lt⟩ (fun HD => ?_)
      clear hK K
      (try simp only [Act.put, List.setIfInBounds_toArray, List.set_cons_zero, List.set_cons_succ])
      refine wpAnyH_ready (rs := [6, 10]) (by kernel_rfl) (by simp) ?_
      refine AllReadyH.cons (o := ⟨some 18, _, _, _, _, _⟩) rfl (fun K hK => ?_) (AllReadyH.cons (o := ⟨some 5, _, _, _, _, _⟩) rfl (fun K hK => ?_) (AllReadyH.nil))
      · go_simp
        go_at_call 27
        have hra : RcdAt' wb (· < bo) r none none none none := ⟨by rw [HRO.out.ev]; exact RowsAt.nil, by rw [HRO.out.el]; exact RowsAt.nil, by rw [HRO.out.sv]; exact RowsAt.nil, by rw [HRO.out.sl]; exact RowsAt.nil⟩
        refine (folded_keep k r Ao co Bo dd Eo no none 0 none 0 none 0 none 0 bo wb HOW.out HBO.out.2 hok hra HRS.out).mono ?_
        clear hra
        rintro e wc ⟨k1, A2, c2, B2, d2, E2, n2, x1, hkx, rfl, hk, hb, hkp⟩
        obtain ⟨rfl, rfl⟩ : k' = k1 ∧ x = x1 := by
          have h := (hkx.trans HFO.out).symm
          exact ⟨congrArg Prod.fst h, congrArg Prod.snd h⟩
        rw [show (k'.cs A2 c2 B2 d2 E2 n2).toArray = #[.int .i64 k'.term, .int .i64 k'.vote, .int .i64 k'.snp.idx, .int .i64 k'.snp.term, .slice A2 k'.snp.v.length c2, .slice B2 k'.snp.l.length d2, .string (text k'.snp.b), .slice E2 k'.ents.length n2] from rfl]
        have HKR : Hid (KepAt wc (Nw wc W.heap.size [29, 3]) k' A2 B2 E2) := Lib.hid (hk.nw_more HBO.out.1)
        have HBc : Hid (Below W.heap.size W wc) := Lib.hid (HBb.out.trans (hb.mono HBO.out.1))
        clear hb hk hkp hkx
        (try dsimp only)
        refine hK.out _ _ ⟨HS0.out.below HBc.out HS0.out.lt, HR0.out.below HBc.out HR0.out.lt⟩ (fun HD => ?_)
        clear hK K
        (try simp only [Act.put, List.setIfInBounds_toArray, List.set_cons_zero, List.set_cons_succ])
        refine wpAnyH_take (i := 7) (oi := ⟨some 11, _, _, _, _, _⟩) (v := ?_) rfl (by kernel_rfl) (by kernel_rfl) (by kernel_rfl) (fun _ _ _ h => h) (Or.inl ⟨by rfl, ?_⟩) HD ?_
        rotate_left
        · intro w hSw
          (try dsimp only at hSw)
          go_simp <;> with_reducible rfl
        (try simp only [Act.put, List.setIfInBounds_toArray, List.set_cons_zero, List.set_cons_succ])
        refine wpAnyH_take (i := 8) (oi := ⟨some 19, _, _, _, _, _⟩) (v := ?_) rfl (by kernel_rfl) (by kernel_rfl) (by kernel_rfl) (fun _ _ _ h => h) (Or.inl ⟨by rfl, ?_⟩) HD ?_
        rotate_left
        · intro w hSw
          (try dsimp only at hSw)
          go_simp <;> with_reducible rfl
        (try simp only [Act.put, List.setIfInBounds_toArray, List.set_cons_zero, List.set_cons_succ])
        refine wpAnyH_take (i := 9) (oi := ⟨some 20, _, _, _, _, _⟩) (v := ?_) rfl (by kernel_rfl) (by kernel_rfl) (by kernel_rfl) (fun _ _ _ h => h) (Or.inl ⟨by rfl, ?_⟩) HD ?_
        rotate_left
        · intro w hSw
          (try dsimp only at hSw)
          go_simp <;> with_reducible rfl
        (try simp only [Act.put, List.setIfInBounds_toArray, List.set_cons_zero, List.set_cons_succ])
        refine wpAnyH_ready (rs := [10]) (by kernel_rfl) (by simp) ?_
        refine AllReadyH.cons (o := ⟨some 5, _, _, _, _, _⟩) rfl (fun K hK => ?_) (AllReadyH.nil)
        go_simp
        replace HKR := Lib.hid (kep_nw_keeps HKR.out (ts := []) (Keeps.alloc wc (.cells #[.int .i64 0, .int .i64 0, .int .i64 0, .int .i64 0, .slice none 0 0, .slice none 0 0, .string ⟨#[]⟩, .slice none 0 0] 38)) (by simp))
        have HBd : Hid (Below W.heap.size W (wc.alloc (.cells #[.int .i64 0, .int .i64 0, .int .i64 0, .int .i64 0, .slice none 0 0, .slice none 0 0, .string ⟨#[]⟩, .slice none 0 0] 38))) := Lib.hid (HBc.out.alloc HBc.out.size _)
        have G0 : Hid (Blk (wc.alloc (.cells #[.int .i64 0, .int .i64 0, .int .i64 0, .int .i64 0, .slice none 0 0, .slice none 0 0, .string ⟨#[]⟩, .slice none 0 0] 38)) wc.heap.size 38 [.int .i64 0, .int .i64 0, .int .i64 0, .int .i64 0, .slice none 0 0, .slice none 0 0, .string ⟨#[]⟩, .slice none 0 0]) := Lib.hid (Blk.new wc 38 [.int .i64 0, .int .i64 0, .int .i64 0, .int .i64 0, .slice none 0 0, .slice none 0 0, .string ⟨#[]⟩, .slice none 0 0])
        have GZ : Hid (W.heap.size ≤ wc.heap.size) := Lib.hid HBc.out.size
        generalize wc.alloc (.cells #[.int .i64 0, .int .i64 0, .int .i64 0, .int .i64 0, .slice none 0 0, .slice none 0 0, .string ⟨#[]⟩, .slice none 0 0] 38) = wd at *
        generalize wc.heap.size = g at *
        (try dsimp only)
        refine hK.out _ _ ⟨HS0.out.below HBd.out HS0.out.lt, HR0.out.below HBd.out HR0.out.lt⟩ (fun HD => ?_)
        clear hK K
        (try simp only [Act.put, List.setIfInBounds_toArray, List.set_cons_zero, List.set_cons_succ])
        refine wpAnyH_ready (rs := [11]) (by kernel_rfl) (by simp) ?_
        refine AllReadyH.cons (o := ⟨none, _, _, _, _, _⟩) rfl (fun K hK => ?_) (AllReadyH.nil)
        refine step_store_blk rfl 38 _ _ rfl g [.int .i64 k'.term, .int .i64 k'.vote, .int .i64 k'.snp.idx, .int .i64 k'.snp.term, .slice A2 k'.snp.v.length c2, .slice B2 k'.snp.l.length d2, .string (text k'.snp.b), .slice E2 k'.ents.length n2] rfl rfl G0 (by simp) (by simp) HIK (by simp [Value.oneCell']) ?_
        intro w9 U
        have HB9 : Hid (Below W.heap.size W w9) := Lib.hid (U.out.below HBd.out GZ.out)
        have GK : Hid (KepAt w9 (Nw w9 W.heap.size [29, 3]) k' A2 B2 E2) := Lib.hid (kep_nw_keeps HKR.out U.out.keeps (by decide))
        (try dsimp only)
        refine hK.out _ _ ⟨HS0.out.below HB9.out HS0.out.lt, HR0.out.below HB9.out HR0.out.lt⟩ (fun HD => ?_)
        clear hK K
        (try simp only [Act.put, List.setIfInBounds_toArray, List.set_cons_zero, List.set_cons_succ])
        refine wpAnyH_take (i := 12) (oi := ⟨some 4, _, _, _, _, _⟩) (v := ?_) rfl (by kernel_rfl) (by kernel_rfl) (by kernel_rfl) (fun _ _ _ h => h) (Or.inl ⟨by rfl, ?_⟩) HD ?_
        rotate_left
        · intro w hSw
          (try dsimp only at hSw)
          go_simp <;> with_reducible rfl
        (try simp only [Act.put, List.setIfInBounds_toArray, List.set_cons_zero, List.set_cons_succ])
        refine wpAnyH_done (by kernel_rfl) ?_ _
        exact key Ao co Bo dd Eo no g A2 c2 B2 d2 E2 n2 w9 ⟨Lib.hid U.out.blk, GK, HB9, Lib.hid ⟨GZ.out, by have := U.out.blk.lt; omega⟩⟩
      · go_simp
        replace HOW := Lib.hid (HOW.out.keeps (ts := []) (Keeps.alloc wb (.cells #[.int .i64 0, .int .i64 0, .int .i64 0, .int .i64 0, .slice none 0 0, .slice none 0 0, .string ⟨#[]⟩, .slice none 0 0] 38)) (by simp) (by simp))
        replace HBO : Hid (W.heap.size ≤ bo ∧ bo ≤ (wb.alloc (.cells #[.int .i64 0, .int .i64 0, .int .i64 0, .int .i64 0, .slice none 0 0, .slice none 0 0, .string ⟨#[]⟩, .slice none 0 0] 38)).heap.size) := Lib.hid ⟨HBO.out.1, by have := HBO.out.2; simp; omega⟩
        have HBc : Hid (Below W.heap.size W (wb.alloc (.cells #[.int .i64 0, .int .i64 0, .int .i64 0, .int .i64 0, .slice none 0 0, .slice none 0 0, .string ⟨#[]⟩, .slice none 0 0] 38))) := Lib.hid (HBb.out.alloc HBb.out.size _)
        have G0 : Hid (Blk (wb.alloc (.cells #[.int .i64 0, .int .i64 0, .int .i64 0, .int .i64 0, .slice none 0 0, .slice none 0 0, .string ⟨#[]⟩, .slice none 0 0] 38)) wb.heap.size 38 [.int .i64 0, .int .i64 0, .int .i64 0, .int .i64 0, .slice none 0 0, .slice none 0 0, .string ⟨#[]⟩, .slice none 0 0]) := Lib.hid (Blk.new wb 38 [.int .i64 0, .int .i64 0, .int .i64 0, .int .i64 0, .slice none 0 0, .slice none 0 0, .string ⟨#[]⟩, .slice none 0 0])
        have GZ : Hid (W.heap.size ≤ wb.heap.size) := Lib.hid HBb.out.size
        generalize wb.alloc (.cells #[.int .i64 0, .int .i64 0, .int .i64 0, .int .i64 0, .slice none 0 0, .slice none 0 0, .string ⟨#[]⟩, .slice none 0 0] 38) = wc at *
        generalize wb.heap.size = g at *
        (try dsimp only)
        refine hK.out _ _ ⟨HS0.out.below HBc.out HS0.out.lt, HR0.out.below HBc.out HR0.out.lt⟩ (fun HD => ?_)
        clear hK K
        (try simp only [Act.put, List.setIfInBounds_toArray, List.set_cons_zero, List.set_cons_succ])
        refine wpAnyH_ready (rs := [6]) (by kernel_rfl) (by simp) ?_
        refine AllReadyH.cons (o := ⟨some 18, _, _, _, _, _⟩) rfl (fun K hK => ?_) (AllReadyH.nil)
        go_simp
        go_at_call 27
        have hra : RcdAt' wc (· < bo) r none none none none := ⟨by rw [HRO.out.ev]; exact RowsAt.nil, by rw [HRO.out.el]; exact RowsAt.nil, by rw [HRO.out.sv]; exact RowsAt.nil, by rw [HRO.out.sl]; exact RowsAt.nil⟩
        refine (folded_keep k r Ao co Bo dd Eo no none 0 none 0 none 0 none 0 bo wc HOW.out HBO.out.2 hok hra HRS.out).mono ?_
        clear hra
        rintro e wd ⟨k1, A2, c2, B2, d2, E2, n2, x1, hkx, rfl, hk, hb, hkp⟩
        obtain ⟨rfl, rfl⟩ : k' = k1 ∧ x = x1 := by
          have h := (hkx.trans HFO.out).symm
          exact ⟨congrArg Prod.fst h, congrArg Prod.snd h⟩
        rw [show (k'.cs A2 c2 B2 d2 E2 n2).toArray = #[.int .i64 k'.term, .int .i64 k'.vote, .int .i64 k'.snp.idx, .int .i64 k'.snp.term, .slice A2 k'.snp.v.length c2, .slice B2 k'.snp.l.length d2, .string (text k'.snp.b), .slice E2 k'.ents.length n2] from rfl]
        have HKR : Hid (KepAt wd (Nw wd W.heap.size [29, 3]) k' A2 B2 E2) := Lib.hid (hk.nw_more HBO.out.1)
        have HBd : Hid (Below W.heap.size W wd) := Lib.hid (HBc.out.trans (hb.mono HBO.out.1))
        replace G0 := Lib.hid (G0.out.keeps hkp (by decide))
        clear hb hk hkp hkx
        (try dsimp only)
        refine hK.out _ _ ⟨HS0.out.below HBd.out HS0.out.lt, HR0.out.below HBd.out HR0.out.lt⟩ (fun HD => ?_)
        clear hK K
        (try simp only [Act.put, List.setIfInBounds_toArray, List.set_cons_zero, List.set_cons_succ])
        refine wpAnyH_take (i := 7) (oi := ⟨some 11, _, _, _, _, _⟩) (v := ?_) rfl (by kernel_rfl) (by kernel_rfl) (by kernel_rfl) (fun _ _ _ h => h) (Or.inl ⟨by rfl, ?_⟩) HD ?_
        rotate_left
        · intro w hSw
          (try dsimp only at hSw)
          go_simp <;> with_reducible rfl
        (try simp only [Act.put, List.setIfInBounds_toArray, List.set_cons_zero, List.set_cons_succ])
        refine wpAnyH_take (i := 8) (oi := ⟨some 19, _, _, _, _, _⟩) (v := ?_) rfl (by kernel_rfl) (by kernel_rfl) (by kernel_rfl) (fun _ _ _ h => h) (Or.inl ⟨by rfl, ?_⟩) HD ?_
        rotate_left
        · intro w hSw
          (try dsimp only at hSw)
          go_simp <;> with_reducible rfl
        (try simp only [Act.put, List.setIfInBounds_toArray, List.set_cons_zero, List.set_cons_succ])
        refine wpAnyH_take (i := 9) (oi := ⟨some 20, _, _, _, _, _⟩) (v := ?_) rfl (by kernel_rfl) (by kernel_rfl) (by kernel_rfl) (fun _ _ _ h => h) (Or.inl ⟨by rfl, ?_⟩) HD ?_
        rotate_left
        · intro w hSw
          (try dsimp only at hSw)
          go_simp <;> with_reducible rfl
        (try simp only [Act.put, List.setIfInBounds_toArray, List.set_cons_zero, List.set_cons_succ])
        refine wpAnyH_ready (rs := [11]) (by kernel_rfl) (by simp) ?_
        refine AllReadyH.cons (o := ⟨none, _, _, _, _, _⟩) rfl (fun K hK => ?_) (AllReadyH.nil)
        refine step_store_blk rfl 38 _ _ rfl g [.int .i64 k'.term, .int .i64 k'.vote, .int .i64 k'.snp.idx, .int .i64 k'.snp.term, .slice A2 k'.snp.v.length c2, .slice B2 k'.snp.l.length d2, .string (text k'.snp.b), .slice E2 k'.ents.length n2] rfl rfl G0 (by simp) (by simp) HIK (by simp [Value.oneCell']) ?_
        intro w9 U
        have HB9 : Hid (Below W.heap.size W w9) := Lib.hid (U.out.below HBd.out GZ.out)
        have GK : Hid (KepAt w9 (Nw w9 W.heap.size [29, 3]) k' A2 B2 E2) := Lib.hid (kep_nw_keeps HKR.out U.out.keeps (by decide))
        (try dsimp only)
        refine hK.out _ _ ⟨HS0.out.below HB9.out HS0.out.lt, HR0.out.below HB9.out HR0.out.lt⟩ (fun HD => ?_)
        clear hK K
        (try simp only [Act.put, List.setIfInBounds_toArray, List.set_cons_zero, List.set_cons_succ])
        refine wpAnyH_take (i := 12) (oi := ⟨some 4, _, _, _, _, _⟩) (v := ?_) rfl (by kernel_rfl) (by kernel_rfl) (by kernel_rfl) (fun _ _ _ h => h) (Or.inl ⟨by rfl, ?_⟩) HD ?_
        rotate_left
        · intro w hSw
          (try dsimp only at hSw)
          go_simp <;> with_reducible rfl
        (try simp only [Act.put, List.setIfInBounds_toArray, List.set_cons_zero, List.set_cons_succ])
        refine wpAnyH_done (by kernel_rfl) ?_ _
        exact key Ao co Bo dd Eo no g A2 c2 B2 d2 E2 n2 w9 ⟨Lib.hid U.out.blk, GK, HB9, Lib.hid ⟨GZ.out, by have := U.out.blk.lt; omega⟩⟩
    · go_simp
      have HBb : Hid (Below W.heap.size W (wa.alloc (.cells #[.int .i64 0, .int .i64 0, .int .i64 0, .int .i64 0, .slice none 0 0, .slice none 0 0, .string ⟨#[]⟩, .slice none 0 0] 38))) := Lib.hid (HBa.out.alloc HBa.out.size _)
      have G0 : Hid (Blk (wa.alloc (.cells #[.int .i64 0, .int .i64 0, .int .i64 0, .int .i64 0, .slice none 0 0, .slice none 0 0, .string ⟨#[]⟩, .slice none 0 0] 38)) wa.heap.size 38 [.int .i64 0, .int .i64 0, .int .i64 0, .int .i64 0, .slice none 0 0, .slice none 0 0, .string ⟨#[]⟩, .slice none 0 0]) := Lib.hid (Blk.new wa 38 [.int .i64 0, .int .i64 0, .int .i64 0, .int .i64 0, .slice none 0 0, .slice none 0 0, .string ⟨#[]⟩, .slice none 0 0])
      have GZ : Hid (W.heap.size ≤ wa.heap.size) := Lib.hid HBa.out.size
      generalize wa.alloc (.cells #[.int .i64 0, .int .i64 0, .int .i64 0, .int .i64 0, .slice none 0 0, .slice none 0 0, .string ⟨#[]⟩, .slice none 0 0] 38) = wb at *
      generalize wa.heap.size = g at *
      (try dsimp only)
      refine hK.out _ _ ⟨HS0.out.below HBb.out HS0.out.lt, HR0.out.below HBb.out HR0.out.lt⟩ (fun HD => ?_)
      clear hK K
      (try simp only [Act.put, List.setIfInBounds_toArray, List.set_cons_zero, List.set_cons_succ])
      refine wpAnyH_ready (rs := [4]) (by kernel_rfl) (by simp) ?_
      refine AllReadyH.cons (o := ⟨some 16, _, _, _, _, _⟩) rfl (fun K hK => ?_) (AllReadyH.nil)
      go_simp
      go_at_call 20
      refine (own_any k A c B d' E n wb ((HA0.out.below HBb.out).more HBb.out.size) hks).mono ?_
      rintro e wc ⟨Ao, co, Bo, dd, Eo, no, rfl, hown, hb⟩
      rw [show (k.cs Ao co Bo dd Eo no).toArray = #[.int .i64 k.term, .int .i64 k.vote, .int .i64 k.snp.idx, .int .i64 k.snp.term, .slice Ao k.snp.v.length co, .slice Bo k.snp.l.length dd, .string (text k.snp.b), .slice Eo k.ents.length no] from rfl]
      have HBc : Hid (Below W.heap.size W wc) := Lib.hid (HBb.out.trans (hb.mono HBb.out.size))
      obtain ⟨bo, HBO, HOW⟩ : ∃ bo, Hid (W.heap.size ≤ bo ∧ bo ≤ wc.heap.size) ∧ Hid (KepOwn wc bo k Ao Bo Eo no) := ⟨_, Lib.hid ⟨HBb.out.size, hb.size⟩, Lib.hid hown⟩
      replace G0 := Lib.hid (G0.out.below hb G0.out.lt)
      replace GZ : Hid (W.heap.size ≤ g) := GZ
      clear hb hown
      (try dsimp only)
      refine hK.out _ _ ⟨HS0.out.below HBc.out HS0.out.lt, HR0.out.below HBc.out HR0.out.lt⟩ (fun HD => ?_)
      clear hK K
      (try simp only [Act.put, List.setIfInBounds_toArray, List.set_cons_zero, List.set_cons_succ])
      refine wpAnyH_ready (rs := [6]) (by kernel_rfl) (by simp) ?_
      refine AllReadyH.cons (o := ⟨some 18, _, _, _, _, _⟩) rfl (fun K hK => ?_) (AllReadyH.nil)
      go_simp
      go_at_call 27
      have hra : RcdAt' wc (· < bo) r none none none none := ⟨by rw [HRO.out.ev]; exact RowsAt.nil, by rw [HRO.out.el]; exact RowsAt.nil, by rw [HRO.out.sv]; exact RowsAt.nil, by rw [HRO.out.sl]; exact RowsAt.nil⟩
      refine (folded_keep k r Ao co Bo dd Eo no none 0 none 0 none 0 none 0 bo wc HOW.out HBO.out.2 hok hra HRS.out).mono ?_
      clear hra
      rintro e wd ⟨k1, A2, c2, B2, d2, E2, n2, x1, hkx, rfl, hk, hb, hkp⟩
      obtain ⟨rfl, rfl⟩ : k' = k1 ∧ x = x1 := by
        have h := (hkx.trans HFO.out).symm
        exact ⟨congrArg Prod.fst h, congrArg Prod.snd h⟩
      rw [show (k'.cs A2 c2 B2 d2 E2 n2).toArray = #[.int .i64 k'.term, .int .i64 k'.vote, .int .i64 k'.snp.idx, .int .i64 k'.snp.term, .slice A2 k'.snp.v.length c2, .slice B2 k'.snp.l.length d2, .string (text k'.snp.b), .slice E2 k'.ents.length n2] from rfl]
      have HKR : Hid (KepAt wd (Nw wd W.heap.size [29, 3]) k' A2 B2 E2) := Lib.hid (hk.nw_more HBO.out.1)
      have HBd : Hid (Below W.heap.size W wd) := Lib.hid (HBc.out.trans (hb.mono HBO.out.1))
      replace G0 := Lib.hid (G0.out.keeps hkp (by decide))
      clear hb hk hkp hkx
      (try dsimp only)
      refine hK.out _ _ ⟨HS0.out.below HBd.out HS0.out.lt, HR0.out.below HBd.out HR0.out.lt⟩ (fun HD => ?_)
      clear hK K
      (try simp only [Act.put, List.setIfInBounds_toArray, List.set_cons_zero, List.set_cons_succ])
      refine wpAnyH_take (i := 7) (oi := ⟨some 11, _, _, _, _, _⟩) (v := ?_) rfl (by kernel_rfl) (by kernel_rfl) (by kernel_rfl) (fun _ _ _ h => h) (Or.inl ⟨by rfl, ?_⟩) HD ?_
      rotate_left
      · intro w hSw
        (try dsimp only at hSw)
        go_simp <;> with_reducible rfl
      (try simp only [Act.put, List.setIfInBounds_toArray, List.set_cons_zero, List.set_cons_succ])
      refine wpAnyH_take (i := 8) (oi := ⟨some 19, _, _, _, _, _⟩) (v := ?_) rfl (by kernel_rfl) (by kernel_rfl) (by kernel_rfl) (fun _ _ _ h => h) (Or.inl ⟨by rfl, ?_⟩) HD ?_
      rotate_left
      · intro w hSw
        (try dsimp only at hSw)
        go_simp <;> with_reducible rfl
      (try simp only [Act.put, List.setIfInBounds_toArray, List.set_cons_zero, List.set_cons_succ])
      refine wpAnyH_take (i := 9) (oi := ⟨some 20, _, _, _, _, _⟩) (v := ?_) rfl (by kernel_rfl) (by kernel_rfl) (by kernel_rfl) (fun _ _ _ h => h) (Or.inl ⟨by rfl, ?_⟩) HD ?_
      rotate_left
      · intro w hSw
        (try dsimp only at hSw)
        go_simp <;> with_reducible rfl
      (try simp only [Act.put, List.setIfInBounds_toArray, List.set_cons_zero, List.set_cons_succ])
      refine wpAnyH_ready (rs := [11]) (by kernel_rfl) (by simp) ?_
      refine AllReadyH.cons (o := ⟨none, _, _, _, _, _⟩) rfl (fun K hK => ?_) (AllReadyH.nil)
      refine step_store_blk rfl 38 _ _ rfl g [.int .i64 k'.term, .int .i64 k'.vote, .int .i64 k'.snp.idx, .int .i64 k'.snp.term, .slice A2 k'.snp.v.length c2, .slice B2 k'.snp.l.length d2, .string (text k'.snp.b), .slice E2 k'.ents.length n2] rfl rfl G0 (by simp) (by simp) HIK (by simp [Value.oneCell']) ?_
      intro w9 U
      have HB9 : Hid (Below W.heap.size W w9) := Lib.hid (U.out.below HBd.out GZ.out)
      have GK : Hid (KepAt w9 (Nw w9 W.heap.size [29, 3]) k' A2 B2 E2) := Lib.hid (kep_nw_keeps HKR.out U.out.keeps (by decide))
      (try dsimp only)
      refine hK.out _ _ ⟨HS0.out.below HB9.out HS0.out.lt, HR0.out.below HB9.out HR0.out.lt⟩ (fun HD => ?_)
      clear hK K
      (try simp only [Act.put, List.setIfInBounds_toArray, List.set_cons_zero, List.set_cons_succ])
      refine wpAnyH_take (i := 12) (oi := ⟨some 4, _, _, _, _, _⟩) (v := ?_) rfl (by kernel_rfl) (by kernel_rfl) (by kernel_rfl) (fun _ _ _ h => h) (Or.inl ⟨by rfl, ?_⟩) HD ?_
      rotate_left
      · intro w hSw
        (try dsimp only at hSw)
        go_simp <;> with_reducible rfl
      (try simp only [Act.put, List.setIfInBounds_toArray, List.set_cons_zero, List.set_cons_succ])
      refine wpAnyH_done (by kernel_rfl) ?_ _
      exact key Ao co Bo dd Eo no g A2 c2 B2 d2 E2 n2 w9 ⟨Lib.hid U.out.blk, GK, HB9, Lib.hid ⟨GZ.out, by have := U.out.blk.lt; omega⟩⟩
  intro Ao co Bo dd Eo no g A2 c2 B2 d2 E2 n2 V ⟨GB, GK, HBV, GZ⟩
  obtain rfl : x = 0 := HX.out
  clear HX
  have HBW : Hid (Below w.heap.size w V) := Lib.hid (HW0.out.trans (HBV.out.mono hzW))
  have HSV := Lib.hid (HS.out.below HBW.out HS.out.lt)
  have HJV := Lib.hid (HJ.out.below HBW.out HJ.out.lt)
  have HDV := Lib.hid (H.out.same (SameD.of_below HBW.out))
  have HRV := Lib.hid (HR0.out.below HBV.out HR0.out.lt)
  have hzV := HBW.out.size
  have hcels : Cels V (· < V.heap.size) shRecord r.da [.int .i64 r.kind, .int .i64 r.term, .int .i64 r.vote, .int .i64 r.ent.idx, .int .i64 r.ent.term, .int .i64 r.ent.kind, .slice none r.ent.v.length 0, .slice none r.ent.l.length 0, .string (text r.ent.b), .int .i64 r.at_, .int .i64 r.snp.idx, .int .i64 r.snp.term, .slice none r.snp.v.length 0, .slice none r.snp.l.length 0, .string (text r.snp.b)] :=
    Rcd.mk_ r 0 0 0 0 (A := none) (B := none) (A' := none) (B' := none) (by rw [HRO.out.ev]; exact RowsAt.nil) (by rw [HRO.out.el]; exact RowsAt.nil) (by rw [HRO.out.sv]; exact RowsAt.nil) (by rw [HRO.out.sl]; exact RowsAt.nil)
  have HPUT := Lib.hid (wput_Record r.da [.int .i64 r.kind, .int .i64 r.term, .int .i64 r.vote, .int .i64 r.ent.idx, .int .i64 r.ent.term, .int .i64 r.ent.kind, .slice none r.ent.v.length 0, .slice none r.ent.l.length 0, .string (text r.ent.b), .int .i64 r.at_, .int .i64 r.snp.idx, .int .i64 r.snp.term, .slice none r.snp.v.length 0, .slice none r.snp.l.length 0, .string (text r.snp.b)] V hcels (record_le _))
  clear hcels HS HJ H HS0 HA0 HR0 HFO
  go_wp2_with (first
    | (with_reducible refine wpList_load_blk rfl 33 _ rfl w.heap.size rfl HRV (by simp) Tryz.underlying33 rfl HIR ?_)
    | fail)
  refine HPUT.out.mono ?_
  rintro e w1 ⟨⟨A5, n5, c5, rfl, rfl, hc5, hr5⟩, hb1⟩
  rw [show (lays shRecord r.da ([], 0)).2 = 0 from HRO.out.put, show out (lays shRecord r.da ([], 0)) = rcB r from rfl]
  have HR5 : Hid (Reads w1 w1.heap.size A5 (rcB r).length (u8s (rcB r))) := Lib.hid hr5
  have HB1 : Hid (Below w.heap.size w w1) := Lib.hid (HBW.out.trans (hb1.mono hzV))
  have HS1v := Lib.hid (HSV.out.below hb1 HSV.out.lt)
  have HJ1 := Lib.hid (HJV.out.below hb1 HJV.out.lt)
  have HD1 := Lib.hid (HDV.out.same (SameD.of_below hb1))
  have HG1 := Lib.hid (GB.out.below hb1 GZ.out.2)
  have HK1 : Hid (KepAt w1 (Nw w1 w.heap.size [29, 3]) k' A2 B2 E2) := Lib.hid ((kep_nw_keeps GK.out (ts := []) (Keeps.of_below hb1 (Nat.le_refl _)) (by simp)).nw_more hzW)
  have hlr := HRO.out.len
  clear hr5 hb1 HSV HJV HDV GB GK HPUT HRV
  have hdl : decide (((rcB r).length : Int) > 65000) = false := by rw [decide_eq_false_iff_not]; omega
  have hdl2 : decide ((65000 : Int) < ((rcB r).length : Int)) = false := by rw [decide_eq_false_iff_not]; omega
  go_wp2_with fail
  clear hdl hdl2
  refine wp_region_held_drew (S := fun w' => w'.cell? ⟨s, 1, none⟩ = some (.pointer (some ⟨j, 0, none⟩))) (by kernel_rfl) (HS1v.out.cell 1) (fun HD => ?_)
  refine wpAnyH_take (i := 0) (oi := ⟨some 32, _, _, _, _, _⟩) (v := (.pointer (some ⟨s, 0, none⟩))) rfl (by kernel_rfl) (by kernel_rfl) (by kernel_rfl) (fun _ _ _ h => h) (Or.inl ⟨by rfl, ?_⟩) HD ?_
  · intro w' hw'
    (go_simp; try with_reducible rfl)
  (try simp only [Act.put, List.setIfInBounds_toArray, List.set_cons_zero, List.set_cons_succ])
  refine wpAnyH_take (i := 1) (oi := ⟨some 33, _, _, _, _, _⟩) (v := (.pointer (some ⟨s, 0, none⟩))) rfl (by kernel_rfl) (by kernel_rfl) (by kernel_rfl) (fun _ _ _ h => h) (Or.inl ⟨by rfl, ?_⟩) HD ?_
  · intro w' hw'
    (go_simp; try with_reducible rfl)
  (try simp only [Act.put, List.setIfInBounds_toArray, List.set_cons_zero, List.set_cons_succ])
  refine wpAnyH_take (i := 2) (oi := ⟨some 34, _, _, _, _, _⟩) (v := (.pointer (some ⟨s, 1, none⟩))) rfl (by kernel_rfl) (by kernel_rfl) (by kernel_rfl) (fun _ _ _ h => h) (Or.inl ⟨by rfl, ?_⟩) HD ?_
  · intro w' hw'
    (go_simp; try with_reducible rfl)
  (try simp only [Act.put, List.setIfInBounds_toArray, List.set_cons_zero, List.set_cons_succ])
  refine wpAnyH_take (i := 3) (oi := ⟨some 35, _, _, _, _, _⟩) (v := (.pointer (some ⟨j, 0, none⟩))) rfl (by kernel_rfl) (by kernel_rfl) (by kernel_rfl) (fun _ _ _ h => h) (Or.inl ⟨by rfl, ?_⟩) HD ?_
  · intro w' hw'
    (go_simp; try with_reducible rfl)
  (try simp only [Act.put, List.setIfInBounds_toArray, List.set_cons_zero, List.set_cons_succ])
  refine wpAnyH_take (i := 4) (oi := ⟨some 36, _, _, _, _, _⟩) (v := (.slice A5 (rcB r).length c5)) rfl (by kernel_rfl) (by kernel_rfl) (by kernel_rfl) (fun _ _ _ h => h) (Or.inl ⟨by rfl, ?_⟩) HD ?_
  · intro w' hw'
    (go_simp; try with_reducible rfl)
  (try simp only [Act.put, List.setIfInBounds_toArray, List.set_cons_zero, List.set_cons_succ])
  have kcv : (convert 72 9 (.slice A5 (rcB r).length c5)).run Tryz.prog w1.drew = .ok (.string (text (rcB r))) w1.drew := run_text Tryz.underlying72 Tryz.underlying5 Tryz.underlying9 (HR5.out : Reads w1.drew w1.heap.size A5 (rcB r).length (u8s (rcB r)))
  refine wpAnyH_ready (rs := [5]) (by kernel_rfl) (by simp) ?_
  refine AllReadyH.cons (o := ⟨some 37, _, _, _, _, _⟩) rfl (fun K hK => ?_) AllReadyH.nil
  go_simp
  refine hK.out _ _ HD (fun HD => ?_)
  clear hK K kcv
  (try simp only [Act.put, List.setIfInBounds_toArray, List.set_cons_zero, List.set_cons_succ])
  have hcat : ∀ l : List UInt8, (⟨#[114]⟩ : ByteArray) ++ text l = text (114 :: l) := fun l => text_app [114] l
  have hts : (text (rcB r)).size ≤ 1000 := by simpa [text, ByteArray.size] using hlr
  refine wpAnyH_take (i := 6) (oi := ⟨some 38, _, _, _, _, _⟩) (v := (.string (text (114 :: rcB r)))) rfl (by kernel_rfl) (by kernel_rfl) (by kernel_rfl) (fun _ _ _ h => h) (Or.inl ⟨by rfl, ?_⟩) HD ?_
  · intro w' hw'
    (go_simp; first | (with_reducible rfl) | omega)
  (try simp only [Act.put, List.setIfInBounds_toArray, List.set_cons_zero, List.set_cons_succ])
  refine wpAnyH_ready (rs := [7]) (by kernel_rfl) (by simp) ?_
  refine AllReadyH.cons (o := ⟨some 39, _, _, _, _, _⟩) rfl (fun K hK => ?_) AllReadyH.nil
  go_simp
  go_at_call 29
  have hfi := HFI.out
  have hbd : base ≤ w1.drew.heap.size := Nat.le_trans hbw HB1.out.size
  refine (Append_any (w := w1.drew) (HD1.out.same (SameD.of_below (Below.refl _ _).drew)) hbd HJ1.out.drew hgj (HT.out.below HB1.out.drew (by omega)) hTb (114 :: rcB r) (by simp; omega) hl hnl hfi.len (by have := hfi.small.cs; omega) (by have := hfi.small.now; omega) hfi.few (by omega)).mono ?_
  rintro e w2 ⟨rfl, hjt⟩
  have HS2 := Lib.hid (HS1v.out.drew.keeps hjt.keeps (by decide))
  have HG2 := Lib.hid (HG1.out.drew.keeps hjt.keeps (by decide))
  have HK2 := Lib.hid (kep_nw_keeps (kep_nw_keeps HK1.out (ts := []) (Keeps.drew _) (by simp)) hjt.keeps (by decide))
  have HJT := Lib.hid hjt
  clear hjt hfi HS1v HG1 HK1 HJ1
  refine hK.out _ _ (HS2.out.cell 1) (fun HD => ?_)
  clear hK K
  (try simp only [Act.put, List.setIfInBounds_toArray, List.set_cons_zero, List.set_cons_succ])
  refine wpAnyH_take (i := 8) (oi := ⟨some 8, _, _, _, _, _⟩) (v := (.int .i64 0)) rfl (by kernel_rfl) (by kernel_rfl) (by kernel_rfl) (fun _ _ _ h => h) (Or.inl ⟨by rfl, ?_⟩) HD ?_
  · intro w' hw'
    (go_simp; try with_reducible rfl)
  (try simp only [Act.put, List.setIfInBounds_toArray, List.set_cons_zero, List.set_cons_succ])
  refine wpAnyH_done (by kernel_rfl) ?_ _
  clear HD hcat
  go_wp2_with (first
    | (with_reducible refine wpList_load_blk rfl 38 _ rfl g rfl HG2 (by simp) Tryz.underlying38 rfl HIK ?_)
    | ((with_reducible refine wpList_store_at rfl 38 _ _ rfl s 4 rfl HS2 [.pointer (some ⟨d, 0, none⟩), .pointer (some ⟨j, 0, none⟩), .int .i64 at0, .int .i64 gen0] [.int .i64 k.term, .int .i64 k.vote, .int .i64 k.snp.idx, .int .i64 k.snp.term, .slice A k.snp.v.length c, .slice B k.snp.l.length d', .string (text k.snp.b), .slice E k.ents.length n] [] [.int .i64 k'.term, .int .i64 k'.vote, .int .i64 k'.snp.idx, .int .i64 k'.snp.term, .slice A2 k'.snp.v.length c2, .slice B2 k'.snp.l.length d2, .string (text k'.snp.b), .slice E2 k'.ents.length n2] rfl rfl rfl (by simp) (by simp) HIK (by simp [Value.oneCell']) ?_)
       intro w3 V3)
    | fail)
  go_ret
  have hkst : Keeps [53] w2 w3 := V3.out.keeps
  refine ⟨rfl, ⟨A2, c2, B2, d2, E2, n2, V3.out.blk, kep_nw_keeps HK2.out hkst (by decide)⟩, ?_, ?_, ?_, ?_⟩
  · rw [HS1.out]
    refine (show DiskAt w2 base d _ _ _ from HJT.out.at_).same ⟨Nat.le_of_eq V3.out.size.symm, fun q o ho hd => ?_⟩
    by_cases hq : q = s
    · subst hq
      have h1 := HS2.out
      unfold Blk at h1
      rw [ho] at h1
      injection h1 with h1
      subst h1
      exact absurd hd (by simp [isD])
    · exact (V3.out.far q hq).trans ho
  · have hbj := HJT.out.blk.keeps hkst (by decide)
    simpa [jCs, rcS] using hbj
  · exact V3.out.below ((HB1.out.drew.mono hbw).trans HJT.out.bel) hge
  · exact ((Keeps.of_below HB1.out.drew (Nat.le_refl _)).trans (HJT.out.keeps.more (by simp))).trans (hkst.more (by simp))
end Go.Proofs.YtkdmfjpfanmgmaaGreatDoor
namespace Go.Proofs.YtkdmfjpfanmgmaaGreatDoor
open Go.RowKit Le Go.Maps
set_option maxRecDepth 100000
set_option linter.unusedSimpArgs false
set_option linter.unusedVariables false
set_option maxHeartbeats 6400000 in
theorem save_bad {w : World} {base d s j : Nat} {at0 gen0 : Int} {k k' : Kep} {r : Rcd} {x : Nat} {A : Option Addr} {c : Nat} {B : Option Addr} {d' : Nat} {E : Option Addr} {n : Nat} {name : List UInt8} {log marks mark many safe : Nat} {s0 s1 : DS} (h : DiskAt w base d s0.lasts s0.now s0.cs) (hbw : base ≤ w.heap.size) (hs : Blk w s 53 [.pointer (some ⟨d, 0, none⟩), .pointer (some ⟨j, 0, none⟩), .int .i64 at0, .int .i64 gen0, .int .i64 k.term, .int .i64 k.vote, .int .i64 k.snp.idx, .int .i64 k.snp.term, .slice A k.snp.v.length c, .slice B k.snp.l.length d', .string (text k.snp.b), .slice E k.ents.length n]) (hge : base ≤ s)
    (hA : KepAt w (· < w.heap.size) k A B E) (hks : k.Small) (hok : OkK k) (hro : RcOk r) (hfo : (if mayP r then foldedP k r else (.zero, 140)) = (k', x)) (hx : x ≠ 0) :
    Calls Tryz.prog 8 #[.pointer (some ⟨s, 0, none⟩), .agg #[.int .i64 r.kind, .int .i64 r.term, .int .i64 r.vote, .int .i64 r.ent.idx, .int .i64 r.ent.term, .int .i64 r.ent.kind, .slice none r.ent.v.length 0, .slice none r.ent.l.length 0, .string (text r.ent.b), .int .i64 r.at_, .int .i64 r.snp.idx, .int .i64 r.snp.term, .slice none r.snp.v.length 0, .slice none r.snp.l.length 0, .string (text r.snp.b)]] w fun e w' => e = .returned (.int .i64 x) ∧ Below w.heap.size w w' := by
  have HIK : Hid ((Tryz.prog.info? 38).map (·.size) = some 8) := Lib.hid (by kernel_rfl)
  have HIR : Hid ((Tryz.prog.info? 33).map (·.size) = some 15) := Lib.hid (by kernel_rfl)
  have HRO := Lib.hid hro
  have HFO := Lib.hid hfo
  have HRS : Hid r.Small := Lib.hid ⟨⟨by rw [hro.ev]; decide, by rw [hro.el]; decide⟩, ⟨by rw [hro.sv]; decide, by rw [hro.sl]; decide⟩⟩
  have HS := Lib.hid hs
  have HA := Lib.hid hA
  have H := Lib.hid h
  have HX := Lib.hid hx
  have hxi : ((x : Int) != 0) = true := by simpa using hx
  have hxe : ((x : Int) == 0) = false := by simpa using hx
  clear h hs hA hro hfo hx 
  go_enter Tryz.func8, Tryz.ntmps8
  go_wp2_with fail
  refine at_worldC _ fun W hW => ?_
  have HW0 : Hid (Below w.heap.size w W) := Lib.hid (by rw [hW]; exact (Below.refl _ _).alloc (Nat.le_refl _) _)
  have HR0 : Hid (Blk W w.heap.size 33 [.int .i64 r.kind, .int .i64 r.term, .int .i64 r.vote, .int .i64 r.ent.idx, .int .i64 r.ent.term, .int .i64 r.ent.kind, .slice none r.ent.v.length 0, .slice none r.ent.l.length 0, .string (text r.ent.b), .int .i64 r.at_, .int .i64 r.snp.idx, .int .i64 r.snp.term, .slice none r.snp.v.length 0, .slice none r.snp.l.length 0, .string (text r.snp.b)]) := Lib.hid (by rw [hW]; exact Blk.new w _ [.int .i64 r.kind, .int .i64 r.term, .int .i64 r.vote, .int .i64 r.ent.idx, .int .i64 r.ent.term, .int .i64 r.ent.kind, .slice none r.ent.v.length 0, .slice none r.ent.l.length 0, .string (text r.ent.b), .int .i64 r.at_, .int .i64 r.snp.idx, .int .i64 r.snp.term, .slice none r.snp.v.length 0, .slice none r.snp.l.length 0, .string (text r.snp.b)])
  have HS0 := Lib.hid (HS.out.below HW0.out HS.out.lt)
  have HA0 : Hid (KepAt W (· < W.heap.size) k A B E) := Lib.hid ((HA.out.below HW0.out).more HW0.out.size)
  have hzW := HW0.out.size
  clear hW HA
  refine' cut14 (F := fun (_ : Option Addr) (_ : Nat) (_ : Option Addr) (_ : Nat) (_ : Option Addr) (_ : Nat) g A c B d E n V => Hid (Blk V g 38 [.int .i64 k'.term, .int .i64 k'.vote, .int .i64 k'.snp.idx, .int .i64 k'.snp.term, .slice A k'.snp.v.length c, .slice B k'.snp.l.length d, .string (text k'.snp.b), .slice E k'.ents.length n]) ∧ Hid (KepAt V (Nw V W.heap.size [29, 3]) k' A B E) ∧ Hid (Below W.heap.size W V) ∧ Hid (W.heap.size ≤ g ∧ g < V.heap.size)) (fun key => _) _
  rotate_left
  · refine wp_region_held_drew (S := fun w' => Blk w' s 53 [.pointer (some ⟨d, 0, none⟩), .pointer (some ⟨j, 0, none⟩), .int .i64 at0, .int .i64 gen0, .int .i64 k.term, .int .i64 k.vote, .int .i64 k.snp.idx, .int .i64 k.snp.term, .slice A k.snp.v.length c, .slice B k.snp.l.length d', .string (text k.snp.b), .slice E k.ents.length n] ∧ Blk w' w.heap.size 33 [.int .i64 r.kind, .int .i64 r.term, .int .i64 r.vote, .int .i64 r.ent.idx, .int .i64 r.ent.term, .int .i64 r.ent.kind, .slice none r.ent.v.length 0, .slice none r.ent.l.length 0, .string (text r.ent.b), .int .i64 r.at_, .int .i64 r.snp.idx, .int .i64 r.snp.term, .slice none r.snp.v.length 0, .slice none r.snp.l.length 0, .string (text r.snp.b)]) (by kernel_rfl) ⟨HS0.out, HR0.out⟩ (fun HD => ?_)
    refine wpAnyH_take (i := 0) (oi := ⟨some 12, _, _, _, _, _⟩) (v := (.pointer (some ⟨s, 0, none⟩))) rfl (by kernel_rfl) (by kernel_rfl) (by kernel_rfl) (fun _ _ _ h => h) (Or.inl ⟨by rfl, ?_⟩) HD ?_
    · intro w' hw'
      (go_simp; try with_reducible rfl)
    (try simp only [Act.put, List.setIfInBounds_toArray, List.set_cons_zero, List.set_cons_succ])
    refine wpAnyH_take (i := 1) (oi := ⟨some 13, _, _, _, _, _⟩) (v := (.pointer (some ⟨s, 0, none⟩))) rfl (by kernel_rfl) (by kernel_rfl) (by kernel_rfl) (fun _ _ _ h => h) (Or.inl ⟨by rfl, ?_⟩) HD ?_
    · intro w' hw'
      (go_simp; try with_reducible rfl)
    (try simp only [Act.put, List.setIfInBounds_toArray, List.set_cons_zero, List.set_cons_succ])
    refine wpAnyH_take (i := 2) (oi := ⟨some 14, _, _, _, _, _⟩) (v := (.pointer (some ⟨s, 4, none⟩))) rfl (by kernel_rfl) (by kernel_rfl) (by kernel_rfl) (fun _ _ _ h => h) (Or.inl ⟨by rfl, ?_⟩) HD ?_
    · intro w' hw'
      (go_simp; try with_reducible rfl)
    (try simp only [Act.put, List.setIfInBounds_toArray, List.set_cons_zero, List.set_cons_succ])
    refine wpAnyH_take (i := 3) (oi := ⟨some 15, _, _, _, _, _⟩) (v := _) rfl (by kernel_rfl) (by kernel_rfl) (by kernel_rfl) (fun _ _ _ h => h) (yieldsIf_load_mid (by rfl) _ _ rfl s 4 rfl [.int .i64 k.term, .int .i64 k.vote, .int .i64 k.snp.idx, .int .i64 k.snp.term, .slice A k.snp.v.length c, .slice B k.snp.l.length d', .string (text k.snp.b), .slice E k.ents.length n] _ (fun _ h => h.1.rangeMid (pre := [.pointer (some ⟨d, 0, none⟩), .pointer (some ⟨j, 0, none⟩), .int .i64 at0, .int .i64 gen0]) (post := []) rfl) Tryz.underlying38 rfl HIK.out) HD ?_
    (try simp only [Act.put, List.setIfInBounds_toArray, List.set_cons_zero, List.set_cons_succ])
    refine wpAnyH_take (i := 5) (oi := ⟨some 17, _, _, _, _, _⟩) (v := _) rfl (by kernel_rfl) (by kernel_rfl) (by kernel_rfl) (fun _ _ _ h => h) (yieldsIf_load_mid (by rfl) _ _ rfl w.heap.size 0 rfl [.int .i64 r.kind, .int .i64 r.term, .int .i64 r.vote, .int .i64 r.ent.idx, .int .i64 r.ent.term, .int .i64 r.ent.kind, .slice none r.ent.v.length 0, .slice none r.ent.l.length 0, .string (text r.ent.b), .int .i64 r.at_, .int .i64 r.snp.idx, .int .i64 r.snp.term, .slice none r.snp.v.length 0, .slice none r.snp.l.length 0, .string (text r.snp.b)] _ (fun _ h => h.2.range0) Tryz.underlying33 rfl HIR.out) HD ?_
    (try simp only [Act.put, List.setIfInBounds_toArray, List.set_cons_zero, List.set_cons_succ])
    have HBa : Hid (Below W.heap.size W W.drew) := Lib.hid (Below.refl _ _).drew
    generalize W.drew = wa at *
    refine wpAnyH_ready (rs := [4, 10]) (by kernel_rfl) (by simp) ?_
    refine AllReadyH.cons (o := ⟨some 16, _, _, _, _, _⟩) rfl (fun K hK => ?_) (AllReadyH.cons (o := ⟨some 5, _, _, _, _, _⟩) rfl (fun K hK => ?_) (AllReadyH.nil))
    · go_simp
      go_at_call 20
      refine (own_any k A c B d' E n wa ((HA0.out.below HBa.out).more HBa.out.size) hks).mono ?_
      rintro e wb ⟨Ao, co, Bo, dd, Eo, no, rfl, hown, hb⟩
      rw [show (k.cs Ao co Bo dd Eo no).toArray = #[.int .i64 k.term, .int .i64 k.vote, .int .i64 k.snp.idx, .int .i64 k.snp.term, .slice Ao k.snp.v.length co, .slice Bo k.snp.l.length dd, .string (text k.snp.b), .slice Eo k.ents.length no] from rfl]
      have HBb : Hid (Below W.heap.size W wb) := Lib.hid (HBa.out.trans (hb.mono HBa.out.size))
      obtain ⟨bo, HBO, HOW⟩ : ∃ bo, Hid (W.heap.size ≤ bo ∧ bo ≤ wb.heap.size) ∧ Hid (KepOwn wb bo k Ao Bo Eo no) := ⟨_, Lib.hid ⟨HBa.out.size, hb.size⟩, Lib.hid hown⟩
      clear hb hown
      (try dsimp only)
      refine hK.out _ _ ⟨HS0.out.below HBb.out HS0.out.lt, HR0.out.below HBb.out HR0.out.lt⟩ (fun HD => ?_)
      clear hK K
      (try simp only [Act.put, List.setIfInBounds_toArray, List.set_cons_zero, List.set_cons_succ])
      refine wpAnyH_ready (rs := [6, 10]) (by kernel_rfl) (by simp) ?_
      refine AllReadyH.cons (o := ⟨some 18, _, _, _, _, _⟩) rfl (fun K hK => ?_) (AllReadyH.cons (o := ⟨some 5, _, _, _, _, _⟩) rfl (fun K hK => ?_) (AllReadyH.nil))
      · go_simp
        go_at_call 27
        have hra : RcdAt' wb (· < bo) r none none none none := ⟨by rw [HRO.out.ev]; exact RowsAt.nil, by rw [HRO.out.el]; exact RowsAt.nil, by rw [HRO.out.sv]; exact RowsAt.nil, by rw [HRO.out.sl]; exact RowsAt.nil⟩
        refine (folded_keep k r Ao co Bo dd Eo no none 0 none 0 none 0 none 0 bo wb HOW.out HBO.out.2 hok hra HRS.out).mono ?_
        clear hra
        rintro e wc ⟨k1, A2, c2, B2, d2, E2, n2, x1, hkx, rfl, hk, hb, hkp⟩
        obtain ⟨rfl, rfl⟩ : k' = k1 ∧ x = x1 := by
          have h := (hkx.trans HFO.out).symm
          exact ⟨congrArg Prod.fst h, congrArg Prod.snd h⟩
        rw [show (k'.cs A2 c2 B2 d2 E2 n2).toArray = #[.int .i64 k'.term, .int .i64 k'.vote, .int .i64 k'.snp.idx, .int .i64 k'.snp.term, .slice A2 k'.snp.v.length c2, .slice B2 k'.snp.l.length d2, .string (text k'.snp.b), .slice E2 k'.ents.length n2] from rfl]
        have HKR : Hid (KepAt wc (Nw wc W.heap.size [29, 3]) k' A2 B2 E2) := Lib.hid (hk.nw_more HBO.out.1)
        have HBc : Hid (Below W.heap.size W wc) := Lib.hid (HBb.out.trans (hb.mono HBO.out.1))
        clear hb hk hkp hkx
        (try dsimp only)
        refine hK.out _ _ ⟨HS0.out.below HBc.out HS0.out.lt, HR0.out.below HBc.out HR0.out.lt⟩ (fun HD => ?_)
        clear hK K
        (try simp only [Act.put, List.setIfInBounds_toArray, List.set_cons_zero, List.set_cons_succ])
        refine wpAnyH_take (i := 7) (oi := ⟨some 11, _, _, _, _, _⟩) (v := ?_) rfl (by kernel_rfl) (by kernel_rfl) (by kernel_rfl) (fun _ _ _ h => h) (Or.inl ⟨by rfl, ?_⟩) HD ?_
        rotate_left
        · intro w hSw
          (try dsimp only at hSw)
          go_simp <;> with_reducible rfl
        (try simp only [Act.put, List.setIfInBounds_toArray, List.set_cons_zero, List.set_cons_succ])
        refine wpAnyH_take (i := 8) (oi := ⟨some 19, _, _, _, _, _⟩) (v := ?_) rfl (by kernel_rfl) (by kernel_rfl) (by kernel_rfl) (fun _ _ _ h => h) (Or.inl ⟨by rfl, ?_⟩) HD ?_
        rotate_left
        · intro w hSw
          (try dsimp only at hSw)
          go_simp <;> with_reducible rfl
        (try simp only [Act.put, List.setIfInBounds_toArray, List.set_cons_zero, List.set_cons_succ])
        refine wpAnyH_take (i := 9) (oi := ⟨some 20, _, _, _, _, _⟩) (v := ?_) rfl (by kernel_rfl) (by kernel_rfl) (by kernel_rfl) (fun _ _ _ h => h) (Or.inl ⟨by rfl, ?_⟩) HD ?_
        rotate_left
        · intro w hSw
          (try dsimp only at hSw)
          go_simp <;> with_reducible rfl
        (try simp only [Act.put, List.setIfInBounds_toArray, List.set_cons_zero, List.set_cons_succ])
        refine wpAnyH_ready (rs := [10]) (by kernel_rfl) (by simp) ?_
        refine AllReadyH.cons (o := ⟨some 5, _, _, _, _, _⟩) rfl (fun K hK => ?_) (AllReadyH.nil)
        go_simp
        replace HKR := Lib.hid (kep_nw_keeps HKR.out (ts := []) (Keeps.alloc wc (.cells #[.int .i64 0, .int .i64 0, .int .i64 0, .int .i64 0, .slice none 0 0, .slice none 0 0, .string ⟨#[]⟩, .slice none 0 0] 38)) (by simp))
        have HBd : Hid (Below W.heap.size W (wc.alloc (.cells #[.int .i64 0, .int .i64 0, .int .i64 0, .int .i64 0, .slice none 0 0, .slice none 0 0, .string ⟨#[]⟩, .slice none 0 0] 38))) := Lib.hid (HBc.out.alloc HBc.out.size _)
        have G0 : Hid (Blk (wc.alloc (.cells #[.int .i64 0, .int .i64 0, .int .i64 0, .int .i64 0, .slice none 0 0, .slice none 0 0, .string ⟨#[]⟩, .slice none 0 0] 38)) wc.heap.size 38 [.int .i64 0, .int .i64 0, .int .i64 0, .int .i64 0, .slice none 0 0, .slice none 0 0, .string ⟨#[]⟩, .slice none 0 0]) := Lib.hid (Blk.new wc 38 [.int .i64 0, .int .i64 0, .int .i64 0, .int .i64 0, .slice none 0 0, .slice none 0 0, .string ⟨#[]⟩, .slice none 0 0])
        have GZ : Hid (W.heap.size ≤ wc.heap.size) := Lib.hid HBc.out.size
        generalize wc.alloc (.cells #[.int .i64 0, .int .i64 0, .int .i64 0, .int .i64 0, .slice none 0 0, .slice none 0 0, .string ⟨#[]⟩, .slice none 0 0] 38) = wd at *
        generalize wc.heap.size = g at *
        (try dsimp only)
        refine hK.out _ _ ⟨HS0.out.below HBd.out HS0.out.lt, HR0.out.below HBd.out HR0.out.lt⟩ (fun HD => ?_)
        clear hK K
        (try simp only [Act.put, List.setIfInBounds_toArray, List.set_cons_zero, List.set_cons_succ])
        refine wpAnyH_ready (rs := [11]) (by kernel_rfl) (by simp) ?_
        refine AllReadyH.cons (o := ⟨none, _, _, _, _, _⟩) rfl (fun K hK => ?_) (AllReadyH.nil)
        refine step_store_blk rfl 38 _ _ rfl g [.int .i64 k'.term, .int .i64 k'.vote, .int .i64 k'.snp.idx, .int .i64 k'.snp.term, .slice A2 k'.snp.v.length c2, .slice B2 k'.snp.l.length d2, .string (text k'.snp.b), .slice E2 k'.ents.length n2] rfl rfl G0 (by simp) (by simp) HIK (by simp [Value.oneCell']) ?_
        intro w9 U
        have HB9 : Hid (Below W.heap.size W w9) := Lib.hid (U.out.below HBd.out GZ.out)
        have GK : Hid (KepAt w9 (Nw w9 W.heap.size [29, 3]) k' A2 B2 E2) := Lib.hid (kep_nw_keeps HKR.out U.out.keeps (by decide))
        (try dsimp only)
        refine hK.out _ _ ⟨HS0.out.below HB9.out HS0.out.lt, HR0.out.below HB9.out HR0.out.lt⟩ (fun HD => ?_)
        clear hK K
        (try simp only [Act.put, List.setIfInBounds_toArray, List.set_cons_zero, List.set_cons_succ])
        refine wpAnyH_take (i := 12) (oi := ⟨some 4, _, _, _, _, _⟩) (v := ?_) rfl (by kernel_rfl) (by kernel_rfl) (by kernel_rfl) (fun _ _ _ h => h) (Or.inl ⟨by rfl, ?_⟩) HD ?_
        rotate_left
        · intro w hSw
          (try dsimp only at hSw)
          go_simp <;> with_reducible rfl
        (try simp only [Act.put, List.setIfInBounds_toArray, List.set_cons_zero, List.set_cons_succ])
        refine wpAnyH_done (by kernel_rfl) ?_ _
        exact key Ao co Bo dd Eo no g A2 c2 B2 d2 E2 n2 w9 ⟨Lib.hid U.out.blk, GK, HB9, Lib.hid ⟨GZ.out, by have := U.out.blk.lt; omega⟩⟩
      · go_simp
        replace HOW := Lib.hid (HOW.out.keeps (ts := []) (Keeps.alloc wb (.cells #[.int .i64 0, .int .i64 0, .int .i64 0, .int .i64 0, .slice none 0 0, .slice none 0 0, .string ⟨#[]⟩, .slice none 0 0] 38)) (by simp) (by simp))
        replace HBO : Hid (W.heap.size ≤ bo ∧ bo ≤ (wb.alloc (.cells #[.int .i64 0, .int .i64 0, .int .i64 0, .int .i64 0, .slice none 0 0, .slice none 0 0, .string ⟨#[]⟩, .slice none 0 0] 38)).heap.size) := Lib.hid ⟨HBO.out.1, by have := HBO.out.2; simp; omega⟩
        have HBc : Hid (Below W.heap.size W (wb.alloc (.cells #[.int .i64 0, .int .i64 0, .int .i64 0, .int .i64 0, .slice none 0 0, .slice none 0 0, .string ⟨#[]⟩, .slice none 0 0] 38))) := Lib.hid (HBb.out.alloc HBb.out.size _)
        have G0 : Hid (Blk (wb.alloc (.cells #[.int .i64 0, .int .i64 0, .int .i64 0, .int .i64 0, .slice none 0 0, .slice none 0 0, .string ⟨#[]⟩, .slice none 0 0] 38)) wb.heap.size 38 [.int .i64 0, .int .i64 0, .int .i64 0, .int .i64 0, .slice none 0 0, .slice none 0 0, .string ⟨#[]⟩, .slice none 0 0]) := Lib.hid (Blk.new wb 38 [.int .i64 0, .int .i64 0, .int .i64 0, .int .i64 0, .slice none 0 0, .slice none 0 0, .string ⟨#[]⟩, .slice none 0 0])
        have GZ : Hid (W.heap.size ≤ wb.heap.size) := Lib.hid HBb.out.size
        generalize wb.alloc (.cells #[.int .i64 0, .int .i64 0, .int .i64 0, .int .i64 0, .slice none 0 0, .slice none 0 0, .string ⟨#[]⟩, .slice none 0 0] 38) = wc at *
        generalize wb.heap.size = g at *
        (try dsimp only)
        refine hK.out _ _ ⟨HS0.out.below HBc.out HS0.out.lt, HR0.out.below HBc.out HR0.out.lt⟩ (fun HD => ?_)
        clear hK K
        (try simp only [Act.put, List.setIfInBounds_toArray, List.set_cons_zero, List.set_cons_succ])
        refine wpAnyH_ready (rs := [6]) (by kernel_rfl) (by simp) ?_
        refine AllReadyH.cons (o := ⟨some 18, _, _, _, _, _⟩) rfl (fun K hK => ?_) (AllReadyH.nil)
        go_simp
        go_at_call 27
        have hra : RcdAt' wc (· < bo) r none none none none := ⟨by rw [HRO.out.ev]; exact RowsAt.nil, by rw [HRO.out.el]; exact RowsAt.nil, by rw [HRO.out.sv]; exact RowsAt.nil, by rw [HRO.out.sl]; exact RowsAt.nil⟩
        refine (folded_keep k r Ao co Bo dd Eo no none 0 none 0 none 0 none 0 bo wc HOW.out HBO.out.2 hok hra HRS.out).mono ?_
        clear hra
        rintro e wd ⟨k1, A2, c2, B2, d2, E2, n2, x1, hkx, rfl, hk, hb, hkp⟩
        obtain ⟨rfl, rfl⟩ : k' = k1 ∧ x = x1 := by
          have h := (hkx.trans HFO.out).symm
          exact ⟨congrArg Prod.fst h, congrArg Prod.snd h⟩
        rw [show (k'.cs A2 c2 B2 d2 E2 n2).toArray = #[.int .i64 k'.term, .int .i64 k'.vote, .int .i64 k'.snp.idx, .int .i64 k'.snp.term, .slice A2 k'.snp.v.length c2, .slice B2 k'.snp.l.length d2, .string (text k'.snp.b), .slice E2 k'.ents.length n2] from rfl]
        have HKR : Hid (KepAt wd (Nw wd W.heap.size [29, 3]) k' A2 B2 E2) := Lib.hid (hk.nw_more HBO.out.1)
        have HBd : Hid (Below W.heap.size W wd) := Lib.hid (HBc.out.trans (hb.mono HBO.out.1))
        replace G0 := Lib.hid (G0.out.keeps hkp (by decide))
        clear hb hk hkp hkx
        (try dsimp only)
        refine hK.out _ _ ⟨HS0.out.below HBd.out HS0.out.lt, HR0.out.below HBd.out HR0.out.lt⟩ (fun HD => ?_)
        clear hK K
        (try simp only [Act.put, List.setIfInBounds_toArray, List.set_cons_zero, List.set_cons_succ])
        refine wpAnyH_take (i := 7) (oi := ⟨some 11, _, _, _, _, _⟩) (v := ?_) rfl (by kernel_rfl) (by kernel_rfl) (by kernel_rfl) (fun _ _ _ h => h) (Or.inl ⟨by rfl, ?_⟩) HD ?_
        rotate_left
        · intro w hSw
          (try dsimp only at hSw)
          go_simp <;> with_reducible rfl
        (try simp only [Act.put, List.setIfInBounds_toArray, List.set_cons_zero, List.set_cons_succ])
        refine wpAnyH_take (i := 8) (oi := ⟨some 19, _, _, _, _, _⟩) (v := ?_) rfl (by kernel_rfl) (by kernel_rfl) (by kernel_rfl) (fun _ _ _ h => h) (Or.inl ⟨by rfl, ?_⟩) HD ?_
        rotate_left
        · intro w hSw
          (try dsimp only at hSw)
          go_simp <;> with_reducible rfl
        (try simp only [Act.put, List.setIfInBounds_toArray, List.set_cons_zero, List.set_cons_succ])
        refine wpAnyH_take (i := 9) (oi := ⟨some 20, _, _, _, _, _⟩) (v := ?_) rfl (by kernel_rfl) (by kernel_rfl) (by kernel_rfl) (fun _ _ _ h => h) (Or.inl ⟨by rfl, ?_⟩) HD ?_
        rotate_left
        · intro w hSw
          (try dsimp only at hSw)
          go_simp <;> with_reducible rfl
        (try simp only [Act.put, List.setIfInBounds_toArray, List.set_cons_zero, List.set_cons_succ])
        refine wpAnyH_ready (rs := [11]) (by kernel_rfl) (by simp) ?_
        refine AllReadyH.cons (o := ⟨none, _, _, _, _, _⟩) rfl (fun K hK => ?_) (AllReadyH.nil)
        refine step_store_blk rfl 38 _ _ rfl g [.int .i64 k'.term, .int .i64 k'.vote, .int .i64 k'.snp.idx, .int .i64 k'.snp.term, .slice A2 k'.snp.v.length c2, .slice B2 k'.snp.l.length d2, .string (text k'.snp.b), .slice E2 k'.ents.length n2] rfl rfl G0 (by simp) (by simp) HIK (by simp [Value.oneCell']) ?_
        intro w9 U
        have HB9 : Hid (Below W.heap.size W w9) := Lib.hid (U.out.below HBd.out GZ.out)
        have GK : Hid (KepAt w9 (Nw w9 W.heap.size [29, 3]) k' A2 B2 E2) := Lib.hid (kep_nw_keeps HKR.out U.out.keeps (by decide))
        (try dsimp only)
        refine hK.out _ _ ⟨HS0.out.below HB9.out HS0.out.lt, HR0.out.below HB9.out HR0.out.lt⟩ (fun HD => ?_)
        clear hK K
        (try simp only [Act.put, List.setIfInBounds_toArray, List.set_cons_zero, List.set_cons_succ])
        refine wpAnyH_take (i := 12) (oi := ⟨some 4, _, _, _, _, _⟩) (v := ?_) rfl (by kernel_rfl) (by kernel_rfl) (by kernel_rfl) (fun _ _ _ h => h) (Or.inl ⟨by rfl, ?_⟩) HD ?_
        rotate_left
        · intro w hSw
          (try dsimp only at hSw)
          go_simp <;> with_reducible rfl
        (try simp only [Act.put, List.setIfInBounds_toArray, List.set_cons_zero, List.set_cons_succ])
        refine wpAnyH_done (by kernel_rfl) ?_ _
        exact key Ao co Bo dd Eo no g A2 c2 B2 d2 E2 n2 w9 ⟨Lib.hid U.out.blk, GK, HB9, Lib.hid ⟨GZ.out, by have := U.out.blk.lt; omega⟩⟩
    · go_simp
      have HBb : Hid (Below W.heap.size W (wa.alloc (.cells #[.int .i64 0, .int .i64 0, .int .i64 0, .int .i64 0, .slice none 0 0, .slice none 0 0, .string ⟨#[]⟩, .slice none 0 0] 38))) := Lib.hid (HBa.out.alloc HBa.out.size _)
      have G0 : Hid (Blk (wa.alloc (.cells #[.int .i64 0, .int .i64 0, .int .i64 0, .int .i64 0, .slice none 0 0, .slice none 0 0, .string ⟨#[]⟩, .slice none 0 0] 38)) wa.heap.size 38 [.int .i64 0, .int .i64 0, .int .i64 0, .int .i64 0, .slice none 0 0, .slice none 0 0, .string ⟨#[]⟩, .slice none 0 0]) := Lib.hid (Blk.new wa 38 [.int .i64 0, .int .i64 0, .int .i64 0, .int .i64 0, .slice none 0 0, .slice none 0 0, .string ⟨#[]⟩, .slice none 0 0])
      have GZ : Hid (W.heap.size ≤ wa.heap.size) := Lib.hid HBa.out.size
      generalize wa.alloc (.cells #[.int .i64 0, .int .i64 0, .int .i64 0, .int .i64 0, .slice none 0 0, .slice none 0 0, .string ⟨#[]⟩, .slice none 0 0] 38) = wb at *
      generalize wa.heap.size = g at *
      (try dsimp only)
      refine hK.out _ _ ⟨HS0.out.below HBb.out HS0.out.lt, HR0.out.below HBb.out HR0.out.lt⟩ (fun HD => ?_)
      clear hK K
      (try simp only [Act.put, List.setIfInBounds_toArray, List.set_cons_zero, List.set_cons_succ])
      refine wpAnyH_ready (rs := [4]) (by kernel_rfl) (by simp) ?_
      refine AllReadyH.cons (o := ⟨some 16, _, _, _, _, _⟩) rfl (fun K hK => ?_) (AllReadyH.nil)
      go_simp
      go_at_call 20
      refine (own_any k A c B d' E n wb ((HA0.out.below HBb.out).more HBb.out.size) hks).mono ?_
      rintro e wc ⟨Ao, co, Bo, dd, Eo, no, rfl, hown, hb⟩
      rw [show (k.cs Ao co Bo dd Eo no).toArray = #[.int .i64 k.term, .int .i64 k.vote, .int .i64 k.snp.idx, .int .i64 k.snp.term, .slice Ao k.snp.v.length co, .slice Bo k.snp.l.length dd, .string (text k.snp.b), .slice Eo k.ents.length no] from rfl]
      have HBc : Hid (Below W.heap.size W wc) := Lib.hid (HBb.out.trans (hb.mono HBb.out.size))
      obtain ⟨bo, HBO, HOW⟩ : ∃ bo, Hid (W.heap.size ≤ bo ∧ bo ≤ wc.heap.size) ∧ Hid (KepOwn wc bo k Ao Bo Eo no) := ⟨_, Lib.hid ⟨HBb.out.size, hb.size⟩, Lib.hid hown⟩
      replace G0 := Lib.hid (G0.out.below hb G0.out.lt)
      replace GZ : Hid (W.heap.size ≤ g) := GZ
      clear hb hown
      (try dsimp only)
      refine hK.out _ _ ⟨HS0.out.below HBc.out HS0.out.lt, HR0.out.below HBc.out HR0.out.lt⟩ (fun HD => ?_)
      clear hK K
      (try simp only [Act.put, List.setIfInBounds_toArray, List.set_cons_zero, List.set_cons_succ])
      refine wpAnyH_ready (rs := [6]) (by kernel_rfl) (by simp) ?_
      refine AllReadyH.cons (o := ⟨some 18, _, _, _, _, _⟩) rfl (fun K hK => ?_) (AllReadyH.nil)
      go_simp
      go_at_call 27
      have hra : RcdAt' wc (· < bo) r none none none none := ⟨by rw [HRO.out.ev]; exact RowsAt.nil, by rw [HRO.out.el]; exact RowsAt.nil, by rw [HRO.out.sv]; exact RowsAt.nil, by rw [HRO.out.sl]; exact RowsAt.nil⟩
      refine (folded_keep k r Ao co Bo dd Eo no none 0 none 0 none 0 none 0 bo wc HOW.out HBO.out.2 hok hra HRS.out).mono ?_
      clear hra
      rintro e wd ⟨k1, A2, c2, B2, d2, E2, n2, x1, hkx, rfl, hk, hb, hkp⟩
      obtain ⟨rfl, rfl⟩ : k' = k1 ∧ x = x1 := by
        have h := (hkx.trans HFO.out).symm
        exact ⟨congrArg Prod.fst h, congrArg Prod.snd h⟩
      rw [show (k'.cs A2 c2 B2 d2 E2 n2).toArray = #[.int .i64 k'.term, .int .i64 k'.vote, .int .i64 k'.snp.idx, .int .i64 k'.snp.term, .slice A2 k'.snp.v.length c2, .slice B2 k'.snp.l.length d2, .string (text k'.snp.b), .slice E2 k'.ents.length n2] from rfl]
      have HKR : Hid (KepAt wd (Nw wd W.heap.size [29, 3]) k' A2 B2 E2) := Lib.hid (hk.nw_more HBO.out.1)
      have HBd : Hid (Below W.heap.size W wd) := Lib.hid (HBc.out.trans (hb.mono HBO.out.1))
      replace G0 := Lib.hid (G0.out.keeps hkp (by decide))
      clear hb hk hkp hkx
      (try dsimp only)
      refine hK.out _ _ ⟨HS0.out.below HBd.out HS0.out.lt, HR0.out.below HBd.out HR0.out.lt⟩ (fun HD => ?_)
      clear hK K
      (try simp only [Act.put, List.setIfInBounds_toArray, List.set_cons_zero, List.set_cons_succ])
      refine wpAnyH_take (i := 7) (oi := ⟨some 11, _, _, _, _, _⟩) (v := ?_) rfl (by kernel_rfl) (by kernel_rfl) (by kernel_rfl) (fun _ _ _ h => h) (Or.inl ⟨by rfl, ?_⟩) HD ?_
      rotate_left
      · intro w hSw
        (try dsimp only at hSw)
        go_simp <;> with_reducible rfl
      (try simp only [Act.put, List.setIfInBounds_toArray, List.set_cons_zero, List.set_cons_succ])
      refine wpAnyH_take (i := 8) (oi := ⟨some 19, _, _, _, _, _⟩) (v := ?_) rfl (by kernel_rfl) (by kernel_rfl) (by kernel_rfl) (fun _ _ _ h => h) (Or.inl ⟨by rfl, ?_⟩) HD ?_
      rotate_left
      · intro w hSw
        (try dsimp only at hSw)
        go_simp <;> with_reducible rfl
      (try simp only [Act.put, List.setIfInBounds_toArray, List.set_cons_zero, List.set_cons_succ])
      refine wpAnyH_take (i := 9) (oi := ⟨some 20, _, _, _, _, _⟩) (v := ?_) rfl (by kernel_rfl) (by kernel_rfl) (by kernel_rfl) (fun _ _ _ h => h) (Or.inl ⟨by rfl, ?_⟩) HD ?_
      rotate_left
      · intro w hSw
        (try dsimp only at hSw)
        go_simp <;> with_reducible rfl
      (try simp only [Act.put, List.setIfInBounds_toArray, List.set_cons_zero, List.set_cons_succ])
      refine wpAnyH_ready (rs := [11]) (by kernel_rfl) (by simp) ?_
      refine AllReadyH.cons (o := ⟨none, _, _, _, _, _⟩) rfl (fun K hK => ?_) (AllReadyH.nil)
      refine step_store_blk rfl 38 _ _ rfl g [.int .i64 k'.term, .int .i64 k'.vote, .int .i64 k'.snp.idx, .int .i64 k'.snp.term, .slice A2 k'.snp.v.length c2, .slice B2 k'.snp.l.length d2, .string (text k'.snp.b), .slice E2 k'.ents.length n2] rfl rfl G0 (by simp) (by simp) HIK (by simp [Value.oneCell']) ?_
      intro w9 U
      have HB9 : Hid (Below W.heap.size W w9) := Lib.hid (U.out.below HBd.out GZ.out)
      have GK : Hid (KepAt w9 (Nw w9 W.heap.size [29, 3]) k' A2 B2 E2) := Lib.hid (kep_nw_keeps HKR.out U.out.keeps (by decide))
      (try dsimp only)
      refine hK.out _ _ ⟨HS0.out.below HB9.out HS0.out.lt, HR0.out.below HB9.out HR0.out.lt⟩ (fun HD => ?_)
      clear hK K
      (try simp only [Act.put, List.setIfInBounds_toArray, List.set_cons_zero, List.set_cons_succ])
      refine wpAnyH_take (i := 12) (oi := ⟨some 4, _, _, _, _, _⟩) (v := ?_) rfl (by kernel_rfl) (by kernel_rfl) (by kernel_rfl) (fun _ _ _ h => h) (Or.inl ⟨by rfl, ?_⟩) HD ?_
      rotate_left
      · intro w hSw
        (try dsimp only at hSw)
        go_simp <;> with_reducible rfl
      (try simp only [Act.put, List.setIfInBounds_toArray, List.set_cons_zero, List.set_cons_succ])
      refine wpAnyH_done (by kernel_rfl) ?_ _
      exact key Ao co Bo dd Eo no g A2 c2 B2 d2 E2 n2 w9 ⟨Lib.hid U.out.blk, GK, HB9, Lib.hid ⟨GZ.out, by have := U.out.blk.lt; omega⟩⟩
  intro Ao co Bo dd Eo no g A2 c2 B2 d2 E2 n2 V ⟨GB, GK, HBV, GZ⟩
  go_wp2_with fail
  go_ret
  exact ⟨rfl, HW0.out.trans (HBV.out.mono hzW)⟩
end Go.Proofs.YtkdmfjpfanmgmaaGreatDoor
namespace Go.Proofs.YtkdmfjpfanmgmaaGreatDoor
open Go.RowKit Le Go.Maps
set_option maxRecDepth 100000
set_option linter.unusedSimpArgs false
set_option linter.unusedVariables false
set_option maxHeartbeats 1600000 in
theorem ssync_any {w : World} {base d s j : Nat} {at0 gen0 : Int} {ks : List Value} {name : List UInt8} {log marks mark many safe : Nat} {s0 s1 sw s2 : DS} (h : DiskAt w base d s0.lasts s0.now s0.cs) (hbw : base ≤ w.heap.size) (hs : Blk w s 53 ([.pointer (some ⟨d, 0, none⟩), .pointer (some ⟨j, 0, none⟩), .int .i64 at0, .int .i64 gen0] ++ ks)) (hj : Blk w j 96 (jCs d name log marks mark many safe)) (hge : base ≤ j) (hT : Tab w) (hTb : 3 < base)
    (hl : name.length ≤ 8) (hnl : nameB (name ++ endL) = true) (hnm : nameB (name ++ endM) = true) (h1 : SyncS (name ++ endL) s0 s1) (hw : sw = wrS (name ++ endM) marks (frameOf (low log 4)) s1) (h2 : SyncS (name ++ endM) sw s2) (hs0 : Small s0) (hs1 : Small s1) (hF : s1.now.length ≤ 15)
    (hsw : Small sw) (hmk : ((s1.now.get (name ++ endM)).getD []).length = marks) (hne : mark ≠ log) (hlg : log ≤ 1000000) :
    Calls Tryz.prog 9 #[(.pointer (some ⟨s, 0, none⟩))] w fun e w' => e = .returned (.int .i64 0) ∧ JTo w w' base d j (jCs d name log (marks + 12) log many many) s2.lasts s2.now s2.cs := by
  have HJ := Lib.hid (jSync_any h hbw hj hge hT hTb hl hnl hnm h1 hw h2 hs0 hs1 hF hsw hmk hne hlg)
  have c1 : w.cell? ⟨s, 1, none⟩ = some (.pointer (some ⟨j, 0, none⟩)) := hs.cell 1
  clear h hs hj hT h1 hw h2 hmk
  go_enter Tryz.func9, Tryz.ntmps9
  go_wp2_with fail
  refine HJ.out.mono ?_
  rintro e w1 ⟨rfl, h⟩
  have H := Lib.hid h
  clear h
  go_wp2_with fail
  go_ret
  exact ⟨rfl, H.out⟩
set_option maxHeartbeats 1600000 in
theorem skept_any {w : World} {d s j : Nat} {at0 gen0 : Int} {k : Kep} {A : Option Addr} {c : Nat} {B : Option Addr} {d' : Nat} {E : Option Addr} {n : Nat} (hs : Blk w s 53 [.pointer (some ⟨d, 0, none⟩), .pointer (some ⟨j, 0, none⟩), .int .i64 at0, .int .i64 gen0, .int .i64 k.term, .int .i64 k.vote, .int .i64 k.snp.idx, .int .i64 k.snp.term, .slice A k.snp.v.length c, .slice B k.snp.l.length d', .string (text k.snp.b), .slice E k.ents.length n]) (hA : KepAt w (· < w.heap.size) k A B E) (hks : k.Small) :
    Calls Tryz.prog 11 #[(.pointer (some ⟨s, 0, none⟩))] w fun e w' => ∃ A2 c2 B2 d2 E2 n2, e = .returned (.agg #[.int .i64 k.term, .int .i64 k.vote, .int .i64 k.snp.idx, .int .i64 k.snp.term, .slice A2 k.snp.v.length c2, .slice B2 k.snp.l.length d2, .string (text k.snp.b), .slice E2 k.ents.length n2]) ∧ KepAt w' (· < w'.heap.size) k A2 B2 E2 ∧ Below w.heap.size w w' := by
  have HIK : Hid ((Tryz.prog.info? 38).map (·.size) = some 8) := Lib.hid (by kernel_rfl)
  have HS := Lib.hid hs
  have HA := Lib.hid hA
  clear hs hA
  have HS0 : Hid (Blk (w.alloc (.cells #[.int .i64 0, .int .i64 0, .int .i64 0, .int .i64 0, .slice none 0 0, .slice none 0 0, .string ⟨#[]⟩, .slice none 0 0] 38)) s 53 [.pointer (some ⟨d, 0, none⟩), .pointer (some ⟨j, 0, none⟩), .int .i64 at0, .int .i64 gen0, .int .i64 k.term, .int .i64 k.vote, .int .i64 k.snp.idx, .int .i64 k.snp.term, .slice A k.snp.v.length c, .slice B k.snp.l.length d', .string (text k.snp.b), .slice E k.ents.length n]) := Lib.hid (HS.out.alloc _)
  have HB0 : Hid (Below w.heap.size w (w.alloc (.cells #[.int .i64 0, .int .i64 0, .int .i64 0, .int .i64 0, .slice none 0 0, .slice none 0 0, .string ⟨#[]⟩, .slice none 0 0] 38))) := Lib.hid ((Below.refl _ _).alloc (Nat.le_refl _) _)
  have HZ0 : Hid (Blk (w.alloc (.cells #[.int .i64 0, .int .i64 0, .int .i64 0, .int .i64 0, .slice none 0 0, .slice none 0 0, .string ⟨#[]⟩, .slice none 0 0] 38)) w.heap.size 38 [.int .i64 0, .int .i64 0, .int .i64 0, .int .i64 0, .slice none 0 0, .slice none 0 0, .string ⟨#[]⟩, .slice none 0 0]) := Lib.hid (Blk.new w _ [.int .i64 0, .int .i64 0, .int .i64 0, .int .i64 0, .slice none 0 0, .slice none 0 0, .string ⟨#[]⟩, .slice none 0 0])
  go_enter Tryz.func11, Tryz.ntmps11
  go_wp2_with (first
    | (with_reducible refine wpList_load_at rfl 38 _ rfl s 4 rfl HS0 [.pointer (some ⟨d, 0, none⟩), .pointer (some ⟨j, 0, none⟩), .int .i64 at0, .int .i64 gen0] [.int .i64 k.term, .int .i64 k.vote, .int .i64 k.snp.idx, .int .i64 k.snp.term, .slice A k.snp.v.length c, .slice B k.snp.l.length d', .string (text k.snp.b), .slice E k.ents.length n] [] rfl rfl (by simp) Tryz.underlying38 rfl HIK ?_)
    | fail)
  refine (own_any k A c B d' E n _ ((HA.out.below HB0.out).more HB0.out.size) hks).mono ?_
  rintro e w1 ⟨A2, c2, B2, d2, E2, n2, rfl, hown, hb⟩
  rw [show (k.cs A2 c2 B2 d2 E2 n2).toArray = #[.int .i64 k.term, .int .i64 k.vote, .int .i64 k.snp.idx, .int .i64 k.snp.term, .slice A2 k.snp.v.length c2, .slice B2 k.snp.l.length d2, .string (text k.snp.b), .slice E2 k.ents.length n2] from rfl]
  have hk := hown.at_
  have HK1 := Lib.hid hk
  have HZ1 := Lib.hid (HZ0.out.below hb HZ0.out.lt)
  have HB1 := Lib.hid (HB0.out.trans (hb.mono (by simp)))
  clear hown hb hk HS0 HB0 HZ0
  go_wp2_with (first
    | ((with_reducible refine wpList_store_blk rfl 38 _ _ rfl w.heap.size [.int .i64 k.term, .int .i64 k.vote, .int .i64 k.snp.idx, .int .i64 k.snp.term, .slice A2 k.snp.v.length c2, .slice B2 k.snp.l.length d2, .string (text k.snp.b), .slice E2 k.ents.length n2] rfl rfl HZ1 (by simp) (by simp) HIK (by simp [Value.oneCell']) ?_)
       intro w3 V)
    | fail)
  refine bodyPost_ret (results_blk rfl _ _ w.heap.size rfl (Lib.hid V.out.blk) (by simp) Tryz.underlying38 rfl HIK) rfl ?_
  exact ⟨A2, c2, B2, d2, E2, n2, rfl, (kep_nw_keeps HK1.out V.out.keeps (by decide)).nw_lt, V.out.below HB1.out (Nat.le_refl _)⟩
/-! ### nil. -/
set_option maxHeartbeats 1600000 in
theorem ssync_nil (w : World) : Calls Tryz.prog 9 #[.pointer none] w fun e w' => e = .returned (.int .i64 3) ∧ w = w' := by
  go_enter Tryz.func9, Tryz.ntmps9
  go_wp2
  go_ret
  exact ⟨rfl, rfl⟩
set_option maxHeartbeats 1600000 in
theorem sclean_nil (w : World) : Calls Tryz.prog 10 #[.pointer none] w fun e w' => e = .returned (.int .i64 3) ∧ Below w.heap.size w w' := by
  go_enter_defers Tryz.func10, Tryz.ntmps10
  go_wp2
  simp [bodyPostD, Leaves, settle, results, Tryz.results10, go_sem]
  exact (Below.refl _ _).alloc (Nat.le_refl _) _
set_option maxHeartbeats 1600000 in
theorem skept_nil (w : World) : Calls Tryz.prog 11 #[.pointer none] w fun e w' => e = .returned (.agg #[.int .i64 0, .int .i64 0, .int .i64 0, .int .i64 0, .slice none 0 0, .slice none 0 0, .string ⟨#[]⟩, .slice none 0 0]) ∧ Below w.heap.size w w' := by
  have HIK : Hid ((Tryz.prog.info? 38).map (·.size) = some 8) := Lib.hid (by kernel_rfl)
  have HZ0 : Hid (Blk (w.alloc (.cells #[.int .i64 0, .int .i64 0, .int .i64 0, .int .i64 0, .slice none 0 0, .slice none 0 0, .string ⟨#[]⟩, .slice none 0 0] 38)) w.heap.size 38 [.int .i64 0, .int .i64 0, .int .i64 0, .int .i64 0, .slice none 0 0, .slice none 0 0, .string ⟨#[]⟩, .slice none 0 0]) := Lib.hid (Blk.new w _ [.int .i64 0, .int .i64 0, .int .i64 0, .int .i64 0, .slice none 0 0, .slice none 0 0, .string ⟨#[]⟩, .slice none 0 0])
  go_enter Tryz.func11, Tryz.ntmps11
  go_wp2
  refine bodyPost_ret (results_blk rfl _ _ w.heap.size rfl HZ0 (by simp) Tryz.underlying38 rfl HIK) rfl ?_
  exact ⟨rfl, (Below.refl _ _).alloc (Nat.le_refl _) _⟩
end Go.Proofs.YtkdmfjpfanmgmaaGreatDoor
