/- The walks of the law's vote, entry, folds. Printed by mkfold26.py. -/
import Derived.Test.YtkdmfjpfanmgmaaFold24
import Derived.Test.YtkdmfjpfanmgmaaFold25
import Derived.Deep.RegionLaw
namespace Go.Proofs.Ytkdmfjpfanmgmaa
open Go.RowKit Le
set_option maxRecDepth 100000
set_option linter.unusedSimpArgs false
set_option linter.unusedVariables false

set_option maxHeartbeats 1600000 in
theorem lvote_any (w : World) :
    Calls Try.prog 23 #[] w fun e w' => e = .returned (.agg #[.int .i64 1, .int .i64 2, .int .i64 1, .int .i64 0, .int .i64 0, .int .i64 0, .slice none 0 0, .slice none 0 0, .string ⟨#[]⟩, .int .i64 0, .int .i64 0, .int .i64 0, .slice none 0 0, .slice none 0 0, .string ⟨#[]⟩]) ∧ Below w.heap.size w w' := by
  have HI2 : Hid ((Try.prog.info? 36).map (·.size) = some 15) := Lib.hid (by kernel_rfl)
  have R2 := Lib.hid (Blk.new w 36 [.int .i64 0, .int .i64 0, .int .i64 0, .int .i64 0, .int .i64 0, .int .i64 0, .slice none 0 0, .slice none 0 0, .string ⟨#[]⟩, .int .i64 0, .int .i64 0, .int .i64 0, .slice none 0 0, .slice none 0 0, .string ⟨#[]⟩])
  go_enter Try.func23, Try.ntmps23
  go_wp2_with (first
      | ((with_reducible refine wpList_store_blk rfl 36 _ _ rfl w.heap.size [.int .i64 1, .int .i64 2, .int .i64 1, .int .i64 0, .int .i64 0, .int .i64 0, .slice none 0 0, .slice none 0 0, .string ⟨#[]⟩, .int .i64 0, .int .i64 0, .int .i64 0, .slice none 0 0, .slice none 0 0, .string ⟨#[]⟩] rfl rfl R2 (by simp) (by simp) HI2 (by simp [Value.oneCell']) ?_)
         intro w9 U))
  refine bodyPost_ret (results_blk rfl _ _ w.heap.size rfl (Lib.hid U.out.blk) (by simp) Try.underlying36 rfl HI2) rfl ?_
  exact ⟨rfl, U.out.below (by repeat (first | with_reducible exact (Below.refl w.heap.size w) | (with_reducible refine Below.setCell ?_ (by dsimp only; (first | omega | (simp; done) | (simp; omega))) _) | (with_reducible refine Below.alloc ?_ (by (first | omega | (simp; done) | (simp; omega))) _) | with_reducible refine Below.drew ?_)) (Nat.le_refl _)⟩

set_option maxHeartbeats 1600000 in
theorem lentry_any (n : Int) (w : World) :
    Calls Try.prog 24 #[.int .i64 n] w fun e w' => e = .returned (.agg #[.int .i64 2, .int .i64 0, .int .i64 0, .int .i64 n, .int .i64 2, .int .i64 1, .slice none 0 0, .slice none 0 0, .string ⟨#[]⟩, .int .i64 0, .int .i64 0, .int .i64 0, .slice none 0 0, .slice none 0 0, .string ⟨#[]⟩]) ∧ Below w.heap.size w w' := by
  have HI2 : Hid ((Try.prog.info? 36).map (·.size) = some 15) := Lib.hid (by kernel_rfl)
  have R2 := Lib.hid (Blk.new w 36 [.int .i64 0, .int .i64 0, .int .i64 0, .int .i64 0, .int .i64 0, .int .i64 0, .slice none 0 0, .slice none 0 0, .string ⟨#[]⟩, .int .i64 0, .int .i64 0, .int .i64 0, .slice none 0 0, .slice none 0 0, .string ⟨#[]⟩])
  go_enter Try.func24, Try.ntmps24
  go_wp2_with (first
      | ((with_reducible refine wpList_store_blk rfl 36 _ _ rfl w.heap.size [.int .i64 2, .int .i64 0, .int .i64 0, .int .i64 n, .int .i64 2, .int .i64 1, .slice none 0 0, .slice none 0 0, .string ⟨#[]⟩, .int .i64 0, .int .i64 0, .int .i64 0, .slice none 0 0, .slice none 0 0, .string ⟨#[]⟩] rfl rfl R2 (by simp) (by simp) HI2 (by simp [Value.oneCell']) ?_)
         intro w9 U))
  refine bodyPost_ret (results_blk rfl _ _ w.heap.size rfl (Lib.hid U.out.blk) (by simp) Try.underlying36 rfl HI2) rfl ?_
  exact ⟨rfl, U.out.below (by repeat (first | with_reducible exact (Below.refl w.heap.size w) | (with_reducible refine Below.setCell ?_ (by dsimp only; (first | omega | (simp; done) | (simp; omega))) _) | (with_reducible refine Below.alloc ?_ (by (first | omega | (simp; done) | (simp; omega))) _) | with_reducible refine Below.drew ?_)) (Nat.le_refl _)⟩

theorem text_nil : text [] = ⟨#[]⟩ := rfl
def kp1 : Kep := ⟨2, 1, .zero, []⟩
def en (n : Int) : Ent := ⟨n, 2, 1, [], [], []⟩
def kp2 : Kep := ⟨2, 1, .zero, [en 1]⟩
def kp3 : Kep := ⟨2, 1, .zero, [en 1, en 2]⟩
theorem f1 : foldP .zero (.ofVote 2 1) = (kp1, 0) := by decide +kernel
theorem f2 : foldP kp1 (.ofEnt (en 1)) = (kp2, 0) := by decide +kernel
theorem f3 : foldP kp2 (.ofEnt (en 2)) = (kp3, 0) := by decide +kernel
theorem f4 : foldP kp3 (.ofCut 2) = (kp2, 0) := by decide +kernel
theorem f5 : foldP kp2 (.ofEnt (en 3)) = (.zero, 140) := by decide +kernel
theorem small_ent (n : Int) : (en n).Small := ⟨by simp [en], by simp [en]⟩
theorem small_snp : Snp.zero.Small := ⟨by simp [Snp.zero], by simp [Snp.zero]⟩
theorem small_ent0 : Ent.zero.Small := ⟨by simp [Ent.zero], by simp [Ent.zero]⟩
theorem small_zero : Kep.zero.Small := ⟨small_snp, by simp [Kep.zero], by simp [Kep.zero]⟩
theorem small1 : kp1.Small := ⟨small_snp, by simp [kp1], by simp [kp1]⟩
theorem small2 : kp2.Small := ⟨small_snp, by simp [kp2], fun x h => by simp [kp2] at h; subst h; exact small_ent 1⟩
theorem small3 : kp3.Small := ⟨small_snp, by simp [kp3], fun x h => by simp [kp3] at h; rcases h with rfl | rfl; exact small_ent 1; exact small_ent 2⟩
theorem small_vote {t v : Int} : (Rcd.ofVote t v).Small := ⟨small_ent0, small_snp⟩
theorem small_cut {n : Int} : (Rcd.ofCut n).Small := ⟨small_ent0, small_snp⟩
theorem small_en {n : Int} : (Rcd.ofEnt (en n)).Small := ⟨small_ent n, small_snp⟩

theorem cut8 {F T : Nat → Option Addr → Nat → Option Addr → Nat → Option Addr → Nat → World → Prop} {G : Prop} (h : (∀ g A c B d E n w, F g A c B d E n w → T g A c B d E n w) → G) (k : ∀ g A c B d E n w, F g A c B d E n w → T g A c B d E n w) : G := h k
theorem Fold_at (k : Kep) (r : Rcd) (k' : Kep) (x : Nat) (hf : foldP k r = (k', x)) (A : Option Addr) (c : Nat) (B : Option Addr) (d : Nat) (E : Option Addr) (n : Nat) (A1 : Option Addr) (c1 : Nat) (B1 : Option Addr) (d1 : Nat) (A2 : Option Addr) (c2 : Nat) (B2 : Option Addr) (d2 : Nat) (w : World) (hK : KepAt w (· < w.heap.size) k A B E) (hA : RcdAt' w (· < w.heap.size) r A1 B1 A2 B2) (hks : k.Small) (hs : r.Small) :
    Calls Try.prog 7 #[.agg #[.int .i64 k.term, .int .i64 k.vote, .int .i64 k.snp.idx, .int .i64 k.snp.term, .slice A k.snp.v.length c, .slice B k.snp.l.length d, .string (text k.snp.b), .slice E k.ents.length n], .agg #[.int .i64 r.kind, .int .i64 r.term, .int .i64 r.vote, .int .i64 r.ent.idx, .int .i64 r.ent.term, .int .i64 r.ent.kind, .slice A1 r.ent.v.length c1, .slice B1 r.ent.l.length d1, .string (text r.ent.b), .int .i64 r.at_, .int .i64 r.snp.idx, .int .i64 r.snp.term, .slice A2 r.snp.v.length c2, .slice B2 r.snp.l.length d2, .string (text r.snp.b)]] w fun e w' => ∃ A c B d E n, e = .returned (.tuple #[.agg #[.int .i64 k'.term, .int .i64 k'.vote, .int .i64 k'.snp.idx, .int .i64 k'.snp.term, .slice A k'.snp.v.length c, .slice B k'.snp.l.length d, .string (text k'.snp.b), .slice E k'.ents.length n], .int .i64 (x : Int)]) ∧ KepAt w' (Nw w' w.heap.size [34, 3]) k' A B E ∧ Below w.heap.size w w' := by
  have h := Fold_any k r A c B d E n A1 c1 B1 d1 A2 c2 B2 d2 w hK hA hks hs
  rw [hf] at h
  exact h
theorem KepAt.nw_lt {w : World} {b : Nat} {ts : List TypeId} {k : Kep} {A B E : Option Addr} (h : KepAt w (Nw w b ts) k A B E) : KepAt w (· < w.heap.size) k A B E := ⟨h.v.nw_lt, h.l.nw_lt, h.e.nw_lt⟩

set_option maxHeartbeats 3200000 in
theorem folds_any (w : World) : Calls Try.prog 10 #[] w fun e w' => e = .returned (.bool true) ∧ Below w.heap.size w w' := by
  go_enter Try.func10, Try.ntmps10
  go_wp2_with fail
  refine (lvote_any w).mono ?_
  rintro e w1 ⟨rfl, hb1⟩
  have HB1 := Lib.hid hb1
  clear hb1
  go_wp2_with fail
  have F := Fold_any .zero (.ofVote 2 1) none 0 none 0 none 0 none 0 none 0 none 0 none 0 w1 ⟨RowsAt.nil, RowsAt.nil, RowsAt.nil⟩ ⟨RowsAt.nil, RowsAt.nil, RowsAt.nil, RowsAt.nil⟩ small_zero small_vote
  rw [f1] at F
  unfold FoldsEnd at F
  simp only [Kep.cs, Rcd.cs, Kep.zero, Snp.zero, Ent.zero, Rcd.ofVote, List.length_nil, text_nil] at F
  refine F.mono ?_
  clear F
  rintro e w2 ⟨A1, c1, B1, d1, E1, n1, rfl, hk, hb⟩
  have HK1 := Lib.hid hk
  have HB2 : Hid (Below w.heap.size w w2) := Lib.hid (HB1.out.trans (hb.mono HB1.out.size))
  clear hk hb HB1
  have HI : Hid ((Try.prog.info? 30).map (·.size) = some 8) := Lib.hid (by kernel_rfl)
  go_wp2_with fail
  refine at_worldC _ fun W hW => ?_
  have R1 : Hid (Blk W w2.heap.size 30 [.int .i64 kp1.term, .int .i64 kp1.vote, .int .i64 kp1.snp.idx, .int .i64 kp1.snp.term, .slice A1 kp1.snp.v.length c1, .slice B1 kp1.snp.l.length d1, .string (text kp1.snp.b), .slice E1 kp1.ents.length n1]) := Lib.hid (hW ▸ Blk.new w2 30 [.int .i64 kp1.term, .int .i64 kp1.vote, .int .i64 kp1.snp.idx, .int .i64 kp1.snp.term, .slice A1 kp1.snp.v.length c1, .slice B1 kp1.snp.l.length d1, .string (text kp1.snp.b), .slice E1 kp1.ents.length n1])
  have HBW : Hid (Below w.heap.size w W) := Lib.hid (by rw [hW]; exact HB2.out.alloc HB2.out.size _)
  have HKW : Hid (KepAt W (· < W.heap.size) kp1 A1 B1 E1) := Lib.hid (by rw [hW]; exact ⟨(HK1.out.v.nw_lt.below ((Below.refl _ _).alloc (Nat.le_refl _) _)).more (by simp), (HK1.out.l.nw_lt.below ((Below.refl _ _).alloc (Nat.le_refl _) _)).more (by simp), (HK1.out.e.nw_lt.below ((Below.refl _ _).alloc (Nat.le_refl _) _)).more (by simp)⟩)
  clear hW HK1 HB2
  have hlt := R1.out.lt
  generalize w2.heap.size = g1 at *
  refine' cut8 (F := fun g A c B d E n V => Hid (Blk V g 30 [.int .i64 kp2.term, .int .i64 kp2.vote, .int .i64 kp2.snp.idx, .int .i64 kp2.snp.term, .slice A kp2.snp.v.length c, .slice B kp2.snp.l.length d, .string (text kp2.snp.b), .slice E kp2.ents.length n]) ∧ Hid (KepAt V (Nw V W.heap.size [34, 3]) kp2 A B E) ∧ Hid (Below W.heap.size W V) ∧ Hid (W.heap.size ≤ g ∧ g < V.heap.size)) (fun key => _) _
  rotate_left
  · refine wp_region_held_drew (S := fun w' => w'.rangeAt g1 0 [.int .i64 kp1.term, .int .i64 kp1.vote, .int .i64 kp1.snp.idx, .int .i64 kp1.snp.term, .slice A1 kp1.snp.v.length c1, .slice B1 kp1.snp.l.length d1, .string (text kp1.snp.b), .slice E1 kp1.ents.length n1]) (by kernel_rfl) (by simpa using R1.out.range0) (fun HD => ?_)
    refine wpAnyH_take (i := 0) (oi := ⟨some 18, _, _, _, _, _⟩) (v := _) rfl (by kernel_rfl) (by kernel_rfl) (by kernel_rfl) (fun _ _ _ h => h) (yieldsIf_load_mid (by rfl) _ _ rfl (g1) 0 rfl [.int .i64 kp1.term, .int .i64 kp1.vote, .int .i64 kp1.snp.idx, .int .i64 kp1.snp.term, .slice A1 kp1.snp.v.length c1, .slice B1 kp1.snp.l.length d1, .string (text kp1.snp.b), .slice E1 kp1.ents.length n1] _ (fun _ h => h) Try.underlying30 rfl HI.out) HD ?_
    (try simp only [Act.put, List.setIfInBounds_toArray, List.set_cons_zero, List.set_cons_succ])
    have HBa : Hid (Below W.heap.size W W.drew) := Lib.hid (Below.refl _ _).drew
    generalize W.drew = wa at *
    refine wpAnyH_ready (rs := [1, 6]) (by kernel_rfl) (by simp) ?_
    refine AllReadyH.cons (o := ⟨some 19, _, _, _, _, _⟩) rfl (fun K hK => ?_) (AllReadyH.cons (o := ⟨some 3, _, _, _, _, _⟩) rfl (fun K hK => ?_) (AllReadyH.nil))
    · go_simp
      go_at_call 24
      refine (lentry_any 1 wa).mono ?_
      rintro e wb ⟨rfl, hb⟩
      have HBb : Hid (Below W.heap.size W wb) := Lib.hid (HBa.out.trans (hb.mono HBa.out.size))
      clear hb
      (try dsimp only)
      refine hK.out _ _ ((R1.out.below HBb.out hlt).range0) (fun HD => ?_)
      clear hK K
      (try simp only [Act.put, List.setIfInBounds_toArray, List.set_cons_zero, List.set_cons_succ])
      refine wpAnyH_ready (rs := [2, 6]) (by kernel_rfl) (by simp) ?_
      refine AllReadyH.cons (o := ⟨some 20, _, _, _, _, _⟩) rfl (fun K hK => ?_) (AllReadyH.cons (o := ⟨some 3, _, _, _, _, _⟩) rfl (fun K hK => ?_) (AllReadyH.nil))
      · go_simp
        go_at_call 7
        refine (Fold_at kp1 (.ofEnt (en 1)) kp2 0 f2 A1 c1 B1 d1 E1 n1 none 0 none 0 none 0 none 0 wb ((HKW.out.below HBb.out).more HBb.out.size) ⟨RowsAt.nil, RowsAt.nil, RowsAt.nil, RowsAt.nil⟩ small1 small_en).mono ?_
        rintro e wc ⟨A2, c2, B2, d2, E2, n2, rfl, hk, hb⟩
        have HKR : Hid (KepAt wc (Nw wc W.heap.size [34, 3]) kp2 A2 B2 E2) := Lib.hid (hk.nw_more HBb.out.size)
        have HBc : Hid (Below W.heap.size W wc) := Lib.hid (HBb.out.trans (hb.mono HBb.out.size))
        clear hb hk
        (try dsimp only)
        refine hK.out _ _ ((R1.out.below HBc.out hlt).range0) (fun HD => ?_)
        clear hK K
        (try simp only [Act.put, List.setIfInBounds_toArray, List.set_cons_zero, List.set_cons_succ])
        refine wpAnyH_take (i := 3) (oi := ⟨some 17, _, _, _, _, _⟩) (v := ?_) rfl (by kernel_rfl) (by kernel_rfl) (by kernel_rfl) (fun _ _ _ h => h) (Or.inl ⟨by rfl, ?_⟩) HD ?_
        rotate_left
        · intro w hSw
          (try dsimp only at hSw)
          go_simp <;> with_reducible rfl
        (try simp only [Act.put, List.setIfInBounds_toArray, List.set_cons_zero, List.set_cons_succ])
        refine wpAnyH_take (i := 4) (oi := ⟨some 21, _, _, _, _, _⟩) (v := ?_) rfl (by kernel_rfl) (by kernel_rfl) (by kernel_rfl) (fun _ _ _ h => h) (Or.inl ⟨by rfl, ?_⟩) HD ?_
        rotate_left
        · intro w hSw
          (try dsimp only at hSw)
          go_simp <;> with_reducible rfl
        (try simp only [Act.put, List.setIfInBounds_toArray, List.set_cons_zero, List.set_cons_succ])
        refine wpAnyH_take (i := 5) (oi := ⟨some 22, _, _, _, _, _⟩) (v := ?_) rfl (by kernel_rfl) (by kernel_rfl) (by kernel_rfl) (fun _ _ _ h => h) (Or.inl ⟨by rfl, ?_⟩) HD ?_
        rotate_left
        · intro w hSw
          (try dsimp only at hSw)
          go_simp <;> with_reducible rfl
        (try simp only [Act.put, List.setIfInBounds_toArray, List.set_cons_zero, List.set_cons_succ])
        refine wpAnyH_ready (rs := [6]) (by kernel_rfl) (by simp) ?_
        refine AllReadyH.cons (o := ⟨some 3, _, _, _, _, _⟩) rfl (fun K hK => ?_) (AllReadyH.nil)
        go_simp
        replace HKR := Lib.hid (HKR.out.nw_keeps (us := []) (Keeps.alloc wc (.cells #[.int .i64 0, .int .i64 0, .int .i64 0, .int .i64 0, .slice none 0 0, .slice none 0 0, .string ⟨#[]⟩, .slice none 0 0] 30)) (by simp))
        have HBd : Hid (Below W.heap.size W (wc.alloc (.cells #[.int .i64 0, .int .i64 0, .int .i64 0, .int .i64 0, .slice none 0 0, .slice none 0 0, .string ⟨#[]⟩, .slice none 0 0] 30))) := Lib.hid (HBc.out.alloc HBc.out.size _)
        have G0 : Hid (Blk (wc.alloc (.cells #[.int .i64 0, .int .i64 0, .int .i64 0, .int .i64 0, .slice none 0 0, .slice none 0 0, .string ⟨#[]⟩, .slice none 0 0] 30)) wc.heap.size 30 [.int .i64 0, .int .i64 0, .int .i64 0, .int .i64 0, .slice none 0 0, .slice none 0 0, .string ⟨#[]⟩, .slice none 0 0]) := Lib.hid (Blk.new wc 30 [.int .i64 0, .int .i64 0, .int .i64 0, .int .i64 0, .slice none 0 0, .slice none 0 0, .string ⟨#[]⟩, .slice none 0 0])
        have GZ : Hid (W.heap.size ≤ wc.heap.size ∧ wc.heap.size < (wc.alloc (.cells #[.int .i64 0, .int .i64 0, .int .i64 0, .int .i64 0, .slice none 0 0, .slice none 0 0, .string ⟨#[]⟩, .slice none 0 0] 30)).heap.size) := Lib.hid ⟨HBc.out.size, by simp⟩
        generalize wc.alloc (.cells #[.int .i64 0, .int .i64 0, .int .i64 0, .int .i64 0, .slice none 0 0, .slice none 0 0, .string ⟨#[]⟩, .slice none 0 0] 30) = wd at *
        generalize wc.heap.size = g at *
        (try dsimp only)
        refine hK.out _ _ ((R1.out.below HBd.out hlt).range0) (fun HD => ?_)
        clear hK K
        (try simp only [Act.put, List.setIfInBounds_toArray, List.set_cons_zero, List.set_cons_succ])
        refine wpAnyH_ready (rs := [7]) (by kernel_rfl) (by simp) ?_
        refine AllReadyH.cons (o := ⟨none, _, _, _, _, _⟩) rfl (fun K hK => ?_) (AllReadyH.nil)
        refine step_store_blk rfl 30 _ _ rfl g [.int .i64 kp2.term, .int .i64 kp2.vote, .int .i64 kp2.snp.idx, .int .i64 kp2.snp.term, .slice A2 kp2.snp.v.length c2, .slice B2 kp2.snp.l.length d2, .string (text kp2.snp.b), .slice E2 kp2.ents.length n2] rfl rfl G0 (by simp) (by simp) HI (by simp [Value.oneCell']) ?_
        intro w9 U
        have HB9 : Hid (Below W.heap.size W w9) := Lib.hid (U.out.below HBd.out GZ.out.1)
        have GK : Hid (KepAt w9 (Nw w9 W.heap.size [34, 3]) kp2 A2 B2 E2) := Lib.hid (HKR.out.nw_keeps U.out.keeps (by decide))
        (try dsimp only)
        refine hK.out _ _ ((R1.out.below HB9.out hlt).range0) (fun HD => ?_)
        clear hK K
        (try simp only [Act.put, List.setIfInBounds_toArray, List.set_cons_zero, List.set_cons_succ])
        refine wpAnyH_take (i := 8) (oi := ⟨some 4, _, _, _, _, _⟩) (v := ?_) rfl (by kernel_rfl) (by kernel_rfl) (by kernel_rfl) (fun _ _ _ h => h) (Or.inl ⟨by rfl, ?_⟩) HD ?_
        rotate_left
        · intro w hSw
          (try dsimp only at hSw)
          go_simp <;> with_reducible rfl
        (try simp only [Act.put, List.setIfInBounds_toArray, List.set_cons_zero, List.set_cons_succ])
        refine wpAnyH_done (by kernel_rfl) ?_ _
        exact key g A2 c2 B2 d2 E2 n2 w9 ⟨Lib.hid U.out.blk, GK, HB9, Lib.hid ⟨GZ.out.1, by have := GZ.out.2; have := U.out.size; omega⟩⟩
      · go_simp
        have HBc : Hid (Below W.heap.size W (wb.alloc (.cells #[.int .i64 0, .int .i64 0, .int .i64 0, .int .i64 0, .slice none 0 0, .slice none 0 0, .string ⟨#[]⟩, .slice none 0 0] 30))) := Lib.hid (HBb.out.alloc HBb.out.size _)
        have G0 : Hid (Blk (wb.alloc (.cells #[.int .i64 0, .int .i64 0, .int .i64 0, .int .i64 0, .slice none 0 0, .slice none 0 0, .string ⟨#[]⟩, .slice none 0 0] 30)) wb.heap.size 30 [.int .i64 0, .int .i64 0, .int .i64 0, .int .i64 0, .slice none 0 0, .slice none 0 0, .string ⟨#[]⟩, .slice none 0 0]) := Lib.hid (Blk.new wb 30 [.int .i64 0, .int .i64 0, .int .i64 0, .int .i64 0, .slice none 0 0, .slice none 0 0, .string ⟨#[]⟩, .slice none 0 0])
        have GZ : Hid (W.heap.size ≤ wb.heap.size ∧ wb.heap.size < (wb.alloc (.cells #[.int .i64 0, .int .i64 0, .int .i64 0, .int .i64 0, .slice none 0 0, .slice none 0 0, .string ⟨#[]⟩, .slice none 0 0] 30)).heap.size) := Lib.hid ⟨HBb.out.size, by simp⟩
        generalize wb.alloc (.cells #[.int .i64 0, .int .i64 0, .int .i64 0, .int .i64 0, .slice none 0 0, .slice none 0 0, .string ⟨#[]⟩, .slice none 0 0] 30) = wc at *
        generalize wb.heap.size = g at *
        (try dsimp only)
        refine hK.out _ _ ((R1.out.below HBc.out hlt).range0) (fun HD => ?_)
        clear hK K
        (try simp only [Act.put, List.setIfInBounds_toArray, List.set_cons_zero, List.set_cons_succ])
        refine wpAnyH_ready (rs := [2]) (by kernel_rfl) (by simp) ?_
        refine AllReadyH.cons (o := ⟨some 20, _, _, _, _, _⟩) rfl (fun K hK => ?_) (AllReadyH.nil)
        go_simp
        go_at_call 7
        refine (Fold_at kp1 (.ofEnt (en 1)) kp2 0 f2 A1 c1 B1 d1 E1 n1 none 0 none 0 none 0 none 0 wc ((HKW.out.below HBc.out).more HBc.out.size) ⟨RowsAt.nil, RowsAt.nil, RowsAt.nil, RowsAt.nil⟩ small1 small_en).mono ?_
        rintro e wd ⟨A2, c2, B2, d2, E2, n2, rfl, hk, hb⟩
        have HKR : Hid (KepAt wd (Nw wd W.heap.size [34, 3]) kp2 A2 B2 E2) := Lib.hid (hk.nw_more HBc.out.size)
        have HBd : Hid (Below W.heap.size W wd) := Lib.hid (HBc.out.trans (hb.mono HBc.out.size))
        replace G0 := Lib.hid (G0.out.below hb G0.out.lt)
        replace GZ : Hid (W.heap.size ≤ g ∧ g < wd.heap.size) := Lib.hid ⟨GZ.out.1, G0.out.lt⟩
        clear hb hk
        (try dsimp only)
        refine hK.out _ _ ((R1.out.below HBd.out hlt).range0) (fun HD => ?_)
        clear hK K
        (try simp only [Act.put, List.setIfInBounds_toArray, List.set_cons_zero, List.set_cons_succ])
        refine wpAnyH_take (i := 3) (oi := ⟨some 17, _, _, _, _, _⟩) (v := ?_) rfl (by kernel_rfl) (by kernel_rfl) (by kernel_rfl) (fun _ _ _ h => h) (Or.inl ⟨by rfl, ?_⟩) HD ?_
        rotate_left
        · intro w hSw
          (try dsimp only at hSw)
          go_simp <;> with_reducible rfl
        (try simp only [Act.put, List.setIfInBounds_toArray, List.set_cons_zero, List.set_cons_succ])
        refine wpAnyH_take (i := 4) (oi := ⟨some 21, _, _, _, _, _⟩) (v := ?_) rfl (by kernel_rfl) (by kernel_rfl) (by kernel_rfl) (fun _ _ _ h => h) (Or.inl ⟨by rfl, ?_⟩) HD ?_
        rotate_left
        · intro w hSw
          (try dsimp only at hSw)
          go_simp <;> with_reducible rfl
        (try simp only [Act.put, List.setIfInBounds_toArray, List.set_cons_zero, List.set_cons_succ])
        refine wpAnyH_take (i := 5) (oi := ⟨some 22, _, _, _, _, _⟩) (v := ?_) rfl (by kernel_rfl) (by kernel_rfl) (by kernel_rfl) (fun _ _ _ h => h) (Or.inl ⟨by rfl, ?_⟩) HD ?_
        rotate_left
        · intro w hSw
          (try dsimp only at hSw)
          go_simp <;> with_reducible rfl
        (try simp only [Act.put, List.setIfInBounds_toArray, List.set_cons_zero, List.set_cons_succ])
        refine wpAnyH_ready (rs := [7]) (by kernel_rfl) (by simp) ?_
        refine AllReadyH.cons (o := ⟨none, _, _, _, _, _⟩) rfl (fun K hK => ?_) (AllReadyH.nil)
        refine step_store_blk rfl 30 _ _ rfl g [.int .i64 kp2.term, .int .i64 kp2.vote, .int .i64 kp2.snp.idx, .int .i64 kp2.snp.term, .slice A2 kp2.snp.v.length c2, .slice B2 kp2.snp.l.length d2, .string (text kp2.snp.b), .slice E2 kp2.ents.length n2] rfl rfl G0 (by simp) (by simp) HI (by simp [Value.oneCell']) ?_
        intro w9 U
        have HB9 : Hid (Below W.heap.size W w9) := Lib.hid (U.out.below HBd.out GZ.out.1)
        have GK : Hid (KepAt w9 (Nw w9 W.heap.size [34, 3]) kp2 A2 B2 E2) := Lib.hid (HKR.out.nw_keeps U.out.keeps (by decide))
        (try dsimp only)
        refine hK.out _ _ ((R1.out.below HB9.out hlt).range0) (fun HD => ?_)
        clear hK K
        (try simp only [Act.put, List.setIfInBounds_toArray, List.set_cons_zero, List.set_cons_succ])
        refine wpAnyH_take (i := 8) (oi := ⟨some 4, _, _, _, _, _⟩) (v := ?_) rfl (by kernel_rfl) (by kernel_rfl) (by kernel_rfl) (fun _ _ _ h => h) (Or.inl ⟨by rfl, ?_⟩) HD ?_
        rotate_left
        · intro w hSw
          (try dsimp only at hSw)
          go_simp <;> with_reducible rfl
        (try simp only [Act.put, List.setIfInBounds_toArray, List.set_cons_zero, List.set_cons_succ])
        refine wpAnyH_done (by kernel_rfl) ?_ _
        exact key g A2 c2 B2 d2 E2 n2 w9 ⟨Lib.hid U.out.blk, GK, HB9, Lib.hid ⟨GZ.out.1, by have := GZ.out.2; have := U.out.size; omega⟩⟩
    · go_simp
      have HBb : Hid (Below W.heap.size W (wa.alloc (.cells #[.int .i64 0, .int .i64 0, .int .i64 0, .int .i64 0, .slice none 0 0, .slice none 0 0, .string ⟨#[]⟩, .slice none 0 0] 30))) := Lib.hid (HBa.out.alloc HBa.out.size _)
      have G0 : Hid (Blk (wa.alloc (.cells #[.int .i64 0, .int .i64 0, .int .i64 0, .int .i64 0, .slice none 0 0, .slice none 0 0, .string ⟨#[]⟩, .slice none 0 0] 30)) wa.heap.size 30 [.int .i64 0, .int .i64 0, .int .i64 0, .int .i64 0, .slice none 0 0, .slice none 0 0, .string ⟨#[]⟩, .slice none 0 0]) := Lib.hid (Blk.new wa 30 [.int .i64 0, .int .i64 0, .int .i64 0, .int .i64 0, .slice none 0 0, .slice none 0 0, .string ⟨#[]⟩, .slice none 0 0])
      have GZ : Hid (W.heap.size ≤ wa.heap.size ∧ wa.heap.size < (wa.alloc (.cells #[.int .i64 0, .int .i64 0, .int .i64 0, .int .i64 0, .slice none 0 0, .slice none 0 0, .string ⟨#[]⟩, .slice none 0 0] 30)).heap.size) := Lib.hid ⟨HBa.out.size, by simp⟩
      generalize wa.alloc (.cells #[.int .i64 0, .int .i64 0, .int .i64 0, .int .i64 0, .slice none 0 0, .slice none 0 0, .string ⟨#[]⟩, .slice none 0 0] 30) = wb at *
      generalize wa.heap.size = g at *
      (try dsimp only)
      refine hK.out _ _ ((R1.out.below HBb.out hlt).range0) (fun HD => ?_)
      clear hK K
      (try simp only [Act.put, List.setIfInBounds_toArray, List.set_cons_zero, List.set_cons_succ])
      refine wpAnyH_ready (rs := [1]) (by kernel_rfl) (by simp) ?_
      refine AllReadyH.cons (o := ⟨some 19, _, _, _, _, _⟩) rfl (fun K hK => ?_) (AllReadyH.nil)
      go_simp
      go_at_call 24
      refine (lentry_any 1 wb).mono ?_
      rintro e wc ⟨rfl, hb⟩
      have HBc : Hid (Below W.heap.size W wc) := Lib.hid (HBb.out.trans (hb.mono HBb.out.size))
      replace G0 := Lib.hid (G0.out.below hb G0.out.lt)
      replace GZ : Hid (W.heap.size ≤ g ∧ g < wc.heap.size) := Lib.hid ⟨GZ.out.1, G0.out.lt⟩
      clear hb
      (try dsimp only)
      refine hK.out _ _ ((R1.out.below HBc.out hlt).range0) (fun HD => ?_)
      clear hK K
      (try simp only [Act.put, List.setIfInBounds_toArray, List.set_cons_zero, List.set_cons_succ])
      refine wpAnyH_ready (rs := [2]) (by kernel_rfl) (by simp) ?_
      refine AllReadyH.cons (o := ⟨some 20, _, _, _, _, _⟩) rfl (fun K hK => ?_) (AllReadyH.nil)
      go_simp
      go_at_call 7
      refine (Fold_at kp1 (.ofEnt (en 1)) kp2 0 f2 A1 c1 B1 d1 E1 n1 none 0 none 0 none 0 none 0 wc ((HKW.out.below HBc.out).more HBc.out.size) ⟨RowsAt.nil, RowsAt.nil, RowsAt.nil, RowsAt.nil⟩ small1 small_en).mono ?_
      rintro e wd ⟨A2, c2, B2, d2, E2, n2, rfl, hk, hb⟩
      have HKR : Hid (KepAt wd (Nw wd W.heap.size [34, 3]) kp2 A2 B2 E2) := Lib.hid (hk.nw_more HBc.out.size)
      have HBd : Hid (Below W.heap.size W wd) := Lib.hid (HBc.out.trans (hb.mono HBc.out.size))
      replace G0 := Lib.hid (G0.out.below hb G0.out.lt)
      replace GZ : Hid (W.heap.size ≤ g ∧ g < wd.heap.size) := Lib.hid ⟨GZ.out.1, G0.out.lt⟩
      clear hb hk
      (try dsimp only)
      refine hK.out _ _ ((R1.out.below HBd.out hlt).range0) (fun HD => ?_)
      clear hK K
      (try simp only [Act.put, List.setIfInBounds_toArray, List.set_cons_zero, List.set_cons_succ])
      refine wpAnyH_take (i := 3) (oi := ⟨some 17, _, _, _, _, _⟩) (v := ?_) rfl (by kernel_rfl) (by kernel_rfl) (by kernel_rfl) (fun _ _ _ h => h) (Or.inl ⟨by rfl, ?_⟩) HD ?_
      rotate_left
      · intro w hSw
        (try dsimp only at hSw)
        go_simp <;> with_reducible rfl
      (try simp only [Act.put, List.setIfInBounds_toArray, List.set_cons_zero, List.set_cons_succ])
      refine wpAnyH_take (i := 4) (oi := ⟨some 21, _, _, _, _, _⟩) (v := ?_) rfl (by kernel_rfl) (by kernel_rfl) (by kernel_rfl) (fun _ _ _ h => h) (Or.inl ⟨by rfl, ?_⟩) HD ?_
      rotate_left
      · intro w hSw
        (try dsimp only at hSw)
        go_simp <;> with_reducible rfl
      (try simp only [Act.put, List.setIfInBounds_toArray, List.set_cons_zero, List.set_cons_succ])
      refine wpAnyH_take (i := 5) (oi := ⟨some 22, _, _, _, _, _⟩) (v := ?_) rfl (by kernel_rfl) (by kernel_rfl) (by kernel_rfl) (fun _ _ _ h => h) (Or.inl ⟨by rfl, ?_⟩) HD ?_
      rotate_left
      · intro w hSw
        (try dsimp only at hSw)
        go_simp <;> with_reducible rfl
      (try simp only [Act.put, List.setIfInBounds_toArray, List.set_cons_zero, List.set_cons_succ])
      refine wpAnyH_ready (rs := [7]) (by kernel_rfl) (by simp) ?_
      refine AllReadyH.cons (o := ⟨none, _, _, _, _, _⟩) rfl (fun K hK => ?_) (AllReadyH.nil)
      refine step_store_blk rfl 30 _ _ rfl g [.int .i64 kp2.term, .int .i64 kp2.vote, .int .i64 kp2.snp.idx, .int .i64 kp2.snp.term, .slice A2 kp2.snp.v.length c2, .slice B2 kp2.snp.l.length d2, .string (text kp2.snp.b), .slice E2 kp2.ents.length n2] rfl rfl G0 (by simp) (by simp) HI (by simp [Value.oneCell']) ?_
      intro w9 U
      have HB9 : Hid (Below W.heap.size W w9) := Lib.hid (U.out.below HBd.out GZ.out.1)
      have GK : Hid (KepAt w9 (Nw w9 W.heap.size [34, 3]) kp2 A2 B2 E2) := Lib.hid (HKR.out.nw_keeps U.out.keeps (by decide))
      (try dsimp only)
      refine hK.out _ _ ((R1.out.below HB9.out hlt).range0) (fun HD => ?_)
      clear hK K
      (try simp only [Act.put, List.setIfInBounds_toArray, List.set_cons_zero, List.set_cons_succ])
      refine wpAnyH_take (i := 8) (oi := ⟨some 4, _, _, _, _, _⟩) (v := ?_) rfl (by kernel_rfl) (by kernel_rfl) (by kernel_rfl) (fun _ _ _ h => h) (Or.inl ⟨by rfl, ?_⟩) HD ?_
      rotate_left
      · intro w hSw
        (try dsimp only at hSw)
        go_simp <;> with_reducible rfl
      (try simp only [Act.put, List.setIfInBounds_toArray, List.set_cons_zero, List.set_cons_succ])
      refine wpAnyH_done (by kernel_rfl) ?_ _
      exact key g A2 c2 B2 d2 E2 n2 w9 ⟨Lib.hid U.out.blk, GK, HB9, Lib.hid ⟨GZ.out.1, by have := GZ.out.2; have := U.out.size; omega⟩⟩
  intro g2 A2 c2 B2 d2 E2 n2 W2 ⟨R2, HK2, HBx, HGx⟩
  have HBW2 : Hid (Below w.heap.size w W2) := Lib.hid (HBW.out.trans (HBx.out.mono HBW.out.size))
  have HKW2 := Lib.hid HK2.out.nw_lt
  have hlt2 : g2 < W2.heap.size := HGx.out.2
  clear R1 HBW HKW hlt HK2 HBx HGx
  go_wp2_with fail
  refine' cut8 (F := fun g A c B d E n V => Hid (Blk V g 30 [.int .i64 kp3.term, .int .i64 kp3.vote, .int .i64 kp3.snp.idx, .int .i64 kp3.snp.term, .slice A kp3.snp.v.length c, .slice B kp3.snp.l.length d, .string (text kp3.snp.b), .slice E kp3.ents.length n]) ∧ Hid (KepAt V (Nw V W2.heap.size [34, 3]) kp3 A B E) ∧ Hid (Below W2.heap.size W2 V) ∧ Hid (W2.heap.size ≤ g ∧ g < V.heap.size)) (fun key => _) _
  rotate_left
  · refine wp_region_held_drew (S := fun w' => w'.rangeAt g2 0 [.int .i64 kp2.term, .int .i64 kp2.vote, .int .i64 kp2.snp.idx, .int .i64 kp2.snp.term, .slice A2 kp2.snp.v.length c2, .slice B2 kp2.snp.l.length d2, .string (text kp2.snp.b), .slice E2 kp2.ents.length n2]) (by kernel_rfl) (by simpa using R2.out.range0) (fun HD => ?_)
    refine wpAnyH_take (i := 0) (oi := ⟨some 24, _, _, _, _, _⟩) (v := _) rfl (by kernel_rfl) (by kernel_rfl) (by kernel_rfl) (fun _ _ _ h => h) (yieldsIf_load_mid (by rfl) _ _ rfl (g2) 0 rfl [.int .i64 kp2.term, .int .i64 kp2.vote, .int .i64 kp2.snp.idx, .int .i64 kp2.snp.term, .slice A2 kp2.snp.v.length c2, .slice B2 kp2.snp.l.length d2, .string (text kp2.snp.b), .slice E2 kp2.ents.length n2] _ (fun _ h => h) Try.underlying30 rfl HI.out) HD ?_
    (try simp only [Act.put, List.setIfInBounds_toArray, List.set_cons_zero, List.set_cons_succ])
    have HBa : Hid (Below W2.heap.size W2 W2.drew) := Lib.hid (Below.refl _ _).drew
    generalize W2.drew = wa at *
    refine wpAnyH_ready (rs := [1, 6]) (by kernel_rfl) (by simp) ?_
    refine AllReadyH.cons (o := ⟨some 25, _, _, _, _, _⟩) rfl (fun K hK => ?_) (AllReadyH.cons (o := ⟨some 5, _, _, _, _, _⟩) rfl (fun K hK => ?_) (AllReadyH.nil))
    · go_simp
      go_at_call 24
      refine (lentry_any 2 wa).mono ?_
      rintro e wb ⟨rfl, hb⟩
      have HBb : Hid (Below W2.heap.size W2 wb) := Lib.hid (HBa.out.trans (hb.mono HBa.out.size))
      clear hb
      (try dsimp only)
      refine hK.out _ _ ((R2.out.below HBb.out hlt2).range0) (fun HD => ?_)
      clear hK K
      (try simp only [Act.put, List.setIfInBounds_toArray, List.set_cons_zero, List.set_cons_succ])
      refine wpAnyH_ready (rs := [2, 6]) (by kernel_rfl) (by simp) ?_
      refine AllReadyH.cons (o := ⟨some 26, _, _, _, _, _⟩) rfl (fun K hK => ?_) (AllReadyH.cons (o := ⟨some 5, _, _, _, _, _⟩) rfl (fun K hK => ?_) (AllReadyH.nil))
      · go_simp
        go_at_call 7
        refine (Fold_at kp2 (.ofEnt (en 2)) kp3 0 f3 A2 c2 B2 d2 E2 n2 none 0 none 0 none 0 none 0 wb ((HKW2.out.below HBb.out).more HBb.out.size) ⟨RowsAt.nil, RowsAt.nil, RowsAt.nil, RowsAt.nil⟩ small2 small_en).mono ?_
        rintro e wc ⟨A2, c2, B2, d2, E2, n2, rfl, hk, hb⟩
        have HKR : Hid (KepAt wc (Nw wc W2.heap.size [34, 3]) kp3 A2 B2 E2) := Lib.hid (hk.nw_more HBb.out.size)
        have HBc : Hid (Below W2.heap.size W2 wc) := Lib.hid (HBb.out.trans (hb.mono HBb.out.size))
        clear hb hk
        (try dsimp only)
        refine hK.out _ _ ((R2.out.below HBc.out hlt2).range0) (fun HD => ?_)
        clear hK K
        (try simp only [Act.put, List.setIfInBounds_toArray, List.set_cons_zero, List.set_cons_succ])
        refine wpAnyH_take (i := 3) (oi := ⟨some 23, _, _, _, _, _⟩) (v := ?_) rfl (by kernel_rfl) (by kernel_rfl) (by kernel_rfl) (fun _ _ _ h => h) (Or.inl ⟨by rfl, ?_⟩) HD ?_
        rotate_left
        · intro w hSw
          (try dsimp only at hSw)
          go_simp <;> with_reducible rfl
        (try simp only [Act.put, List.setIfInBounds_toArray, List.set_cons_zero, List.set_cons_succ])
        refine wpAnyH_take (i := 4) (oi := ⟨some 27, _, _, _, _, _⟩) (v := ?_) rfl (by kernel_rfl) (by kernel_rfl) (by kernel_rfl) (fun _ _ _ h => h) (Or.inl ⟨by rfl, ?_⟩) HD ?_
        rotate_left
        · intro w hSw
          (try dsimp only at hSw)
          go_simp <;> with_reducible rfl
        (try simp only [Act.put, List.setIfInBounds_toArray, List.set_cons_zero, List.set_cons_succ])
        refine wpAnyH_take (i := 5) (oi := ⟨some 28, _, _, _, _, _⟩) (v := ?_) rfl (by kernel_rfl) (by kernel_rfl) (by kernel_rfl) (fun _ _ _ h => h) (Or.inl ⟨by rfl, ?_⟩) HD ?_
        rotate_left
        · intro w hSw
          (try dsimp only at hSw)
          go_simp <;> with_reducible rfl
        (try simp only [Act.put, List.setIfInBounds_toArray, List.set_cons_zero, List.set_cons_succ])
        refine wpAnyH_ready (rs := [6]) (by kernel_rfl) (by simp) ?_
        refine AllReadyH.cons (o := ⟨some 5, _, _, _, _, _⟩) rfl (fun K hK => ?_) (AllReadyH.nil)
        go_simp
        replace HKR := Lib.hid (HKR.out.nw_keeps (us := []) (Keeps.alloc wc (.cells #[.int .i64 0, .int .i64 0, .int .i64 0, .int .i64 0, .slice none 0 0, .slice none 0 0, .string ⟨#[]⟩, .slice none 0 0] 30)) (by simp))
        have HBd : Hid (Below W2.heap.size W2 (wc.alloc (.cells #[.int .i64 0, .int .i64 0, .int .i64 0, .int .i64 0, .slice none 0 0, .slice none 0 0, .string ⟨#[]⟩, .slice none 0 0] 30))) := Lib.hid (HBc.out.alloc HBc.out.size _)
        have G0 : Hid (Blk (wc.alloc (.cells #[.int .i64 0, .int .i64 0, .int .i64 0, .int .i64 0, .slice none 0 0, .slice none 0 0, .string ⟨#[]⟩, .slice none 0 0] 30)) wc.heap.size 30 [.int .i64 0, .int .i64 0, .int .i64 0, .int .i64 0, .slice none 0 0, .slice none 0 0, .string ⟨#[]⟩, .slice none 0 0]) := Lib.hid (Blk.new wc 30 [.int .i64 0, .int .i64 0, .int .i64 0, .int .i64 0, .slice none 0 0, .slice none 0 0, .string ⟨#[]⟩, .slice none 0 0])
        have GZ : Hid (W2.heap.size ≤ wc.heap.size ∧ wc.heap.size < (wc.alloc (.cells #[.int .i64 0, .int .i64 0, .int .i64 0, .int .i64 0, .slice none 0 0, .slice none 0 0, .string ⟨#[]⟩, .slice none 0 0] 30)).heap.size) := Lib.hid ⟨HBc.out.size, by simp⟩
        generalize wc.alloc (.cells #[.int .i64 0, .int .i64 0, .int .i64 0, .int .i64 0, .slice none 0 0, .slice none 0 0, .string ⟨#[]⟩, .slice none 0 0] 30) = wd at *
        generalize wc.heap.size = g at *
        (try dsimp only)
        refine hK.out _ _ ((R2.out.below HBd.out hlt2).range0) (fun HD => ?_)
        clear hK K
        (try simp only [Act.put, List.setIfInBounds_toArray, List.set_cons_zero, List.set_cons_succ])
        refine wpAnyH_ready (rs := [7]) (by kernel_rfl) (by simp) ?_
        refine AllReadyH.cons (o := ⟨none, _, _, _, _, _⟩) rfl (fun K hK => ?_) (AllReadyH.nil)
        refine step_store_blk rfl 30 _ _ rfl g [.int .i64 kp3.term, .int .i64 kp3.vote, .int .i64 kp3.snp.idx, .int .i64 kp3.snp.term, .slice A2 kp3.snp.v.length c2, .slice B2 kp3.snp.l.length d2, .string (text kp3.snp.b), .slice E2 kp3.ents.length n2] rfl rfl G0 (by simp) (by simp) HI (by simp [Value.oneCell']) ?_
        intro w9 U
        have HB9 : Hid (Below W2.heap.size W2 w9) := Lib.hid (U.out.below HBd.out GZ.out.1)
        have GK : Hid (KepAt w9 (Nw w9 W2.heap.size [34, 3]) kp3 A2 B2 E2) := Lib.hid (HKR.out.nw_keeps U.out.keeps (by decide))
        (try dsimp only)
        refine hK.out _ _ ((R2.out.below HB9.out hlt2).range0) (fun HD => ?_)
        clear hK K
        (try simp only [Act.put, List.setIfInBounds_toArray, List.set_cons_zero, List.set_cons_succ])
        refine wpAnyH_take (i := 8) (oi := ⟨some 6, _, _, _, _, _⟩) (v := ?_) rfl (by kernel_rfl) (by kernel_rfl) (by kernel_rfl) (fun _ _ _ h => h) (Or.inl ⟨by rfl, ?_⟩) HD ?_
        rotate_left
        · intro w hSw
          (try dsimp only at hSw)
          go_simp <;> with_reducible rfl
        (try simp only [Act.put, List.setIfInBounds_toArray, List.set_cons_zero, List.set_cons_succ])
        refine wpAnyH_done (by kernel_rfl) ?_ _
        exact key g A2 c2 B2 d2 E2 n2 w9 ⟨Lib.hid U.out.blk, GK, HB9, Lib.hid ⟨GZ.out.1, by have := GZ.out.2; have := U.out.size; omega⟩⟩
      · go_simp
        have HBc : Hid (Below W2.heap.size W2 (wb.alloc (.cells #[.int .i64 0, .int .i64 0, .int .i64 0, .int .i64 0, .slice none 0 0, .slice none 0 0, .string ⟨#[]⟩, .slice none 0 0] 30))) := Lib.hid (HBb.out.alloc HBb.out.size _)
        have G0 : Hid (Blk (wb.alloc (.cells #[.int .i64 0, .int .i64 0, .int .i64 0, .int .i64 0, .slice none 0 0, .slice none 0 0, .string ⟨#[]⟩, .slice none 0 0] 30)) wb.heap.size 30 [.int .i64 0, .int .i64 0, .int .i64 0, .int .i64 0, .slice none 0 0, .slice none 0 0, .string ⟨#[]⟩, .slice none 0 0]) := Lib.hid (Blk.new wb 30 [.int .i64 0, .int .i64 0, .int .i64 0, .int .i64 0, .slice none 0 0, .slice none 0 0, .string ⟨#[]⟩, .slice none 0 0])
        have GZ : Hid (W2.heap.size ≤ wb.heap.size ∧ wb.heap.size < (wb.alloc (.cells #[.int .i64 0, .int .i64 0, .int .i64 0, .int .i64 0, .slice none 0 0, .slice none 0 0, .string ⟨#[]⟩, .slice none 0 0] 30)).heap.size) := Lib.hid ⟨HBb.out.size, by simp⟩
        generalize wb.alloc (.cells #[.int .i64 0, .int .i64 0, .int .i64 0, .int .i64 0, .slice none 0 0, .slice none 0 0, .string ⟨#[]⟩, .slice none 0 0] 30) = wc at *
        generalize wb.heap.size = g at *
        (try dsimp only)
        refine hK.out _ _ ((R2.out.below HBc.out hlt2).range0) (fun HD => ?_)
        clear hK K
        (try simp only [Act.put, List.setIfInBounds_toArray, List.set_cons_zero, List.set_cons_succ])
        refine wpAnyH_ready (rs := [2]) (by kernel_rfl) (by simp) ?_
        refine AllReadyH.cons (o := ⟨some 26, _, _, _, _, _⟩) rfl (fun K hK => ?_) (AllReadyH.nil)
        go_simp
        go_at_call 7
        refine (Fold_at kp2 (.ofEnt (en 2)) kp3 0 f3 A2 c2 B2 d2 E2 n2 none 0 none 0 none 0 none 0 wc ((HKW2.out.below HBc.out).more HBc.out.size) ⟨RowsAt.nil, RowsAt.nil, RowsAt.nil, RowsAt.nil⟩ small2 small_en).mono ?_
        rintro e wd ⟨A2, c2, B2, d2, E2, n2, rfl, hk, hb⟩
        have HKR : Hid (KepAt wd (Nw wd W2.heap.size [34, 3]) kp3 A2 B2 E2) := Lib.hid (hk.nw_more HBc.out.size)
        have HBd : Hid (Below W2.heap.size W2 wd) := Lib.hid (HBc.out.trans (hb.mono HBc.out.size))
        replace G0 := Lib.hid (G0.out.below hb G0.out.lt)
        replace GZ : Hid (W2.heap.size ≤ g ∧ g < wd.heap.size) := Lib.hid ⟨GZ.out.1, G0.out.lt⟩
        clear hb hk
        (try dsimp only)
        refine hK.out _ _ ((R2.out.below HBd.out hlt2).range0) (fun HD => ?_)
        clear hK K
        (try simp only [Act.put, List.setIfInBounds_toArray, List.set_cons_zero, List.set_cons_succ])
        refine wpAnyH_take (i := 3) (oi := ⟨some 23, _, _, _, _, _⟩) (v := ?_) rfl (by kernel_rfl) (by kernel_rfl) (by kernel_rfl) (fun _ _ _ h => h) (Or.inl ⟨by rfl, ?_⟩) HD ?_
        rotate_left
        · intro w hSw
          (try dsimp only at hSw)
          go_simp <;> with_reducible rfl
        (try simp only [Act.put, List.setIfInBounds_toArray, List.set_cons_zero, List.set_cons_succ])
        refine wpAnyH_take (i := 4) (oi := ⟨some 27, _, _, _, _, _⟩) (v := ?_) rfl (by kernel_rfl) (by kernel_rfl) (by kernel_rfl) (fun _ _ _ h => h) (Or.inl ⟨by rfl, ?_⟩) HD ?_
        rotate_left
        · intro w hSw
          (try dsimp only at hSw)
          go_simp <;> with_reducible rfl
        (try simp only [Act.put, List.setIfInBounds_toArray, List.set_cons_zero, List.set_cons_succ])
        refine wpAnyH_take (i := 5) (oi := ⟨some 28, _, _, _, _, _⟩) (v := ?_) rfl (by kernel_rfl) (by kernel_rfl) (by kernel_rfl) (fun _ _ _ h => h) (Or.inl ⟨by rfl, ?_⟩) HD ?_
        rotate_left
        · intro w hSw
          (try dsimp only at hSw)
          go_simp <;> with_reducible rfl
        (try simp only [Act.put, List.setIfInBounds_toArray, List.set_cons_zero, List.set_cons_succ])
        refine wpAnyH_ready (rs := [7]) (by kernel_rfl) (by simp) ?_
        refine AllReadyH.cons (o := ⟨none, _, _, _, _, _⟩) rfl (fun K hK => ?_) (AllReadyH.nil)
        refine step_store_blk rfl 30 _ _ rfl g [.int .i64 kp3.term, .int .i64 kp3.vote, .int .i64 kp3.snp.idx, .int .i64 kp3.snp.term, .slice A2 kp3.snp.v.length c2, .slice B2 kp3.snp.l.length d2, .string (text kp3.snp.b), .slice E2 kp3.ents.length n2] rfl rfl G0 (by simp) (by simp) HI (by simp [Value.oneCell']) ?_
        intro w9 U
        have HB9 : Hid (Below W2.heap.size W2 w9) := Lib.hid (U.out.below HBd.out GZ.out.1)
        have GK : Hid (KepAt w9 (Nw w9 W2.heap.size [34, 3]) kp3 A2 B2 E2) := Lib.hid (HKR.out.nw_keeps U.out.keeps (by decide))
        (try dsimp only)
        refine hK.out _ _ ((R2.out.below HB9.out hlt2).range0) (fun HD => ?_)
        clear hK K
        (try simp only [Act.put, List.setIfInBounds_toArray, List.set_cons_zero, List.set_cons_succ])
        refine wpAnyH_take (i := 8) (oi := ⟨some 6, _, _, _, _, _⟩) (v := ?_) rfl (by kernel_rfl) (by kernel_rfl) (by kernel_rfl) (fun _ _ _ h => h) (Or.inl ⟨by rfl, ?_⟩) HD ?_
        rotate_left
        · intro w hSw
          (try dsimp only at hSw)
          go_simp <;> with_reducible rfl
        (try simp only [Act.put, List.setIfInBounds_toArray, List.set_cons_zero, List.set_cons_succ])
        refine wpAnyH_done (by kernel_rfl) ?_ _
        exact key g A2 c2 B2 d2 E2 n2 w9 ⟨Lib.hid U.out.blk, GK, HB9, Lib.hid ⟨GZ.out.1, by have := GZ.out.2; have := U.out.size; omega⟩⟩
    · go_simp
      have HBb : Hid (Below W2.heap.size W2 (wa.alloc (.cells #[.int .i64 0, .int .i64 0, .int .i64 0, .int .i64 0, .slice none 0 0, .slice none 0 0, .string ⟨#[]⟩, .slice none 0 0] 30))) := Lib.hid (HBa.out.alloc HBa.out.size _)
      have G0 : Hid (Blk (wa.alloc (.cells #[.int .i64 0, .int .i64 0, .int .i64 0, .int .i64 0, .slice none 0 0, .slice none 0 0, .string ⟨#[]⟩, .slice none 0 0] 30)) wa.heap.size 30 [.int .i64 0, .int .i64 0, .int .i64 0, .int .i64 0, .slice none 0 0, .slice none 0 0, .string ⟨#[]⟩, .slice none 0 0]) := Lib.hid (Blk.new wa 30 [.int .i64 0, .int .i64 0, .int .i64 0, .int .i64 0, .slice none 0 0, .slice none 0 0, .string ⟨#[]⟩, .slice none 0 0])
      have GZ : Hid (W2.heap.size ≤ wa.heap.size ∧ wa.heap.size < (wa.alloc (.cells #[.int .i64 0, .int .i64 0, .int .i64 0, .int .i64 0, .slice none 0 0, .slice none 0 0, .string ⟨#[]⟩, .slice none 0 0] 30)).heap.size) := Lib.hid ⟨HBa.out.size, by simp⟩
      generalize wa.alloc (.cells #[.int .i64 0, .int .i64 0, .int .i64 0, .int .i64 0, .slice none 0 0, .slice none 0 0, .string ⟨#[]⟩, .slice none 0 0] 30) = wb at *
      generalize wa.heap.size = g at *
      (try dsimp only)
      refine hK.out _ _ ((R2.out.below HBb.out hlt2).range0) (fun HD => ?_)
      clear hK K
      (try simp only [Act.put, List.setIfInBounds_toArray, List.set_cons_zero, List.set_cons_succ])
      refine wpAnyH_ready (rs := [1]) (by kernel_rfl) (by simp) ?_
      refine AllReadyH.cons (o := ⟨some 25, _, _, _, _, _⟩) rfl (fun K hK => ?_) (AllReadyH.nil)
      go_simp
      go_at_call 24
      refine (lentry_any 2 wb).mono ?_
      rintro e wc ⟨rfl, hb⟩
      have HBc : Hid (Below W2.heap.size W2 wc) := Lib.hid (HBb.out.trans (hb.mono HBb.out.size))
      replace G0 := Lib.hid (G0.out.below hb G0.out.lt)
      replace GZ : Hid (W2.heap.size ≤ g ∧ g < wc.heap.size) := Lib.hid ⟨GZ.out.1, G0.out.lt⟩
      clear hb
      (try dsimp only)
      refine hK.out _ _ ((R2.out.below HBc.out hlt2).range0) (fun HD => ?_)
      clear hK K
      (try simp only [Act.put, List.setIfInBounds_toArray, List.set_cons_zero, List.set_cons_succ])
      refine wpAnyH_ready (rs := [2]) (by kernel_rfl) (by simp) ?_
      refine AllReadyH.cons (o := ⟨some 26, _, _, _, _, _⟩) rfl (fun K hK => ?_) (AllReadyH.nil)
      go_simp
      go_at_call 7
      refine (Fold_at kp2 (.ofEnt (en 2)) kp3 0 f3 A2 c2 B2 d2 E2 n2 none 0 none 0 none 0 none 0 wc ((HKW2.out.below HBc.out).more HBc.out.size) ⟨RowsAt.nil, RowsAt.nil, RowsAt.nil, RowsAt.nil⟩ small2 small_en).mono ?_
      rintro e wd ⟨A2, c2, B2, d2, E2, n2, rfl, hk, hb⟩
      have HKR : Hid (KepAt wd (Nw wd W2.heap.size [34, 3]) kp3 A2 B2 E2) := Lib.hid (hk.nw_more HBc.out.size)
      have HBd : Hid (Below W2.heap.size W2 wd) := Lib.hid (HBc.out.trans (hb.mono HBc.out.size))
      replace G0 := Lib.hid (G0.out.below hb G0.out.lt)
      replace GZ : Hid (W2.heap.size ≤ g ∧ g < wd.heap.size) := Lib.hid ⟨GZ.out.1, G0.out.lt⟩
      clear hb hk
      (try dsimp only)
      refine hK.out _ _ ((R2.out.below HBd.out hlt2).range0) (fun HD => ?_)
      clear hK K
      (try simp only [Act.put, List.setIfInBounds_toArray, List.set_cons_zero, List.set_cons_succ])
      refine wpAnyH_take (i := 3) (oi := ⟨some 23, _, _, _, _, _⟩) (v := ?_) rfl (by kernel_rfl) (by kernel_rfl) (by kernel_rfl) (fun _ _ _ h => h) (Or.inl ⟨by rfl, ?_⟩) HD ?_
      rotate_left
      · intro w hSw
        (try dsimp only at hSw)
        go_simp <;> with_reducible rfl
      (try simp only [Act.put, List.setIfInBounds_toArray, List.set_cons_zero, List.set_cons_succ])
      refine wpAnyH_take (i := 4) (oi := ⟨some 27, _, _, _, _, _⟩) (v := ?_) rfl (by kernel_rfl) (by kernel_rfl) (by kernel_rfl) (fun _ _ _ h => h) (Or.inl ⟨by rfl, ?_⟩) HD ?_
      rotate_left
      · intro w hSw
        (try dsimp only at hSw)
        go_simp <;> with_reducible rfl
      (try simp only [Act.put, List.setIfInBounds_toArray, List.set_cons_zero, List.set_cons_succ])
      refine wpAnyH_take (i := 5) (oi := ⟨some 28, _, _, _, _, _⟩) (v := ?_) rfl (by kernel_rfl) (by kernel_rfl) (by kernel_rfl) (fun _ _ _ h => h) (Or.inl ⟨by rfl, ?_⟩) HD ?_
      rotate_left
      · intro w hSw
        (try dsimp only at hSw)
        go_simp <;> with_reducible rfl
      (try simp only [Act.put, List.setIfInBounds_toArray, List.set_cons_zero, List.set_cons_succ])
      refine wpAnyH_ready (rs := [7]) (by kernel_rfl) (by simp) ?_
      refine AllReadyH.cons (o := ⟨none, _, _, _, _, _⟩) rfl (fun K hK => ?_) (AllReadyH.nil)
      refine step_store_blk rfl 30 _ _ rfl g [.int .i64 kp3.term, .int .i64 kp3.vote, .int .i64 kp3.snp.idx, .int .i64 kp3.snp.term, .slice A2 kp3.snp.v.length c2, .slice B2 kp3.snp.l.length d2, .string (text kp3.snp.b), .slice E2 kp3.ents.length n2] rfl rfl G0 (by simp) (by simp) HI (by simp [Value.oneCell']) ?_
      intro w9 U
      have HB9 : Hid (Below W2.heap.size W2 w9) := Lib.hid (U.out.below HBd.out GZ.out.1)
      have GK : Hid (KepAt w9 (Nw w9 W2.heap.size [34, 3]) kp3 A2 B2 E2) := Lib.hid (HKR.out.nw_keeps U.out.keeps (by decide))
      (try dsimp only)
      refine hK.out _ _ ((R2.out.below HB9.out hlt2).range0) (fun HD => ?_)
      clear hK K
      (try simp only [Act.put, List.setIfInBounds_toArray, List.set_cons_zero, List.set_cons_succ])
      refine wpAnyH_take (i := 8) (oi := ⟨some 6, _, _, _, _, _⟩) (v := ?_) rfl (by kernel_rfl) (by kernel_rfl) (by kernel_rfl) (fun _ _ _ h => h) (Or.inl ⟨by rfl, ?_⟩) HD ?_
      rotate_left
      · intro w hSw
        (try dsimp only at hSw)
        go_simp <;> with_reducible rfl
      (try simp only [Act.put, List.setIfInBounds_toArray, List.set_cons_zero, List.set_cons_succ])
      refine wpAnyH_done (by kernel_rfl) ?_ _
      exact key g A2 c2 B2 d2 E2 n2 w9 ⟨Lib.hid U.out.blk, GK, HB9, Lib.hid ⟨GZ.out.1, by have := GZ.out.2; have := U.out.size; omega⟩⟩
  intro g3 A3 c3 B3 d3 E3 n3 W3 ⟨R3, HK3, HBx, HGx⟩
  have HBW3 : Hid (Below w.heap.size w W3) := Lib.hid (HBW2.out.trans (HBx.out.mono HBW2.out.size))
  have HKW3 := Lib.hid HK3.out.nw_lt
  have hlt3 : g3 < W3.heap.size := HGx.out.2
  clear HBW2 HKW2 HK3 HBx HGx R2 hlt2
  go_wp2_with (with_reducible refine wpList_load_blk rfl 30 _ rfl g3 rfl R3 (by simp) Try.underlying30 rfl HI ?_)
  refine (Fold_at kp3 (.ofCut 2) kp2 0 f4 A3 c3 B3 d3 E3 n3 none 0 none 0 none 0 none 0 W3 HKW3.out ⟨RowsAt.nil, RowsAt.nil, RowsAt.nil, RowsAt.nil⟩ small3 small_cut).mono ?_
  rintro e Wf ⟨A4, c4, B4, d4, E4, n4, rfl, hk, hb⟩
  have HK4 := Lib.hid hk
  have HBf : Hid (Below w.heap.size w Wf) := Lib.hid (HBW3.out.trans (hb.mono HBW3.out.size))
  have R3' := Lib.hid (R3.out.below hb hlt3)
  have hlt3' : g3 < Wf.heap.size := Nat.lt_of_lt_of_le hlt3 hb.size
  clear hk hb HBW3 HKW3 R3 hlt3
  go_wp2_with fail
  refine at_worldC _ fun W4 hW => ?_
  have R4 : Hid (Blk W4 Wf.heap.size 30 [.int .i64 kp2.term, .int .i64 kp2.vote, .int .i64 kp2.snp.idx, .int .i64 kp2.snp.term, .slice A4 kp2.snp.v.length c4, .slice B4 kp2.snp.l.length d4, .string (text kp2.snp.b), .slice E4 kp2.ents.length n4]) := Lib.hid (hW ▸ Blk.new Wf 30 [.int .i64 kp2.term, .int .i64 kp2.vote, .int .i64 kp2.snp.idx, .int .i64 kp2.snp.term, .slice A4 kp2.snp.v.length c4, .slice B4 kp2.snp.l.length d4, .string (text kp2.snp.b), .slice E4 kp2.ents.length n4])
  have R3 : Hid (Blk W4 g3 30 [.int .i64 kp3.term, .int .i64 kp3.vote, .int .i64 kp3.snp.idx, .int .i64 kp3.snp.term, .slice A3 kp3.snp.v.length c3, .slice B3 kp3.snp.l.length d3, .string (text kp3.snp.b), .slice E3 kp3.ents.length n3]) := Lib.hid (hW ▸ R3'.out.alloc _)
  have HBW4 : Hid (Below w.heap.size w W4) := Lib.hid (by rw [hW]; exact HBf.out.alloc HBf.out.size _)
  have HKW4 : Hid (KepAt W4 (· < W4.heap.size) kp2 A4 B4 E4) := Lib.hid (by rw [hW]; exact ⟨(HK4.out.v.nw_lt.below ((Below.refl _ _).alloc (Nat.le_refl _) _)).more (by simp), (HK4.out.l.nw_lt.below ((Below.refl _ _).alloc (Nat.le_refl _) _)).more (by simp), (HK4.out.e.nw_lt.below ((Below.refl _ _).alloc (Nat.le_refl _) _)).more (by simp)⟩)
  clear hW HK4 HBf R3' hlt3'
  have hlt4 := R4.out.lt
  have hlt3 := R3.out.lt
  generalize Wf.heap.size = g4 at *
  refine' cut8 (F := fun g A c B d E n V => Hid (Blk V g 30 [.int .i64 Kep.zero.term, .int .i64 Kep.zero.vote, .int .i64 Kep.zero.snp.idx, .int .i64 Kep.zero.snp.term, .slice A Kep.zero.snp.v.length c, .slice B Kep.zero.snp.l.length d, .string (text Kep.zero.snp.b), .slice E Kep.zero.ents.length n]) ∧ Hid (KepAt V (Nw V W4.heap.size [34, 3]) Kep.zero A B E) ∧ Hid (Below W4.heap.size W4 V) ∧ Hid (W4.heap.size ≤ g ∧ g < V.heap.size)) (fun key => _) _
  rotate_left
  · refine wp_region_held_drew (S := fun w' => w'.rangeAt g4 0 [.int .i64 kp2.term, .int .i64 kp2.vote, .int .i64 kp2.snp.idx, .int .i64 kp2.snp.term, .slice A4 kp2.snp.v.length c4, .slice B4 kp2.snp.l.length d4, .string (text kp2.snp.b), .slice E4 kp2.ents.length n4]) (by kernel_rfl) (by simpa using R4.out.range0) (fun HD => ?_)
    refine wpAnyH_take (i := 0) (oi := ⟨some 36, _, _, _, _, _⟩) (v := _) rfl (by kernel_rfl) (by kernel_rfl) (by kernel_rfl) (fun _ _ _ h => h) (yieldsIf_load_mid (by rfl) _ _ rfl (g4) 0 rfl [.int .i64 kp2.term, .int .i64 kp2.vote, .int .i64 kp2.snp.idx, .int .i64 kp2.snp.term, .slice A4 kp2.snp.v.length c4, .slice B4 kp2.snp.l.length d4, .string (text kp2.snp.b), .slice E4 kp2.ents.length n4] _ (fun _ h => h) Try.underlying30 rfl HI.out) HD ?_
    (try simp only [Act.put, List.setIfInBounds_toArray, List.set_cons_zero, List.set_cons_succ])
    have HBa : Hid (Below W4.heap.size W4 W4.drew) := Lib.hid (Below.refl _ _).drew
    generalize W4.drew = wa at *
    refine wpAnyH_ready (rs := [1, 6]) (by kernel_rfl) (by simp) ?_
    refine AllReadyH.cons (o := ⟨some 37, _, _, _, _, _⟩) rfl (fun K hK => ?_) (AllReadyH.cons (o := ⟨some 9, _, _, _, _, _⟩) rfl (fun K hK => ?_) (AllReadyH.nil))
    · go_simp
      go_at_call 24
      refine (lentry_any 3 wa).mono ?_
      rintro e wb ⟨rfl, hb⟩
      have HBb : Hid (Below W4.heap.size W4 wb) := Lib.hid (HBa.out.trans (hb.mono HBa.out.size))
      clear hb
      (try dsimp only)
      refine hK.out _ _ ((R4.out.below HBb.out hlt4).range0) (fun HD => ?_)
      clear hK K
      (try simp only [Act.put, List.setIfInBounds_toArray, List.set_cons_zero, List.set_cons_succ])
      refine wpAnyH_ready (rs := [2, 6]) (by kernel_rfl) (by simp) ?_
      refine AllReadyH.cons (o := ⟨some 38, _, _, _, _, _⟩) rfl (fun K hK => ?_) (AllReadyH.cons (o := ⟨some 9, _, _, _, _, _⟩) rfl (fun K hK => ?_) (AllReadyH.nil))
      · go_simp
        go_at_call 7
        refine (Fold_at kp2 (.ofEnt (en 3)) Kep.zero 140 f5 A4 c4 B4 d4 E4 n4 none 0 none 0 none 0 none 0 wb ((HKW4.out.below HBb.out).more HBb.out.size) ⟨RowsAt.nil, RowsAt.nil, RowsAt.nil, RowsAt.nil⟩ small2 small_en).mono ?_
        rintro e wc ⟨A2, c2, B2, d2, E2, n2, rfl, hk, hb⟩
        have HKR : Hid (KepAt wc (Nw wc W4.heap.size [34, 3]) Kep.zero A2 B2 E2) := Lib.hid (hk.nw_more HBb.out.size)
        have HBc : Hid (Below W4.heap.size W4 wc) := Lib.hid (HBb.out.trans (hb.mono HBb.out.size))
        clear hb hk
        (try dsimp only)
        refine hK.out _ _ ((R4.out.below HBc.out hlt4).range0) (fun HD => ?_)
        clear hK K
        (try simp only [Act.put, List.setIfInBounds_toArray, List.set_cons_zero, List.set_cons_succ])
        refine wpAnyH_take (i := 3) (oi := ⟨some 35, _, _, _, _, _⟩) (v := ?_) rfl (by kernel_rfl) (by kernel_rfl) (by kernel_rfl) (fun _ _ _ h => h) (Or.inl ⟨by rfl, ?_⟩) HD ?_
        rotate_left
        · intro w hSw
          (try dsimp only at hSw)
          go_simp <;> with_reducible rfl
        (try simp only [Act.put, List.setIfInBounds_toArray, List.set_cons_zero, List.set_cons_succ])
        refine wpAnyH_take (i := 4) (oi := ⟨some 39, _, _, _, _, _⟩) (v := ?_) rfl (by kernel_rfl) (by kernel_rfl) (by kernel_rfl) (fun _ _ _ h => h) (Or.inl ⟨by rfl, ?_⟩) HD ?_
        rotate_left
        · intro w hSw
          (try dsimp only at hSw)
          go_simp <;> with_reducible rfl
        (try simp only [Act.put, List.setIfInBounds_toArray, List.set_cons_zero, List.set_cons_succ])
        refine wpAnyH_take (i := 5) (oi := ⟨some 40, _, _, _, _, _⟩) (v := ?_) rfl (by kernel_rfl) (by kernel_rfl) (by kernel_rfl) (fun _ _ _ h => h) (Or.inl ⟨by rfl, ?_⟩) HD ?_
        rotate_left
        · intro w hSw
          (try dsimp only at hSw)
          go_simp <;> with_reducible rfl
        (try simp only [Act.put, List.setIfInBounds_toArray, List.set_cons_zero, List.set_cons_succ])
        refine wpAnyH_ready (rs := [6]) (by kernel_rfl) (by simp) ?_
        refine AllReadyH.cons (o := ⟨some 9, _, _, _, _, _⟩) rfl (fun K hK => ?_) (AllReadyH.nil)
        go_simp
        replace HKR := Lib.hid (HKR.out.nw_keeps (us := []) (Keeps.alloc wc (.cells #[.int .i64 0, .int .i64 0, .int .i64 0, .int .i64 0, .slice none 0 0, .slice none 0 0, .string ⟨#[]⟩, .slice none 0 0] 30)) (by simp))
        have HBd : Hid (Below W4.heap.size W4 (wc.alloc (.cells #[.int .i64 0, .int .i64 0, .int .i64 0, .int .i64 0, .slice none 0 0, .slice none 0 0, .string ⟨#[]⟩, .slice none 0 0] 30))) := Lib.hid (HBc.out.alloc HBc.out.size _)
        have G0 : Hid (Blk (wc.alloc (.cells #[.int .i64 0, .int .i64 0, .int .i64 0, .int .i64 0, .slice none 0 0, .slice none 0 0, .string ⟨#[]⟩, .slice none 0 0] 30)) wc.heap.size 30 [.int .i64 0, .int .i64 0, .int .i64 0, .int .i64 0, .slice none 0 0, .slice none 0 0, .string ⟨#[]⟩, .slice none 0 0]) := Lib.hid (Blk.new wc 30 [.int .i64 0, .int .i64 0, .int .i64 0, .int .i64 0, .slice none 0 0, .slice none 0 0, .string ⟨#[]⟩, .slice none 0 0])
        have GZ : Hid (W4.heap.size ≤ wc.heap.size ∧ wc.heap.size < (wc.alloc (.cells #[.int .i64 0, .int .i64 0, .int .i64 0, .int .i64 0, .slice none 0 0, .slice none 0 0, .string ⟨#[]⟩, .slice none 0 0] 30)).heap.size) := Lib.hid ⟨HBc.out.size, by simp⟩
        generalize wc.alloc (.cells #[.int .i64 0, .int .i64 0, .int .i64 0, .int .i64 0, .slice none 0 0, .slice none 0 0, .string ⟨#[]⟩, .slice none 0 0] 30) = wd at *
        generalize wc.heap.size = g at *
        (try dsimp only)
        refine hK.out _ _ ((R4.out.below HBd.out hlt4).range0) (fun HD => ?_)
        clear hK K
        (try simp only [Act.put, List.setIfInBounds_toArray, List.set_cons_zero, List.set_cons_succ])
        refine wpAnyH_ready (rs := [7]) (by kernel_rfl) (by simp) ?_
        refine AllReadyH.cons (o := ⟨none, _, _, _, _, _⟩) rfl (fun K hK => ?_) (AllReadyH.nil)
        refine step_store_blk rfl 30 _ _ rfl g [.int .i64 Kep.zero.term, .int .i64 Kep.zero.vote, .int .i64 Kep.zero.snp.idx, .int .i64 Kep.zero.snp.term, .slice A2 Kep.zero.snp.v.length c2, .slice B2 Kep.zero.snp.l.length d2, .string (text Kep.zero.snp.b), .slice E2 Kep.zero.ents.length n2] rfl rfl G0 (by simp) (by simp) HI (by simp [Value.oneCell']) ?_
        intro w9 U
        have HB9 : Hid (Below W4.heap.size W4 w9) := Lib.hid (U.out.below HBd.out GZ.out.1)
        have GK : Hid (KepAt w9 (Nw w9 W4.heap.size [34, 3]) Kep.zero A2 B2 E2) := Lib.hid (HKR.out.nw_keeps U.out.keeps (by decide))
        (try dsimp only)
        refine hK.out _ _ ((R4.out.below HB9.out hlt4).range0) (fun HD => ?_)
        clear hK K
        (try simp only [Act.put, List.setIfInBounds_toArray, List.set_cons_zero, List.set_cons_succ])
        refine wpAnyH_take (i := 8) (oi := ⟨some 10, _, _, _, _, _⟩) (v := ?_) rfl (by kernel_rfl) (by kernel_rfl) (by kernel_rfl) (fun _ _ _ h => h) (Or.inl ⟨by rfl, ?_⟩) HD ?_
        rotate_left
        · intro w hSw
          (try dsimp only at hSw)
          go_simp <;> with_reducible rfl
        (try simp only [Act.put, List.setIfInBounds_toArray, List.set_cons_zero, List.set_cons_succ])
        refine wpAnyH_done (by kernel_rfl) ?_ _
        exact key g A2 c2 B2 d2 E2 n2 w9 ⟨Lib.hid U.out.blk, GK, HB9, Lib.hid ⟨GZ.out.1, by have := GZ.out.2; have := U.out.size; omega⟩⟩
      · go_simp
        have HBc : Hid (Below W4.heap.size W4 (wb.alloc (.cells #[.int .i64 0, .int .i64 0, .int .i64 0, .int .i64 0, .slice none 0 0, .slice none 0 0, .string ⟨#[]⟩, .slice none 0 0] 30))) := Lib.hid (HBb.out.alloc HBb.out.size _)
        have G0 : Hid (Blk (wb.alloc (.cells #[.int .i64 0, .int .i64 0, .int .i64 0, .int .i64 0, .slice none 0 0, .slice none 0 0, .string ⟨#[]⟩, .slice none 0 0] 30)) wb.heap.size 30 [.int .i64 0, .int .i64 0, .int .i64 0, .int .i64 0, .slice none 0 0, .slice none 0 0, .string ⟨#[]⟩, .slice none 0 0]) := Lib.hid (Blk.new wb 30 [.int .i64 0, .int .i64 0, .int .i64 0, .int .i64 0, .slice none 0 0, .slice none 0 0, .string ⟨#[]⟩, .slice none 0 0])
        have GZ : Hid (W4.heap.size ≤ wb.heap.size ∧ wb.heap.size < (wb.alloc (.cells #[.int .i64 0, .int .i64 0, .int .i64 0, .int .i64 0, .slice none 0 0, .slice none 0 0, .string ⟨#[]⟩, .slice none 0 0] 30)).heap.size) := Lib.hid ⟨HBb.out.size, by simp⟩
        generalize wb.alloc (.cells #[.int .i64 0, .int .i64 0, .int .i64 0, .int .i64 0, .slice none 0 0, .slice none 0 0, .string ⟨#[]⟩, .slice none 0 0] 30) = wc at *
        generalize wb.heap.size = g at *
        (try dsimp only)
        refine hK.out _ _ ((R4.out.below HBc.out hlt4).range0) (fun HD => ?_)
        clear hK K
        (try simp only [Act.put, List.setIfInBounds_toArray, List.set_cons_zero, List.set_cons_succ])
        refine wpAnyH_ready (rs := [2]) (by kernel_rfl) (by simp) ?_
        refine AllReadyH.cons (o := ⟨some 38, _, _, _, _, _⟩) rfl (fun K hK => ?_) (AllReadyH.nil)
        go_simp
        go_at_call 7
        refine (Fold_at kp2 (.ofEnt (en 3)) Kep.zero 140 f5 A4 c4 B4 d4 E4 n4 none 0 none 0 none 0 none 0 wc ((HKW4.out.below HBc.out).more HBc.out.size) ⟨RowsAt.nil, RowsAt.nil, RowsAt.nil, RowsAt.nil⟩ small2 small_en).mono ?_
        rintro e wd ⟨A2, c2, B2, d2, E2, n2, rfl, hk, hb⟩
        have HKR : Hid (KepAt wd (Nw wd W4.heap.size [34, 3]) Kep.zero A2 B2 E2) := Lib.hid (hk.nw_more HBc.out.size)
        have HBd : Hid (Below W4.heap.size W4 wd) := Lib.hid (HBc.out.trans (hb.mono HBc.out.size))
        replace G0 := Lib.hid (G0.out.below hb G0.out.lt)
        replace GZ : Hid (W4.heap.size ≤ g ∧ g < wd.heap.size) := Lib.hid ⟨GZ.out.1, G0.out.lt⟩
        clear hb hk
        (try dsimp only)
        refine hK.out _ _ ((R4.out.below HBd.out hlt4).range0) (fun HD => ?_)
        clear hK K
        (try simp only [Act.put, List.setIfInBounds_toArray, List.set_cons_zero, List.set_cons_succ])
        refine wpAnyH_take (i := 3) (oi := ⟨some 35, _, _, _, _, _⟩) (v := ?_) rfl (by kernel_rfl) (by kernel_rfl) (by kernel_rfl) (fun _ _ _ h => h) (Or.inl ⟨by rfl, ?_⟩) HD ?_
        rotate_left
        · intro w hSw
          (try dsimp only at hSw)
          go_simp <;> with_reducible rfl
        (try simp only [Act.put, List.setIfInBounds_toArray, List.set_cons_zero, List.set_cons_succ])
        refine wpAnyH_take (i := 4) (oi := ⟨some 39, _, _, _, _, _⟩) (v := ?_) rfl (by kernel_rfl) (by kernel_rfl) (by kernel_rfl) (fun _ _ _ h => h) (Or.inl ⟨by rfl, ?_⟩) HD ?_
        rotate_left
        · intro w hSw
          (try dsimp only at hSw)
          go_simp <;> with_reducible rfl
        (try simp only [Act.put, List.setIfInBounds_toArray, List.set_cons_zero, List.set_cons_succ])
        refine wpAnyH_take (i := 5) (oi := ⟨some 40, _, _, _, _, _⟩) (v := ?_) rfl (by kernel_rfl) (by kernel_rfl) (by kernel_rfl) (fun _ _ _ h => h) (Or.inl ⟨by rfl, ?_⟩) HD ?_
        rotate_left
        · intro w hSw
          (try dsimp only at hSw)
          go_simp <;> with_reducible rfl
        (try simp only [Act.put, List.setIfInBounds_toArray, List.set_cons_zero, List.set_cons_succ])
        refine wpAnyH_ready (rs := [7]) (by kernel_rfl) (by simp) ?_
        refine AllReadyH.cons (o := ⟨none, _, _, _, _, _⟩) rfl (fun K hK => ?_) (AllReadyH.nil)
        refine step_store_blk rfl 30 _ _ rfl g [.int .i64 Kep.zero.term, .int .i64 Kep.zero.vote, .int .i64 Kep.zero.snp.idx, .int .i64 Kep.zero.snp.term, .slice A2 Kep.zero.snp.v.length c2, .slice B2 Kep.zero.snp.l.length d2, .string (text Kep.zero.snp.b), .slice E2 Kep.zero.ents.length n2] rfl rfl G0 (by simp) (by simp) HI (by simp [Value.oneCell']) ?_
        intro w9 U
        have HB9 : Hid (Below W4.heap.size W4 w9) := Lib.hid (U.out.below HBd.out GZ.out.1)
        have GK : Hid (KepAt w9 (Nw w9 W4.heap.size [34, 3]) Kep.zero A2 B2 E2) := Lib.hid (HKR.out.nw_keeps U.out.keeps (by decide))
        (try dsimp only)
        refine hK.out _ _ ((R4.out.below HB9.out hlt4).range0) (fun HD => ?_)
        clear hK K
        (try simp only [Act.put, List.setIfInBounds_toArray, List.set_cons_zero, List.set_cons_succ])
        refine wpAnyH_take (i := 8) (oi := ⟨some 10, _, _, _, _, _⟩) (v := ?_) rfl (by kernel_rfl) (by kernel_rfl) (by kernel_rfl) (fun _ _ _ h => h) (Or.inl ⟨by rfl, ?_⟩) HD ?_
        rotate_left
        · intro w hSw
          (try dsimp only at hSw)
          go_simp <;> with_reducible rfl
        (try simp only [Act.put, List.setIfInBounds_toArray, List.set_cons_zero, List.set_cons_succ])
        refine wpAnyH_done (by kernel_rfl) ?_ _
        exact key g A2 c2 B2 d2 E2 n2 w9 ⟨Lib.hid U.out.blk, GK, HB9, Lib.hid ⟨GZ.out.1, by have := GZ.out.2; have := U.out.size; omega⟩⟩
    · go_simp
      have HBb : Hid (Below W4.heap.size W4 (wa.alloc (.cells #[.int .i64 0, .int .i64 0, .int .i64 0, .int .i64 0, .slice none 0 0, .slice none 0 0, .string ⟨#[]⟩, .slice none 0 0] 30))) := Lib.hid (HBa.out.alloc HBa.out.size _)
      have G0 : Hid (Blk (wa.alloc (.cells #[.int .i64 0, .int .i64 0, .int .i64 0, .int .i64 0, .slice none 0 0, .slice none 0 0, .string ⟨#[]⟩, .slice none 0 0] 30)) wa.heap.size 30 [.int .i64 0, .int .i64 0, .int .i64 0, .int .i64 0, .slice none 0 0, .slice none 0 0, .string ⟨#[]⟩, .slice none 0 0]) := Lib.hid (Blk.new wa 30 [.int .i64 0, .int .i64 0, .int .i64 0, .int .i64 0, .slice none 0 0, .slice none 0 0, .string ⟨#[]⟩, .slice none 0 0])
      have GZ : Hid (W4.heap.size ≤ wa.heap.size ∧ wa.heap.size < (wa.alloc (.cells #[.int .i64 0, .int .i64 0, .int .i64 0, .int .i64 0, .slice none 0 0, .slice none 0 0, .string ⟨#[]⟩, .slice none 0 0] 30)).heap.size) := Lib.hid ⟨HBa.out.size, by simp⟩
      generalize wa.alloc (.cells #[.int .i64 0, .int .i64 0, .int .i64 0, .int .i64 0, .slice none 0 0, .slice none 0 0, .string ⟨#[]⟩, .slice none 0 0] 30) = wb at *
      generalize wa.heap.size = g at *
      (try dsimp only)
      refine hK.out _ _ ((R4.out.below HBb.out hlt4).range0) (fun HD => ?_)
      clear hK K
      (try simp only [Act.put, List.setIfInBounds_toArray, List.set_cons_zero, List.set_cons_succ])
      refine wpAnyH_ready (rs := [1]) (by kernel_rfl) (by simp) ?_
      refine AllReadyH.cons (o := ⟨some 37, _, _, _, _, _⟩) rfl (fun K hK => ?_) (AllReadyH.nil)
      go_simp
      go_at_call 24
      refine (lentry_any 3 wb).mono ?_
      rintro e wc ⟨rfl, hb⟩
      have HBc : Hid (Below W4.heap.size W4 wc) := Lib.hid (HBb.out.trans (hb.mono HBb.out.size))
      replace G0 := Lib.hid (G0.out.below hb G0.out.lt)
      replace GZ : Hid (W4.heap.size ≤ g ∧ g < wc.heap.size) := Lib.hid ⟨GZ.out.1, G0.out.lt⟩
      clear hb
      (try dsimp only)
      refine hK.out _ _ ((R4.out.below HBc.out hlt4).range0) (fun HD => ?_)
      clear hK K
      (try simp only [Act.put, List.setIfInBounds_toArray, List.set_cons_zero, List.set_cons_succ])
      refine wpAnyH_ready (rs := [2]) (by kernel_rfl) (by simp) ?_
      refine AllReadyH.cons (o := ⟨some 38, _, _, _, _, _⟩) rfl (fun K hK => ?_) (AllReadyH.nil)
      go_simp
      go_at_call 7
      refine (Fold_at kp2 (.ofEnt (en 3)) Kep.zero 140 f5 A4 c4 B4 d4 E4 n4 none 0 none 0 none 0 none 0 wc ((HKW4.out.below HBc.out).more HBc.out.size) ⟨RowsAt.nil, RowsAt.nil, RowsAt.nil, RowsAt.nil⟩ small2 small_en).mono ?_
      rintro e wd ⟨A2, c2, B2, d2, E2, n2, rfl, hk, hb⟩
      have HKR : Hid (KepAt wd (Nw wd W4.heap.size [34, 3]) Kep.zero A2 B2 E2) := Lib.hid (hk.nw_more HBc.out.size)
      have HBd : Hid (Below W4.heap.size W4 wd) := Lib.hid (HBc.out.trans (hb.mono HBc.out.size))
      replace G0 := Lib.hid (G0.out.below hb G0.out.lt)
      replace GZ : Hid (W4.heap.size ≤ g ∧ g < wd.heap.size) := Lib.hid ⟨GZ.out.1, G0.out.lt⟩
      clear hb hk
      (try dsimp only)
      refine hK.out _ _ ((R4.out.below HBd.out hlt4).range0) (fun HD => ?_)
      clear hK K
      (try simp only [Act.put, List.setIfInBounds_toArray, List.set_cons_zero, List.set_cons_succ])
      refine wpAnyH_take (i := 3) (oi := ⟨some 35, _, _, _, _, _⟩) (v := ?_) rfl (by kernel_rfl) (by kernel_rfl) (by kernel_rfl) (fun _ _ _ h => h) (Or.inl ⟨by rfl, ?_⟩) HD ?_
      rotate_left
      · intro w hSw
        (try dsimp only at hSw)
        go_simp <;> with_reducible rfl
      (try simp only [Act.put, List.setIfInBounds_toArray, List.set_cons_zero, List.set_cons_succ])
      refine wpAnyH_take (i := 4) (oi := ⟨some 39, _, _, _, _, _⟩) (v := ?_) rfl (by kernel_rfl) (by kernel_rfl) (by kernel_rfl) (fun _ _ _ h => h) (Or.inl ⟨by rfl, ?_⟩) HD ?_
      rotate_left
      · intro w hSw
        (try dsimp only at hSw)
        go_simp <;> with_reducible rfl
      (try simp only [Act.put, List.setIfInBounds_toArray, List.set_cons_zero, List.set_cons_succ])
      refine wpAnyH_take (i := 5) (oi := ⟨some 40, _, _, _, _, _⟩) (v := ?_) rfl (by kernel_rfl) (by kernel_rfl) (by kernel_rfl) (fun _ _ _ h => h) (Or.inl ⟨by rfl, ?_⟩) HD ?_
      rotate_left
      · intro w hSw
        (try dsimp only at hSw)
        go_simp <;> with_reducible rfl
      (try simp only [Act.put, List.setIfInBounds_toArray, List.set_cons_zero, List.set_cons_succ])
      refine wpAnyH_ready (rs := [7]) (by kernel_rfl) (by simp) ?_
      refine AllReadyH.cons (o := ⟨none, _, _, _, _, _⟩) rfl (fun K hK => ?_) (AllReadyH.nil)
      refine step_store_blk rfl 30 _ _ rfl g [.int .i64 Kep.zero.term, .int .i64 Kep.zero.vote, .int .i64 Kep.zero.snp.idx, .int .i64 Kep.zero.snp.term, .slice A2 Kep.zero.snp.v.length c2, .slice B2 Kep.zero.snp.l.length d2, .string (text Kep.zero.snp.b), .slice E2 Kep.zero.ents.length n2] rfl rfl G0 (by simp) (by simp) HI (by simp [Value.oneCell']) ?_
      intro w9 U
      have HB9 : Hid (Below W4.heap.size W4 w9) := Lib.hid (U.out.below HBd.out GZ.out.1)
      have GK : Hid (KepAt w9 (Nw w9 W4.heap.size [34, 3]) Kep.zero A2 B2 E2) := Lib.hid (HKR.out.nw_keeps U.out.keeps (by decide))
      (try dsimp only)
      refine hK.out _ _ ((R4.out.below HB9.out hlt4).range0) (fun HD => ?_)
      clear hK K
      (try simp only [Act.put, List.setIfInBounds_toArray, List.set_cons_zero, List.set_cons_succ])
      refine wpAnyH_take (i := 8) (oi := ⟨some 10, _, _, _, _, _⟩) (v := ?_) rfl (by kernel_rfl) (by kernel_rfl) (by kernel_rfl) (fun _ _ _ h => h) (Or.inl ⟨by rfl, ?_⟩) HD ?_
      rotate_left
      · intro w hSw
        (try dsimp only at hSw)
        go_simp <;> with_reducible rfl
      (try simp only [Act.put, List.setIfInBounds_toArray, List.set_cons_zero, List.set_cons_succ])
      refine wpAnyH_done (by kernel_rfl) ?_ _
      exact key g A2 c2 B2 d2 E2 n2 w9 ⟨Lib.hid U.out.blk, GK, HB9, Lib.hid ⟨GZ.out.1, by have := GZ.out.2; have := U.out.size; omega⟩⟩
  intro g5 A5 c5 B5 d5 E5 n5 W5 ⟨R5, HK5, HBx, HGx⟩
  have HBW5 : Hid (Below w.heap.size w W5) := Lib.hid (HBW4.out.trans (HBx.out.mono HBW4.out.size))
  have HKW5 := Lib.hid HK5.out.nw_lt
  have hlt5 : g5 < W5.heap.size := HGx.out.2
  have R3' := Lib.hid (R3.out.below HBx.out hlt3)
  have hlt3' : g3 < W5.heap.size := Nat.lt_of_lt_of_le hlt3 HBx.out.size
  clear R3 hlt3
  have R3 := R3'
  have hlt3 := hlt3'
  clear R3' hlt3'
  have R4' := Lib.hid (R4.out.below HBx.out hlt4)
  have hlt4' : g4 < W5.heap.size := Nat.lt_of_lt_of_le hlt4 HBx.out.size
  clear R4 hlt4
  have R4 := R4'
  have hlt4 := hlt4'
  clear R4' hlt4'
  clear HBW4 HKW4 HK5 HBx HGx 
  have p0 : W5.cell? ⟨g4, 0, none⟩ = some (.int .i64 2) := R4.out.cell 0
  have p1 : W5.cell? ⟨g4, 1, none⟩ = some (.int .i64 1) := R4.out.cell 1
  have p7 : W5.cell? ⟨g4, 7, none⟩ = some (.slice E4 1 n4) := R4.out.cell 7
  have q7 : W5.cell? ⟨g3, 7, none⟩ = some (.slice E3 2 n3) := R3.out.cell 7
  go_wp2_with fail
  go_ret
  exact ⟨rfl, HBW5.out⟩
end Go.Proofs.Ytkdmfjpfanmgmaa
