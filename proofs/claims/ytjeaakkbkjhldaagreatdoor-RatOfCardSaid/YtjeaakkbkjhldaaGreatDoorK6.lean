import Derived.Test.YtjeaakkbkjhldaaGreatDoorK5
set_option linter.unusedVariables false
set_option linter.unusedSimpArgs false
namespace Go.Proofs.YtjeaakkbkjhldaaGreatDoor
open Go.RowKit

set_option maxHeartbeats 4000000 in
set_option maxRecDepth 100000 in
theorem RAdd_calls {w : World} {v v' : Value} {n d n' d' : Int} {k : Nat} (h : RV w v n d) (h' : RV w v' n' d') (sx : Sm k n) (sy : Sm k d) (sx' : Sm k n') (sy' : Sm k d') (hk : k + k + 1 ≤ 137438953472) (hk1 : 1 ≤ k) :
    Calls Tryz.prog 17 #[v, v'] w (RatRes w (fr n d + fr n' d')) := by
  have hlow : ∀ W, RV W v n d → Calls Tryz.prog 48 #[v] W (RatRes W (fr n d)) := fun W h => low_calls h sx sy (by omega) hk1
  have hlow' : ∀ W, RV W v' n' d' → Calls Tryz.prog 48 #[v'] W (RatRes W (fr n' d')) := fun W h => low_calls h sx' sy' (by omega) hk1
  obtain ⟨neg, A1, n1, c1, neg2, A2, n2, c2, rfl⟩ := h.shape
  obtain ⟨neg3, A3, n3, c3, neg4, A4, n4, c4, rfl⟩ := h'.shape
  obtain ⟨hbW, ba, bb, br⟩ := boxQ3_facts w 26 26 26 (.bool neg) (.slice A1 n1 c1) (.bool neg2) (.slice A2 n2 c2) (.bool neg3) (.slice A3 n3 c3) (.bool neg4) (.slice A4 n4 c4) (.bool false) (.slice none 0 0) (.bool false) (.slice none 0 0)
  replace h := (h.below hbW).drew
  replace h' := (h'.below hbW).drew
  have sq := SmR.fr sx sy hk1
  have sq' := SmR.fr sx' sy' hk1
  generalize fr n d = qa at *
  generalize fr n' d' = qb at *
  have hk0 : k ≤ 137438953472 := by omega
  have hkk : k + k ≤ 137438953472 := by omega
  have hkk1 : 1 ≤ k + k := by omega
  obtain ⟨s1, s2, s3, s4, s5⟩ := sq.nums sq'
  have s6 := s1.add' s2
  have s7 := s3.mono (show k + k ≤ k + k + 1 by omega)
  have hkk2 : 1 ≤ k + k + 1 := by omega
  have sq1 := sq.1
  have sq2 := sq.2
  have sq3 := sq'.1
  have sq4 := sq'.2
  go_enter Tryz.func17, Tryz.ntmps17
  go_upto_region 1 with fail
  change Code.wp _ _ _ _ (boxQ3 w 26 26 26 (.bool neg) (.slice A1 n1 c1) (.bool neg2) (.slice A2 n2 c2) (.bool neg3) (.slice A3 n3 c3) (.bool neg4) (.slice A4 n4 c4) (.bool false) (.slice none 0 0) (.bool false) (.slice none 0 0))
  generalize boxQ3 w 26 26 26 (.bool neg) (.slice A1 n1 c1) (.bool neg2) (.slice A2 n2 c2) (.bool neg3) (.slice A3 n3 c3) (.bool neg4) (.slice A4 n4 c4) (.bool false) (.slice none 0 0) (.bool false) (.slice none 0 0) = W at *
  have o1 : w.heap.size < w.heap.size + 1 := by omega
  have o2 : w.heap.size + 1 < w.heap.size + 1 + 1 := by omega
  have o3 : w.heap.size + 1 + 1 < w.heap.size + 1 + 1 + 1 := by omega
  obtain ⟨hi, hhi0, o5⟩ : ∃ hi, w.heap.size + 1 + 1 + 1 = hi ∧ hi ≤ w.heap.size + 1 + 1 + 1 := ⟨_, rfl, Nat.le_refl _⟩
  rw [hhi0] at o3
  clear hhi0
  generalize w.heap.size + 1 + 1 = r at *
  generalize w.heap.size + 1 = q at *
  generalize hp : w.heap.size = p at ba o1 ⊢
  clear hp
  have d1 : ¬ p = q := by omega
  have d2 : ¬ q = p := by omega
  have d3 : ¬ r = p := by omega
  have d4 : ¬ r = q := by omega
  have d5 : ¬ p = r := by omega
  have d6 : ¬ q = r := by omega
  have hph : p < hi := by omega
  have hqh : q < hi := by omega
  have hwh : Shut (w.heap.size ≤ hi) := ⟨by have := ba.ge; omega⟩
  go_cut [] (fun wc => ∃ (ng : Bool) (B1 : Option Addr) (m1 e1 : Nat) (ng2 : Bool) (B2 : Option Addr) (m2 e2 : Nat) (ng3 : Bool) (B3 : Option Addr) (m3 e3 : Nat) (ng4 : Bool) (B4 : Option Addr) (m4 e4 : Nat), Shut (Below w.heap.size w wc) ∧ NRV hi wc (.agg #[.bool ng, .slice B1 m1 e1, .bool ng2, .slice B2 m2 e2]) qa ∧ NRV hi wc (.agg #[.bool ng3, .slice B3 m3 e3, .bool ng4, .slice B4 m4 e4]) qb ∧ Box4 w wc p (.bool ng) (.slice B1 m1 e1) (.bool ng2) (.slice B2 m2 e2) ∧ Box4 w wc q (.bool ng3) (.slice B3 m3 e3) (.bool ng4) (.slice B4 m4 e4) ∧ Box4 w wc r (.bool false) (.slice none 0 0) (.bool false) (.slice none 0 0))
  case first =>
    replace hbW := Shut.mk hbW.drew
    have l0 := ba.c0
    have l1 := ba.c1
    have l2 := ba.c2
    have l3 := ba.c3
    have f0 := ba.f0
    have f1 := ba.f1
    have f2 := ba.f2
    have f3 := ba.f3
    have l4 := bb.c0
    have l5 := bb.c1
    have l6 := bb.c2
    have l7 := bb.c3
    have f4 := bb.f0
    have f5 := bb.f1
    have f6 := bb.f2
    have f7 := bb.f3
    replace ba := ba.drew
    replace bb := bb.drew
    replace br := br.drew
    go_region_with (first
      | (go_at_call 48; (with_reducible refine (hlow _ h).mono ?_); rintro e w5 ⟨v5, rfl, hva, hb5⟩; replace hva := hva.mono (show hi ≤ _ by have := bb.lt; have := br.lt; omega); replace hbW := Shut.mk (bthen' hbW.out hbW.out.size hb5); obtain ⟨ng, B1, m1, e1, ng2, B2, m2, e2, rfl⟩ := hva.shape; clear h; ((try replace h' := h'.below hb5); replace ba := ba.below hb5; replace bb := bb.below hb5; replace br := br.below hb5); (try replace hvb := hvb.below hb5); clear hb5; replace l0 := ba.c0; replace l1 := ba.c1; replace l2 := ba.c2; replace l3 := ba.c3; replace f0 := ba.f0; replace f1 := ba.f1; replace f2 := ba.f2; replace f3 := ba.f3; replace l4 := bb.c0; replace l5 := bb.c1; replace l6 := bb.c2; replace l7 := bb.c3; replace f4 := bb.f0; replace f5 := bb.f1; replace f6 := bb.f2; replace f7 := bb.f3)
      | (go_at_call 48; (with_reducible refine (hlow' _ h').mono ?_); rintro e w5 ⟨v5, rfl, hvb, hb5⟩; replace hvb := hvb.mono (show hi ≤ _ by have := bb.lt; have := br.lt; omega); replace hbW := Shut.mk (bthen' hbW.out hbW.out.size hb5); obtain ⟨ng3, B3, m3, e3, ng4, B4, m4, e4, rfl⟩ := hvb.shape; clear h'; ((try replace h := h.below hb5); replace ba := ba.below hb5; replace bb := bb.below hb5; replace br := br.below hb5); (try replace hva := hva.below hb5); clear hb5; replace l0 := ba.c0; replace l1 := ba.c1; replace l2 := ba.c2; replace l3 := ba.c3; replace f0 := ba.f0; replace f1 := ba.f1; replace f2 := ba.f2; replace f3 := ba.f3; replace l4 := bb.c0; replace l5 := bb.c1; replace l6 := bb.c2; replace l7 := bb.c3; replace f4 := bb.f0; replace f5 := bb.f1; replace f6 := bb.f2; replace f7 := bb.f3))
    all_goals
      clear l0 l1 l2 l3 l4 l5 l6 l7 f0 f1 f2 f3 f4 f5 f6 f7
      go_wp2_with fail
      go_meet
      case rel => exact ⟨_, _, _, _, _, _, _, _, _, _, _, _, _, _, _, _, ⟨below_four (below_four hbW.out ba.ge _ _ _ _) bb.ge _ _ _ _⟩, (hva.four hph _ _ _ _).four hqh _ _ _ _, (hvb.four hph _ _ _ _).four hqh _ _ _ _, (ba.put _ _ _ _).four d1 _ _ _ _, (bb.four d2 _ _ _ _).put _ _ _ _, (br.four d3 _ _ _ _).four d4 _ _ _ _⟩
  case rest =>
    clear h h' ba bb br hbW hlow hlow'
    obtain ⟨ng, B1, m1, e1, ng2, B2, m2, e2, ng3, B3, m3, e3, ng4, B4, m4, e4, hbW, hva, hvb, ba, bb, br⟩ := hcut
    replace hbW := Shut.mk hbW.out.drew
    replace ba := ba.drew
    replace bb := bb.drew
    replace br := br.drew
    have l0 := ba.c0
    have l1 := ba.c1
    have l2 := ba.c2
    have l3 := ba.c3
    have l4 := bb.c0
    have l5 := bb.c1
    have l6 := bb.c2
    have l7 := bb.c3
    obtain ⟨han, had⟩ := hva.parts
    obtain ⟨hbn, hbd⟩ := hvb.parts
    replace han := han.below (drew_below _)
    replace had := had.below (drew_below _)
    replace hbn := hbn.below (drew_below _)
    replace hbd := hbd.below (drew_below _)
    clear hva hvb
    go_upto_region 2 with fail
    go_region_held3 (fun w' => (w'.cell? ⟨p, 0, none⟩ = some (.bool ng) ∧ w'.cell? ⟨p, 1, none⟩ = some (.slice B1 m1 e1) ∧ w'.cell? ⟨p, 2, none⟩ = some (.bool ng2) ∧ w'.cell? ⟨p, 3, none⟩ = some (.slice B2 m2 e2)) ∧ w'.cell? ⟨q, 0, none⟩ = some (.bool ng3) ∧ w'.cell? ⟨q, 1, none⟩ = some (.slice B3 m3 e3) ∧ w'.cell? ⟨q, 2, none⟩ = some (.bool ng4) ∧ w'.cell? ⟨q, 3, none⟩ = some (.slice B4 m4 e4)) (first | (with_reducible exact ⟨⟨l0, l1, l2, l3⟩, l4, l5, l6, l7⟩) | (with_reducible exact ⟨⟨cell_far4 d5 l0, cell_far4 d5 l1, cell_far4 d5 l2, cell_far4 d5 l3⟩, cell_far4 d6 l4, cell_far4 d6 l5, cell_far4 d6 l6, cell_far4 d6 l7⟩) | go_keep)
      (first
        | (go_at_call 49; (with_reducible refine (Mul_calls (han.bv sq1 hk0) (hbd.bv sq4 hk0)).mono ?_); rintro e w5 ⟨v5, rfl, hm1, hb5⟩; replace hbW := Shut.mk (bthen' hbW.out hbW.out.size hb5); (replace han := han.below hb5; replace had := had.below hb5; replace hbn := hbn.below hb5; replace hbd := hbd.below hb5; (try replace hm2 := hm2.below hb5); (try replace hm3 := hm3.below hb5); (try replace hs := hs.below hb5); replace ba := ba.below hb5; replace bb := bb.below hb5; replace br := br.below hb5; replace l0 := old_cell hb5 l0; replace l1 := old_cell hb5 l1; replace l2 := old_cell hb5 l2; replace l3 := old_cell hb5 l3; replace l4 := old_cell hb5 l4; replace l5 := old_cell hb5 l5; replace l6 := old_cell hb5 l6; replace l7 := old_cell hb5 l7); clear hb5)
        | (go_at_call 49; (with_reducible refine (Mul_calls (hbn.bv sq3 hk0) (had.bv sq2 hk0)).mono ?_); rintro e w5 ⟨v5, rfl, hm2, hb5⟩; replace hbW := Shut.mk (bthen' hbW.out hbW.out.size hb5); (replace han := han.below hb5; replace had := had.below hb5; replace hbn := hbn.below hb5; replace hbd := hbd.below hb5; (try replace hm1 := hm1.below hb5); (try replace hm3 := hm3.below hb5); (try replace hs := hs.below hb5); replace ba := ba.below hb5; replace bb := bb.below hb5; replace br := br.below hb5; replace l0 := old_cell hb5 l0; replace l1 := old_cell hb5 l1; replace l2 := old_cell hb5 l2; replace l3 := old_cell hb5 l3; replace l4 := old_cell hb5 l4; replace l5 := old_cell hb5 l5; replace l6 := old_cell hb5 l6; replace l7 := old_cell hb5 l7); clear hb5)
        | (go_at_call 49; (with_reducible refine (Mul_calls (had.bv sq2 hk0) (hbd.bv sq4 hk0)).mono ?_); rintro e w5 ⟨v5, rfl, hm3, hb5⟩; replace hbW := Shut.mk (bthen' hbW.out hbW.out.size hb5); (replace han := han.below hb5; replace had := had.below hb5; replace hbn := hbn.below hb5; replace hbd := hbd.below hb5; (try replace hm1 := hm1.below hb5); (try replace hm2 := hm2.below hb5); (try replace hs := hs.below hb5); replace ba := ba.below hb5; replace bb := bb.below hb5; replace br := br.below hb5; replace l0 := old_cell hb5 l0; replace l1 := old_cell hb5 l1; replace l2 := old_cell hb5 l2; replace l3 := old_cell hb5 l3; replace l4 := old_cell hb5 l4; replace l5 := old_cell hb5 l5; replace l6 := old_cell hb5 l6; replace l7 := old_cell hb5 l7); clear hb5)
        | (go_at_call 54; (with_reducible refine (Add_calls (hm1.bv s1 hkk) (hm2.bv s2 hkk)).mono ?_); rintro e w5 ⟨v5, rfl, hs, hb5⟩; replace hbW := Shut.mk (bthen' hbW.out hbW.out.size hb5); (replace han := han.below hb5; replace had := had.below hb5; replace hbn := hbn.below hb5; replace hbd := hbd.below hb5; (try replace hm3 := hm3.below hb5); replace ba := ba.below hb5; replace bb := bb.below hb5; replace br := br.below hb5; replace l0 := old_cell hb5 l0; replace l1 := old_cell hb5 l1; replace l2 := old_cell hb5 l2; replace l3 := old_cell hb5 l3; replace l4 := old_cell hb5 l4; replace l5 := old_cell hb5 l5; replace l6 := old_cell hb5 l6; replace l7 := old_cell hb5 l7); clear hb5)
        | (go_at_call 53; (with_reducible refine (rmade_calls (hs.bv s6 hk) (hm3.bv s7 hk) s6 s7 hk hkk2).mono ?_); rintro e w5 ⟨v5, rfl, hv5, hb5⟩; rw [fr_add] at hv5; (have HL := Shut.mk br.lt; have HS := Shut.mk hbW.out.size; have HB := Shut.mk (bthen' hbW.out hbW.out.size hb5); (replace br := br.below hb5; replace l0 := old_cell hb5 l0; replace l1 := old_cell hb5 l1; replace l2 := old_cell hb5 l2; replace l3 := old_cell hb5 l3; replace l4 := old_cell hb5 l4; replace l5 := old_cell hb5 l5; replace l6 := old_cell hb5 l6; replace l7 := old_cell hb5 l7); have r0 := br.c0; have r1 := br.c1; have r2 := br.c2; have r3 := br.c3; have g0 := br.f0; have g1 := br.f1; have g2 := br.f2; have g3 := br.f3; have HG := Shut.mk br.ge; have HV := Shut.mk hv5; obtain ⟨ng5, B5, m5, e5, ng6, B6, m6, e6, rfl⟩ := hv5.shape; clear hb5)))
    all_goals
      clear l0 l1 l2 l3 l4 l5 l6 l7
      go_wp2_with fail
      refine bodyPost_ret (v := .agg #[.bool ng5, .slice B5 m5 e5, .bool ng6, .slice B6 m6 e6]) (by simp [results, Tryz.results17, go_sem, r0, r1, r2, r3]) rfl ?_
      exact ⟨_, rfl, (HV.out.four HL.out _ _ _ _).mono HS.out, below_four HB.out HG.out _ _ _ _⟩

end Go.Proofs.YtjeaakkbkjhldaaGreatDoor

set_option linter.unusedVariables false
set_option linter.unusedSimpArgs false
namespace Go.Proofs.YtjeaakkbkjhldaaGreatDoor
open Go.RowKit

set_option maxHeartbeats 4000000 in
set_option maxRecDepth 100000 in
theorem RQuo_calls {w : World} {v v' : Value} {n d n' d' : Int} {k : Nat} (h : RV w v n d) (h' : RV w v' n' d') (sx : Sm k n) (sy : Sm k d) (sx' : Sm k n') (sy' : Sm k d') (hk : k + k + 1 ≤ 137438953472) (hk1 : 1 ≤ k) :
    Calls Tryz.prog 10 #[v, v'] w (RQuoRes w (fr n d) (fr n' d')) := by
  have hlow : ∀ W, RV W v n d → Calls Tryz.prog 48 #[v] W (RatRes W (fr n d)) := fun W h => low_calls h sx sy (by omega) hk1
  have hlow' : ∀ W, RV W v' n' d' → Calls Tryz.prog 48 #[v'] W (RatRes W (fr n' d')) := fun W h => low_calls h sx' sy' (by omega) hk1
  obtain ⟨neg, A1, n1, c1, neg2, A2, n2, c2, rfl⟩ := h.shape
  obtain ⟨neg3, A3, n3, c3, neg4, A4, n4, c4, rfl⟩ := h'.shape
  obtain ⟨hbW, ba, bb, br⟩ := boxQ3_facts w 26 26 26 (.bool neg) (.slice A1 n1 c1) (.bool neg2) (.slice A2 n2 c2) (.bool neg3) (.slice A3 n3 c3) (.bool neg4) (.slice A4 n4 c4) (.bool false) (.slice none 0 0) (.bool false) (.slice none 0 0)
  replace h := (h.below hbW).drew
  replace h' := (h'.below hbW).drew
  have sq := SmR.fr sx sy hk1
  have sq' := SmR.fr sx' sy' hk1
  generalize fr n d = qa at *
  generalize fr n' d' = qb at *
  have hk0 : k ≤ 137438953472 := by omega
  have hkk : k + k ≤ 137438953472 := by omega
  have hkk1 : 1 ≤ k + k := by omega
  obtain ⟨s1, s2, s3, s4, s5⟩ := sq.nums sq'
  have sq1 := sq.1
  have sq2 := sq.2
  have sq3 := sq'.1
  have sq4 := sq'.2
  go_enter Tryz.func10, Tryz.ntmps10
  go_upto_region 1 with fail
  change Code.wp _ _ _ _ (boxQ3 w 26 26 26 (.bool neg) (.slice A1 n1 c1) (.bool neg2) (.slice A2 n2 c2) (.bool neg3) (.slice A3 n3 c3) (.bool neg4) (.slice A4 n4 c4) (.bool false) (.slice none 0 0) (.bool false) (.slice none 0 0))
  generalize boxQ3 w 26 26 26 (.bool neg) (.slice A1 n1 c1) (.bool neg2) (.slice A2 n2 c2) (.bool neg3) (.slice A3 n3 c3) (.bool neg4) (.slice A4 n4 c4) (.bool false) (.slice none 0 0) (.bool false) (.slice none 0 0) = W at *
  have o1 : w.heap.size < w.heap.size + 1 := by omega
  have o2 : w.heap.size + 1 < w.heap.size + 1 + 1 := by omega
  have o3 : w.heap.size + 1 + 1 < w.heap.size + 1 + 1 + 1 := by omega
  obtain ⟨hi, hhi0, o5⟩ : ∃ hi, w.heap.size + 1 + 1 + 1 = hi ∧ hi ≤ w.heap.size + 1 + 1 + 1 := ⟨_, rfl, Nat.le_refl _⟩
  rw [hhi0] at o3
  clear hhi0
  generalize w.heap.size + 1 + 1 = r at *
  generalize w.heap.size + 1 = q at *
  generalize hp : w.heap.size = p at ba o1 ⊢
  clear hp
  have d1 : ¬ p = q := by omega
  have d2 : ¬ q = p := by omega
  have d3 : ¬ r = p := by omega
  have d4 : ¬ r = q := by omega
  have d5 : ¬ p = r := by omega
  have d6 : ¬ q = r := by omega
  have hph : p < hi := by omega
  have hqh : q < hi := by omega
  have hwh : Shut (w.heap.size ≤ hi) := ⟨by have := ba.ge; omega⟩
  go_cut [] (fun wc => ∃ (ng : Bool) (B1 : Option Addr) (m1 e1 : Nat) (ng2 : Bool) (B2 : Option Addr) (m2 e2 : Nat) (ng3 : Bool) (B3 : Option Addr) (m3 e3 : Nat) (ng4 : Bool) (B4 : Option Addr) (m4 e4 : Nat), Shut (Below w.heap.size w wc) ∧ NRV hi wc (.agg #[.bool ng, .slice B1 m1 e1, .bool ng2, .slice B2 m2 e2]) qa ∧ NRV hi wc (.agg #[.bool ng3, .slice B3 m3 e3, .bool ng4, .slice B4 m4 e4]) qb ∧ Box4 w wc p (.bool ng) (.slice B1 m1 e1) (.bool ng2) (.slice B2 m2 e2) ∧ Box4 w wc q (.bool ng3) (.slice B3 m3 e3) (.bool ng4) (.slice B4 m4 e4) ∧ Box4 w wc r (.bool false) (.slice none 0 0) (.bool false) (.slice none 0 0))
  case first =>
    replace hbW := Shut.mk hbW.drew
    have l0 := ba.c0
    have l1 := ba.c1
    have l2 := ba.c2
    have l3 := ba.c3
    have f0 := ba.f0
    have f1 := ba.f1
    have f2 := ba.f2
    have f3 := ba.f3
    have l4 := bb.c0
    have l5 := bb.c1
    have l6 := bb.c2
    have l7 := bb.c3
    have f4 := bb.f0
    have f5 := bb.f1
    have f6 := bb.f2
    have f7 := bb.f3
    replace ba := ba.drew
    replace bb := bb.drew
    replace br := br.drew
    go_region_with (first
      | (go_at_call 48; (with_reducible refine (hlow _ h).mono ?_); rintro e w5 ⟨v5, rfl, hva, hb5⟩; replace hva := hva.mono (show hi ≤ _ by have := bb.lt; have := br.lt; omega); replace hbW := Shut.mk (bthen' hbW.out hbW.out.size hb5); obtain ⟨ng, B1, m1, e1, ng2, B2, m2, e2, rfl⟩ := hva.shape; clear h; ((try replace h' := h'.below hb5); replace ba := ba.below hb5; replace bb := bb.below hb5; replace br := br.below hb5); (try replace hvb := hvb.below hb5); clear hb5; replace l0 := ba.c0; replace l1 := ba.c1; replace l2 := ba.c2; replace l3 := ba.c3; replace f0 := ba.f0; replace f1 := ba.f1; replace f2 := ba.f2; replace f3 := ba.f3; replace l4 := bb.c0; replace l5 := bb.c1; replace l6 := bb.c2; replace l7 := bb.c3; replace f4 := bb.f0; replace f5 := bb.f1; replace f6 := bb.f2; replace f7 := bb.f3)
      | (go_at_call 48; (with_reducible refine (hlow' _ h').mono ?_); rintro e w5 ⟨v5, rfl, hvb, hb5⟩; replace hvb := hvb.mono (show hi ≤ _ by have := bb.lt; have := br.lt; omega); replace hbW := Shut.mk (bthen' hbW.out hbW.out.size hb5); obtain ⟨ng3, B3, m3, e3, ng4, B4, m4, e4, rfl⟩ := hvb.shape; clear h'; ((try replace h := h.below hb5); replace ba := ba.below hb5; replace bb := bb.below hb5; replace br := br.below hb5); (try replace hva := hva.below hb5); clear hb5; replace l0 := ba.c0; replace l1 := ba.c1; replace l2 := ba.c2; replace l3 := ba.c3; replace f0 := ba.f0; replace f1 := ba.f1; replace f2 := ba.f2; replace f3 := ba.f3; replace l4 := bb.c0; replace l5 := bb.c1; replace l6 := bb.c2; replace l7 := bb.c3; replace f4 := bb.f0; replace f5 := bb.f1; replace f6 := bb.f2; replace f7 := bb.f3))
    all_goals
      clear l0 l1 l2 l3 l4 l5 l6 l7 f0 f1 f2 f3 f4 f5 f6 f7
      go_wp2_with fail
      go_meet
      case rel => exact ⟨_, _, _, _, _, _, _, _, _, _, _, _, _, _, _, _, ⟨below_four (below_four hbW.out ba.ge _ _ _ _) bb.ge _ _ _ _⟩, (hva.four hph _ _ _ _).four hqh _ _ _ _, (hvb.four hph _ _ _ _).four hqh _ _ _ _, (ba.put _ _ _ _).four d1 _ _ _ _, (bb.four d2 _ _ _ _).put _ _ _ _, (br.four d3 _ _ _ _).four d4 _ _ _ _⟩
  case rest =>
    clear h h' ba bb br hbW hlow hlow'
    obtain ⟨ng, B1, m1, e1, ng2, B2, m2, e2, ng3, B3, m3, e3, ng4, B4, m4, e4, hbW, hva, hvb, ba, bb, br⟩ := hcut
    replace hbW := Shut.mk hbW.out.drew
    replace ba := ba.drew
    replace bb := bb.drew
    replace br := br.drew
    have l0 := ba.c0
    have l1 := ba.c1
    have l2 := ba.c2
    have l3 := ba.c3
    have l4 := bb.c0
    have l5 := bb.c1
    have l6 := bb.c2
    have l7 := bb.c3
    obtain ⟨han, had⟩ := hva.parts
    obtain ⟨hbn, hbd⟩ := hvb.parts
    replace han := han.below (drew_below _)
    replace had := had.below (drew_below _)
    replace hbn := hbn.below (drew_below _)
    replace hbd := hbd.below (drew_below _)
    clear hva hvb
    go_upto_region 2 with fail
    go_region_held3 (fun w' => (w'.cell? ⟨p, 0, none⟩ = some (.bool ng) ∧ w'.cell? ⟨p, 1, none⟩ = some (.slice B1 m1 e1) ∧ w'.cell? ⟨p, 2, none⟩ = some (.bool ng2) ∧ w'.cell? ⟨p, 3, none⟩ = some (.slice B2 m2 e2)) ∧ w'.cell? ⟨q, 0, none⟩ = some (.bool ng3) ∧ w'.cell? ⟨q, 1, none⟩ = some (.slice B3 m3 e3) ∧ w'.cell? ⟨q, 2, none⟩ = some (.bool ng4) ∧ w'.cell? ⟨q, 3, none⟩ = some (.slice B4 m4 e4)) (first | (with_reducible exact ⟨⟨l0, l1, l2, l3⟩, l4, l5, l6, l7⟩) | (with_reducible exact ⟨⟨cell_far4 d5 l0, cell_far4 d5 l1, cell_far4 d5 l2, cell_far4 d5 l3⟩, cell_far4 d6 l4, cell_far4 d6 l5, cell_far4 d6 l6, cell_far4 d6 l7⟩) | go_keep)
      (first
        | (go_at_call 49; (with_reducible refine (Mul_calls (han.bv sq1 hk0) (hbd.bv sq4 hk0)).mono ?_); rintro e w5 ⟨v5, rfl, hm1, hb5⟩; replace hbW := Shut.mk (bthen' hbW.out hbW.out.size hb5); (replace han := han.below hb5; replace had := had.below hb5; replace hbn := hbn.below hb5; replace hbd := hbd.below hb5; (try replace hm2 := hm2.below hb5); replace ba := ba.below hb5; replace bb := bb.below hb5; replace br := br.below hb5; replace l0 := old_cell hb5 l0; replace l1 := old_cell hb5 l1; replace l2 := old_cell hb5 l2; replace l3 := old_cell hb5 l3; replace l4 := old_cell hb5 l4; replace l5 := old_cell hb5 l5; replace l6 := old_cell hb5 l6; replace l7 := old_cell hb5 l7); clear hb5)
        | (go_at_call 49; (with_reducible refine (Mul_calls (had.bv sq2 hk0) (hbn.bv sq3 hk0)).mono ?_); rintro e w5 ⟨v5, rfl, hm2, hb5⟩; replace hbW := Shut.mk (bthen' hbW.out hbW.out.size hb5); (replace han := han.below hb5; replace had := had.below hb5; replace hbn := hbn.below hb5; replace hbd := hbd.below hb5; (try replace hm1 := hm1.below hb5); replace ba := ba.below hb5; replace bb := bb.below hb5; replace br := br.below hb5; replace l0 := old_cell hb5 l0; replace l1 := old_cell hb5 l1; replace l2 := old_cell hb5 l2; replace l3 := old_cell hb5 l3; replace l4 := old_cell hb5 l4; replace l5 := old_cell hb5 l5; replace l6 := old_cell hb5 l6; replace l7 := old_cell hb5 l7); clear hb5)
        | (go_at_call 30; (with_reducible refine (ROf_calls (hm1.bv s1 hkk) (hm2.bv s5 hkk) s1 s5 hkk hkk1).mono ?_); rintro e w5 ⟨v5, rfl, hv5, hb5⟩; rw [fr_quo] at hv5; rw [quo_ok]; (have HL := Shut.mk br.lt; have HS := Shut.mk hbW.out.size; have HB := Shut.mk (bthen' hbW.out hbW.out.size hb5); (replace br := br.below hb5; replace l0 := old_cell hb5 l0; replace l1 := old_cell hb5 l1; replace l2 := old_cell hb5 l2; replace l3 := old_cell hb5 l3; replace l4 := old_cell hb5 l4; replace l5 := old_cell hb5 l5; replace l6 := old_cell hb5 l6; replace l7 := old_cell hb5 l7); have r0 := br.c0; have r1 := br.c1; have r2 := br.c2; have r3 := br.c3; have g0 := br.f0; have g1 := br.f1; have g2 := br.f2; have g3 := br.f3; have HG := Shut.mk br.ge; have HV := Shut.mk hv5; obtain ⟨ng5, B5, m5, e5, ng6, B6, m6, e6, rfl⟩ := hv5.shape; clear hb5)))
    all_goals
      clear l0 l1 l2 l3 l4 l5 l6 l7
      go_wp2_with fail
      refine bodyPost_ret (v := .tuple #[.agg #[.bool ng5, .slice B5 m5 e5, .bool ng6, .slice B6 m6 e6], .bool (decide (qb ≠ 0))]) (by simp [results, Tryz.results10, go_sem, r0, r1, r2, r3]) rfl ?_
      exact ⟨_, rfl, (HV.out.four HL.out _ _ _ _).mono HS.out, below_four HB.out HG.out _ _ _ _⟩

end Go.Proofs.YtjeaakkbkjhldaaGreatDoor

set_option linter.unusedVariables false
set_option linter.unusedSimpArgs false
namespace Go.Proofs.YtjeaakkbkjhldaaGreatDoor
open Go.RowKit

set_option maxHeartbeats 4000000 in
set_option maxRecDepth 100000 in
theorem RCmp_calls {w : World} {v v' : Value} {n d n' d' : Int} {k : Nat} (h : RV w v n d) (h' : RV w v' n' d') (sx : Sm k n) (sy : Sm k d) (sx' : Sm k n') (sy' : Sm k d') (hk : k + k + 1 ≤ 137438953472) (hk1 : 1 ≤ k) :
    Calls Tryz.prog 25 #[v, v'] w (fun e w' => e = .returned (.int .i64 (cmpR (fr n d) (fr n' d'))) ∧ Below w.heap.size w w') := by
  have hlow : ∀ W, RV W v n d → Calls Tryz.prog 48 #[v] W (RatRes W (fr n d)) := fun W h => low_calls h sx sy (by omega) hk1
  have hlow' : ∀ W, RV W v' n' d' → Calls Tryz.prog 48 #[v'] W (RatRes W (fr n' d')) := fun W h => low_calls h sx' sy' (by omega) hk1
  obtain ⟨neg, A1, n1, c1, neg2, A2, n2, c2, rfl⟩ := h.shape
  obtain ⟨neg3, A3, n3, c3, neg4, A4, n4, c4, rfl⟩ := h'.shape
  obtain ⟨hbW, ba, bb⟩ := boxQ_facts w 26 26 (.bool neg) (.slice A1 n1 c1) (.bool neg2) (.slice A2 n2 c2) (.bool neg3) (.slice A3 n3 c3) (.bool neg4) (.slice A4 n4 c4)
  replace h := (h.below hbW).drew
  replace h' := (h'.below hbW).drew
  have sq := SmR.fr sx sy hk1
  have sq' := SmR.fr sx' sy' hk1
  generalize fr n d = qa at *
  generalize fr n' d' = qb at *
  have hk0 : k ≤ 137438953472 := by omega
  have hkk : k + k ≤ 137438953472 := by omega
  have hkk1 : 1 ≤ k + k := by omega
  obtain ⟨s1, s2, s3, s4, s5⟩ := sq.nums sq'
  have sq1 := sq.1
  have sq2 := sq.2
  have sq3 := sq'.1
  have sq4 := sq'.2
  go_enter Tryz.func25, Tryz.ntmps25
  go_upto_region 1 with fail
  change Code.wp _ _ _ _ (boxQ w 26 26 (.bool neg) (.slice A1 n1 c1) (.bool neg2) (.slice A2 n2 c2) (.bool neg3) (.slice A3 n3 c3) (.bool neg4) (.slice A4 n4 c4))
  generalize boxQ w 26 26 (.bool neg) (.slice A1 n1 c1) (.bool neg2) (.slice A2 n2 c2) (.bool neg3) (.slice A3 n3 c3) (.bool neg4) (.slice A4 n4 c4) = W at *
  have o1 : w.heap.size < w.heap.size + 1 := by omega
  have o2 : w.heap.size + 1 < w.heap.size + 1 + 1 := by omega
  obtain ⟨hi, hhi0, o5⟩ : ∃ hi, w.heap.size + 1 + 1 = hi ∧ hi ≤ w.heap.size + 1 + 1 := ⟨_, rfl, Nat.le_refl _⟩
  rw [hhi0] at o2
  clear hhi0
  generalize w.heap.size + 1 = q at *
  generalize hp : w.heap.size = p at ba o1 ⊢
  clear hp
  have d1 : ¬ p = q := by omega
  have d2 : ¬ q = p := by omega
  have hph : p < hi := by omega
  have hqh : q < hi := by omega
  have hwh : Shut (w.heap.size ≤ hi) := ⟨by have := ba.ge; omega⟩
  go_cut [] (fun wc => ∃ (ng : Bool) (B1 : Option Addr) (m1 e1 : Nat) (ng2 : Bool) (B2 : Option Addr) (m2 e2 : Nat) (ng3 : Bool) (B3 : Option Addr) (m3 e3 : Nat) (ng4 : Bool) (B4 : Option Addr) (m4 e4 : Nat), Shut (Below w.heap.size w wc) ∧ NRV hi wc (.agg #[.bool ng, .slice B1 m1 e1, .bool ng2, .slice B2 m2 e2]) qa ∧ NRV hi wc (.agg #[.bool ng3, .slice B3 m3 e3, .bool ng4, .slice B4 m4 e4]) qb ∧ Box4 w wc p (.bool ng) (.slice B1 m1 e1) (.bool ng2) (.slice B2 m2 e2) ∧ Box4 w wc q (.bool ng3) (.slice B3 m3 e3) (.bool ng4) (.slice B4 m4 e4))
  case first =>
    replace hbW := Shut.mk hbW.drew
    have l0 := ba.c0
    have l1 := ba.c1
    have l2 := ba.c2
    have l3 := ba.c3
    have f0 := ba.f0
    have f1 := ba.f1
    have f2 := ba.f2
    have f3 := ba.f3
    have l4 := bb.c0
    have l5 := bb.c1
    have l6 := bb.c2
    have l7 := bb.c3
    have f4 := bb.f0
    have f5 := bb.f1
    have f6 := bb.f2
    have f7 := bb.f3
    replace ba := ba.drew
    replace bb := bb.drew

    go_region_with (first
      | (go_at_call 48; (with_reducible refine (hlow _ h).mono ?_); rintro e w5 ⟨v5, rfl, hva, hb5⟩; replace hva := hva.mono (show hi ≤ _ by have := bb.lt; omega); replace hbW := Shut.mk (bthen' hbW.out hbW.out.size hb5); obtain ⟨ng, B1, m1, e1, ng2, B2, m2, e2, rfl⟩ := hva.shape; clear h; ((try replace h' := h'.below hb5); replace ba := ba.below hb5; replace bb := bb.below hb5); (try replace hvb := hvb.below hb5); clear hb5; replace l0 := ba.c0; replace l1 := ba.c1; replace l2 := ba.c2; replace l3 := ba.c3; replace f0 := ba.f0; replace f1 := ba.f1; replace f2 := ba.f2; replace f3 := ba.f3; replace l4 := bb.c0; replace l5 := bb.c1; replace l6 := bb.c2; replace l7 := bb.c3; replace f4 := bb.f0; replace f5 := bb.f1; replace f6 := bb.f2; replace f7 := bb.f3)
      | (go_at_call 48; (with_reducible refine (hlow' _ h').mono ?_); rintro e w5 ⟨v5, rfl, hvb, hb5⟩; replace hvb := hvb.mono (show hi ≤ _ by have := bb.lt; omega); replace hbW := Shut.mk (bthen' hbW.out hbW.out.size hb5); obtain ⟨ng3, B3, m3, e3, ng4, B4, m4, e4, rfl⟩ := hvb.shape; clear h'; ((try replace h := h.below hb5); replace ba := ba.below hb5; replace bb := bb.below hb5); (try replace hva := hva.below hb5); clear hb5; replace l0 := ba.c0; replace l1 := ba.c1; replace l2 := ba.c2; replace l3 := ba.c3; replace f0 := ba.f0; replace f1 := ba.f1; replace f2 := ba.f2; replace f3 := ba.f3; replace l4 := bb.c0; replace l5 := bb.c1; replace l6 := bb.c2; replace l7 := bb.c3; replace f4 := bb.f0; replace f5 := bb.f1; replace f6 := bb.f2; replace f7 := bb.f3))
    all_goals
      clear l0 l1 l2 l3 l4 l5 l6 l7 f0 f1 f2 f3 f4 f5 f6 f7
      go_wp2_with fail
      go_meet
      case rel => exact ⟨_, _, _, _, _, _, _, _, _, _, _, _, _, _, _, _, ⟨below_four (below_four hbW.out ba.ge _ _ _ _) bb.ge _ _ _ _⟩, (hva.four hph _ _ _ _).four hqh _ _ _ _, (hvb.four hph _ _ _ _).four hqh _ _ _ _, (ba.put _ _ _ _).four d1 _ _ _ _, (bb.four d2 _ _ _ _).put _ _ _ _⟩
  case rest =>
    clear h h' ba bb hbW hlow hlow'
    obtain ⟨ng, B1, m1, e1, ng2, B2, m2, e2, ng3, B3, m3, e3, ng4, B4, m4, e4, hbW, hva, hvb, ba, bb⟩ := hcut
    replace hbW := Shut.mk hbW.out.drew
    replace ba := ba.drew
    replace bb := bb.drew

    have l0 := ba.c0
    have l1 := ba.c1
    have l2 := ba.c2
    have l3 := ba.c3
    have l4 := bb.c0
    have l5 := bb.c1
    have l6 := bb.c2
    have l7 := bb.c3
    obtain ⟨han, had⟩ := hva.parts
    obtain ⟨hbn, hbd⟩ := hvb.parts
    replace han := han.below (drew_below _)
    replace had := had.below (drew_below _)
    replace hbn := hbn.below (drew_below _)
    replace hbd := hbd.below (drew_below _)
    clear hva hvb
    go_upto_region 2 with fail
    go_region_held3 (fun w' => (w'.cell? ⟨p, 0, none⟩ = some (.bool ng) ∧ w'.cell? ⟨p, 1, none⟩ = some (.slice B1 m1 e1) ∧ w'.cell? ⟨p, 2, none⟩ = some (.bool ng2) ∧ w'.cell? ⟨p, 3, none⟩ = some (.slice B2 m2 e2)) ∧ w'.cell? ⟨q, 0, none⟩ = some (.bool ng3) ∧ w'.cell? ⟨q, 1, none⟩ = some (.slice B3 m3 e3) ∧ w'.cell? ⟨q, 2, none⟩ = some (.bool ng4) ∧ w'.cell? ⟨q, 3, none⟩ = some (.slice B4 m4 e4)) (first | (with_reducible exact ⟨⟨l0, l1, l2, l3⟩, l4, l5, l6, l7⟩) | go_keep)
      (first
        | (go_at_call 49; (with_reducible refine (Mul_calls (han.bv sq1 hk0) (hbd.bv sq4 hk0)).mono ?_); rintro e w5 ⟨v5, rfl, hm1, hb5⟩; replace hbW := Shut.mk (bthen' hbW.out hbW.out.size hb5); (replace han := han.below hb5; replace had := had.below hb5; replace hbn := hbn.below hb5; replace hbd := hbd.below hb5; (try replace hm2 := hm2.below hb5); replace ba := ba.below hb5; replace bb := bb.below hb5; replace l0 := old_cell hb5 l0; replace l1 := old_cell hb5 l1; replace l2 := old_cell hb5 l2; replace l3 := old_cell hb5 l3; replace l4 := old_cell hb5 l4; replace l5 := old_cell hb5 l5; replace l6 := old_cell hb5 l6; replace l7 := old_cell hb5 l7); clear hb5)
        | (go_at_call 49; (with_reducible refine (Mul_calls (hbn.bv sq3 hk0) (had.bv sq2 hk0)).mono ?_); rintro e w5 ⟨v5, rfl, hm2, hb5⟩; replace hbW := Shut.mk (bthen' hbW.out hbW.out.size hb5); (replace han := han.below hb5; replace had := had.below hb5; replace hbn := hbn.below hb5; replace hbd := hbd.below hb5; (try replace hm1 := hm1.below hb5); replace ba := ba.below hb5; replace bb := bb.below hb5; replace l0 := old_cell hb5 l0; replace l1 := old_cell hb5 l1; replace l2 := old_cell hb5 l2; replace l3 := old_cell hb5 l3; replace l4 := old_cell hb5 l4; replace l5 := old_cell hb5 l5; replace l6 := old_cell hb5 l6; replace l7 := old_cell hb5 l7); clear hb5)
        | (go_at_call 51; (with_reducible refine (Cmp_calls (hm1.bv s1 hkk) (hm2.bv s2 hkk)).mono ?_); rintro e w5 ⟨rfl, hb5⟩; rw [cmp_cross]; have HB := Shut.mk (bthen' hbW.out hbW.out.size hb5); (replace ba := ba.below hb5; replace l0 := old_cell hb5 l0; replace l1 := old_cell hb5 l1; replace l2 := old_cell hb5 l2; replace l3 := old_cell hb5 l3; replace l4 := old_cell hb5 l4; replace l5 := old_cell hb5 l5; replace l6 := old_cell hb5 l6; replace l7 := old_cell hb5 l7); clear hb5))
    all_goals
      clear l0 l1 l2 l3 l4 l5 l6 l7
      go_wp2_with fail
      go_ret
      exact ⟨rfl, HB.out⟩

end Go.Proofs.YtjeaakkbkjhldaaGreatDoor

set_option linter.unusedVariables false
set_option linter.unusedSimpArgs false
namespace Go.Proofs.YtjeaakkbkjhldaaGreatDoor
open Go.RowKit

set_option maxHeartbeats 4000000 in
set_option maxRecDepth 100000 in
theorem RSub_calls {w : World} {v v' : Value} {n d n' d' : Int} {k : Nat} (h : RV w v n d) (h' : RV w v' n' d') (sx : Sm k n) (sy : Sm k d) (sx' : Sm k n') (sy' : Sm k d') (hk : k + k + 1 ≤ 137438953472) (hk1 : 1 ≤ k) :
    Calls Tryz.prog 19 #[v, v'] w (RatRes w (fr n d - fr n' d')) := by
  obtain ⟨neg, A1, n1, c1, neg2, A2, n2, c2, rfl⟩ := h.shape
  obtain ⟨neg3, A3, n3, c3, neg4, A4, n4, c4, rfl⟩ := h'.shape
  obtain ⟨hbW, ba, bb, br⟩ := boxQ3_facts w 26 26 26 (.bool neg) (.slice A1 n1 c1) (.bool neg2) (.slice A2 n2 c2) (.bool neg3) (.slice A3 n3 c3) (.bool neg4) (.slice A4 n4 c4) (.bool false) (.slice none 0 0) (.bool false) (.slice none 0 0)
  replace h := (h.below hbW).drew
  replace h' := (h'.below hbW).drew
  have hk0 : k ≤ 137438953472 := by omega
  have sq' := (SmR.fr sx' sy' hk1).neg
  have sq1 := sq'.1
  have sq2 := sq'.2
  have HF : Shut (fr n d + fr (-fr n' d').num (-fr n' d').den = fr n d - fr n' d') := ⟨by rw [fr_self, Rat.sub_eq_add_neg]⟩
  go_enter Tryz.func19, Tryz.ntmps19
  go_upto_region 1 with fail
  change Code.wp _ _ _ _ (boxQ3 w 26 26 26 (.bool neg) (.slice A1 n1 c1) (.bool neg2) (.slice A2 n2 c2) (.bool neg3) (.slice A3 n3 c3) (.bool neg4) (.slice A4 n4 c4) (.bool false) (.slice none 0 0) (.bool false) (.slice none 0 0))
  generalize boxQ3 w 26 26 26 (.bool neg) (.slice A1 n1 c1) (.bool neg2) (.slice A2 n2 c2) (.bool neg3) (.slice A3 n3 c3) (.bool neg4) (.slice A4 n4 c4) (.bool false) (.slice none 0 0) (.bool false) (.slice none 0 0) = W at *
  have d5 : ¬ w.heap.size = w.heap.size + 1 + 1 := by omega
  have d6 : ¬ w.heap.size + 1 = w.heap.size + 1 + 1 := by omega
  generalize w.heap.size + 1 + 1 = r at *
  generalize w.heap.size + 1 = q at *
  generalize hp : w.heap.size = p at ba d5 ⊢
  clear hp
  replace hbW := Shut.mk hbW.drew
  replace ba := ba.drew
  replace bb := bb.drew
  replace br := br.drew
  have l0 := ba.c0
  have l1 := ba.c1
  have l2 := ba.c2
  have l3 := ba.c3
  have l4 := bb.c0
  have l5 := bb.c1
  have l6 := bb.c2
  have l7 := bb.c3
  go_region_held3 (fun w' => (w'.cell? ⟨p, 0, none⟩ = some (.bool neg) ∧ w'.cell? ⟨p, 1, none⟩ = some (.slice A1 n1 c1) ∧ w'.cell? ⟨p, 2, none⟩ = some (.bool neg2) ∧ w'.cell? ⟨p, 3, none⟩ = some (.slice A2 n2 c2)) ∧ w'.cell? ⟨q, 0, none⟩ = some (.bool neg3) ∧ w'.cell? ⟨q, 1, none⟩ = some (.slice A3 n3 c3) ∧ w'.cell? ⟨q, 2, none⟩ = some (.bool neg4) ∧ w'.cell? ⟨q, 3, none⟩ = some (.slice A4 n4 c4)) (first | (with_reducible exact ⟨⟨l0, l1, l2, l3⟩, l4, l5, l6, l7⟩) | (with_reducible exact ⟨⟨cell_far4 d5 l0, cell_far4 d5 l1, cell_far4 d5 l2, cell_far4 d5 l3⟩, cell_far4 d6 l4, cell_far4 d6 l5, cell_far4 d6 l6, cell_far4 d6 l7⟩) | go_keep)
    (first
      | (go_at_call 23; (with_reducible refine (RNeg_calls h' sx' sy' hk0 hk1).mono ?_); rintro e w5 ⟨v4, rfl, hv4, hb5⟩; replace hbW := Shut.mk (bthen' hbW.out hbW.out.size hb5); (replace h := h.below hb5; replace ba := ba.below hb5; replace bb := bb.below hb5; replace br := br.below hb5; replace l0 := old_cell hb5 l0; replace l1 := old_cell hb5 l1; replace l2 := old_cell hb5 l2; replace l3 := old_cell hb5 l3; replace l4 := old_cell hb5 l4; replace l5 := old_cell hb5 l5; replace l6 := old_cell hb5 l6; replace l7 := old_cell hb5 l7); clear hb5 h')
      | (go_at_call 17; (with_reducible refine (RAdd_calls h (hv4.rv sq' hk0) sx sy sq1 sq2 hk hk1).mono ?_); rintro e w5 ⟨v5, rfl, hv5, hb5⟩; rw [HF.out] at hv5; have HL := Shut.mk br.lt; have HS := Shut.mk hbW.out.size; have HB := Shut.mk (bthen' hbW.out hbW.out.size hb5); (replace br := br.below hb5; replace l0 := old_cell hb5 l0; replace l1 := old_cell hb5 l1; replace l2 := old_cell hb5 l2; replace l3 := old_cell hb5 l3; replace l4 := old_cell hb5 l4; replace l5 := old_cell hb5 l5; replace l6 := old_cell hb5 l6; replace l7 := old_cell hb5 l7); have r0 := br.c0; have r1 := br.c1; have r2 := br.c2; have r3 := br.c3; have g0 := br.f0; have g1 := br.f1; have g2 := br.f2; have g3 := br.f3; have HG := Shut.mk br.ge; have HV := Shut.mk hv5; obtain ⟨ng5, B5, m5, e5, ng6, B6, m6, e6, rfl⟩ := hv5.shape; clear hb5))
  all_goals
    clear l0 l1 l2 l3 l4 l5 l6 l7
    go_wp2_with fail
    refine bodyPost_ret (v := .agg #[.bool ng5, .slice B5 m5 e5, .bool ng6, .slice B6 m6 e6]) (by simp [results, Tryz.results19, go_sem, r0, r1, r2, r3]) rfl ?_
    exact ⟨_, rfl, (HV.out.four HL.out _ _ _ _).mono HS.out, below_four HB.out HG.out _ _ _ _⟩

end Go.Proofs.YtjeaakkbkjhldaaGreatDoor
