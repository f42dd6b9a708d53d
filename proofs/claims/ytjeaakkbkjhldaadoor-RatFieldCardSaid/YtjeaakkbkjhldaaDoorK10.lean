import Derived.Test.YtjeaakkbkjhldaaDoorK9
set_option linter.unusedVariables false
set_option linter.unusedSimpArgs false
namespace Go.Proofs.YtjeaakkbkjhldaaDoor
open Go.RowKit

set_option maxHeartbeats 40000000 in
set_option maxRecDepth 100000 in
theorem field_law {w : World} {a1 a2 b1 b2 e1 e2 : Bool} {Aa Aa2 Ab Ab2 Ae Ae2 : Option Addr} {la ca la2 ca2 lb cb lb2 cb2 le ce le2 ce2 : Nat}
    (ha : RawB w Aa la ca) (ha2 : RawB w Aa2 la2 ca2) (hb : RawB w Ab lb cb) (hb2 : RawB w Ab2 lb2 cb2) (he : RawB w Ae le ce) (he2 : RawB w Ae2 le2 ce2) :
    Calls Tryd.prog 3 #[.agg #[.bool a1, .slice Aa la ca, .bool a2, .slice Aa2 la2 ca2], .agg #[.bool b1, .slice Ab lb cb, .bool b2, .slice Ab2 lb2 cb2], .agg #[.bool e1, .slice Ae le ce, .bool e2, .slice Ae2 le2 ce2]] w
      fun en w' => en = .returned (.bool true) ∧ Below w.heap.size w w' := by
  obtain ⟨qa, hqa⟩ := ha.hv ha2 a1 a2 3 (by omega)
  obtain ⟨qb, hqb⟩ := hb.hv hb2 b1 b2 3 (by omega)
  obtain ⟨qc, hqc⟩ := he.hv he2 e1 e2 3 (by omega)
  have hcutA := fun (w : World) (hca : la ≤ ca) (hcb : ca ≤ 9223372036854775807) (hA : 0 < la → Aa ≠ none) (hca2 : la2 ≤ ca2) (hcb2 : ca2 ≤ 9223372036854775807) (hA2 : 0 < la2 → Aa2 ≠ none) => Cut2_calls (w := w) (neg := a1) (neg2 := a2) hca hcb hA hca2 hcb2 hA2 (m := 3) (by omega)
  have hcutB := fun (w : World) (hca : lb ≤ cb) (hcb : cb ≤ 9223372036854775807) (hA : 0 < lb → Ab ≠ none) (hca2 : lb2 ≤ cb2) (hcb2 : cb2 ≤ 9223372036854775807) (hA2 : 0 < lb2 → Ab2 ≠ none) => Cut2_calls (w := w) (neg := b1) (neg2 := b2) hca hcb hA hca2 hcb2 hA2 (m := 3) (by omega)
  have hcutE := fun (w : World) (hca : le ≤ ce) (hcb : ce ≤ 9223372036854775807) (hA : 0 < le → Ae ≠ none) (hca2 : le2 ≤ ce2) (hcb2 : ce2 ≤ 9223372036854775807) (hA2 : 0 < le2 → Ae2 ≠ none) => Cut2_calls (w := w) (neg := e1) (neg2 := e2) hca hcb hA hca2 hcb2 hA2 (m := 3) (by omega)
  have hA := fun w => hcutA w ha.choose_spec.1.cap ha.choose_spec.1.big ha.some ha2.choose_spec.1.cap ha2.choose_spec.1.big ha2.some
  have hB := fun w => hcutB w hb.choose_spec.1.cap hb.choose_spec.1.big hb.some hb2.choose_spec.1.cap hb2.choose_spec.1.big hb2.some
  have hE := fun w => hcutE w he.choose_spec.1.cap he.choose_spec.1.big he.some he2.choose_spec.1.cap he2.choose_spec.1.big he2.some
  have h3i : ((3 : Nat) : Int) = 3 := rfl
  rw [h3i] at hA hB hE
  clear h3i hcutA hcutB hcutE ha ha2 hb hb2 he he2
  generalize min la 3 = ma at *
  generalize min la2 3 = ma2 at *
  generalize min lb 3 = mb at *
  generalize min lb2 3 = mb2 at *
  generalize min le 3 = me at *
  generalize min le2 3 = me2 at *
  have k1 : (96 : Nat) + 96 + 1 ≤ 137438953472 := by omega
  have HQ := Shut.mk (And.intro hqa (And.intro hqb hqc))
  clear hqa hqb hqc
  obtain ⟨hbW, ba, bb, be⟩ := boxQ3_facts w 26 26 26 (.bool a1) (.slice Aa la ca) (.bool a2) (.slice Aa2 la2 ca2) (.bool b1) (.slice Ab lb cb) (.bool b2) (.slice Ab2 lb2 cb2) (.bool e1) (.slice Ae le ce) (.bool e2) (.slice Ae2 le2 ce2)
  go_enter Tryd.func3, Tryd.ntmps3
  go_wp2_with fail
  change Calls _ _ _ (boxQ3 w 26 26 26 (.bool a1) (.slice Aa la ca) (.bool a2) (.slice Aa2 la2 ca2) (.bool b1) (.slice Ab lb cb) (.bool b2) (.slice Ab2 lb2 cb2) (.bool e1) (.slice Ae le ce) (.bool e2) (.slice Ae2 le2 ce2)) _
  generalize boxQ3 w 26 26 26 (.bool a1) (.slice Aa la ca) (.bool a2) (.slice Aa2 la2 ca2) (.bool b1) (.slice Ab lb cb) (.bool b2) (.slice Ab2 lb2 cb2) (.bool e1) (.slice Ae le ce) (.bool e2) (.slice Ae2 le2 ce2) = W at *
  have d1 : ¬ w.heap.size = w.heap.size + 1 := by omega
  have d2 : ¬ w.heap.size = w.heap.size + 1 + 1 := by omega
  have d3 : ¬ w.heap.size + 1 = w.heap.size + 1 + 1 := by omega
  have d1' : ¬ w.heap.size + 1 = w.heap.size := by omega
  have d2' : ¬ w.heap.size + 1 + 1 = w.heap.size := by omega
  have d3' : ¬ w.heap.size + 1 + 1 = w.heap.size + 1 := by omega
  generalize w.heap.size + 1 + 1 = p3 at *
  generalize w.heap.size + 1 = p2 at *
  generalize hp : w.heap.size = p1 at ba d1 d2 d1' d2' ⊢
  clear hp
  refine begun_calls.mono ?_
  rintro en w1 ⟨rfl, hb1⟩
  replace hbW := bthen hbW hb1
  (replace ba := ba.below hb1; replace bb := bb.below hb1; replace be := be.below hb1)
  clear hb1
  go_upto_region 2 with fail
  go_cut [] (fun wc => Shut (Below w.heap.size w wc) ∧ Box4 w wc p1 (.bool a1) (.slice Aa ma ca) (.bool a2) (.slice Aa2 ma2 ca2) ∧ Box4 w wc p2 (.bool b1) (.slice Ab mb cb) (.bool b2) (.slice Ab2 mb2 cb2) ∧ Box4 w wc p3 (.bool e1) (.slice Ae me ce) (.bool e2) (.slice Ae2 me2 ce2))
  case first =>
    replace ba := ba.drew
    replace bb := bb.drew
    replace be := be.drew
    replace hbW := Shut.mk hbW.drew
    have l0 := ba.c0
    have l1 := ba.c1
    have l2 := ba.c2
    have l3 := ba.c3
    have m0 := bb.c0
    have m1 := bb.c1
    have m2 := bb.c2
    have m3 := bb.c3
    have n0 := be.c0
    have n1 := be.c1
    have n2 := be.c2
    have n3 := be.c3
    go_region_with (first
      | (go_at_call 5; (with_reducible first | (refine (hA _).mono ?_) | (refine (hB _).mono ?_)); rintro e w5 ⟨rfl, hb5⟩; replace hbW := Shut.mk (bthen' hbW.out hbW.out.size hb5); (replace ba := ba.below hb5; replace bb := bb.below hb5; replace be := be.below hb5; replace l0 := old_cell hb5 l0; replace l1 := old_cell hb5 l1; replace l2 := old_cell hb5 l2; replace l3 := old_cell hb5 l3; replace m0 := old_cell hb5 m0; replace m1 := old_cell hb5 m1; replace m2 := old_cell hb5 m2; replace m3 := old_cell hb5 m3; replace n0 := old_cell hb5 n0; replace n1 := old_cell hb5 n1; replace n2 := old_cell hb5 n2; replace n3 := old_cell hb5 n3); clear hb5)
      | (go_at_call 5; (with_reducible refine (hE _).mono ?_); rintro e w5 ⟨rfl, hb5⟩; replace hbW := Shut.mk (bthen' hbW.out hbW.out.size hb5); (replace ba := ba.below hb5; replace bb := bb.below hb5; replace be := be.below hb5); clear hb5; replace l0 := ba.c0; replace l1 := ba.c1; replace l2 := ba.c2; replace l3 := ba.c3; replace m0 := bb.c0; replace m1 := bb.c1; replace m2 := bb.c2; replace m3 := bb.c3; replace n0 := be.c0; replace n1 := be.c1; replace n2 := be.c2; replace n3 := be.c3; have f0 := ba.f0; have f1 := ba.f1; have f2 := ba.f2; have f3 := ba.f3; have g0 := bb.f0; have g1 := bb.f1; have g2 := bb.f2; have g3 := bb.f3; have h0 := be.f0; have h1 := be.f1; have h2 := be.f2; have h3 := be.f3))
    all_goals
      clear l0 l1 l2 l3 m0 m1 m2 m3 n0 n1 n2 n3 f0 f1 f2 f3 g0 g1 g2 g3 h0 h1 h2 h3
      go_wp2_with fail
      go_meet
      case rel => exact ⟨⟨below_four (below_four (below_four hbW.out ba.ge _ _ _ _) bb.ge _ _ _ _) be.ge _ _ _ _⟩, ((ba.put _ _ _ _).four d1 _ _ _ _).four d2 _ _ _ _, ((bb.four d1' _ _ _ _).put _ _ _ _).four d3 _ _ _ _, ((be.four d2' _ _ _ _).four d3' _ _ _ _).put _ _ _ _⟩
  case rest =>
    clear ba bb be hbW hA hB hE d1 d2 d3 d1' d2' d3'
    obtain ⟨HB, ba, bb, be⟩ := hcut
    have fa := ba.fb (HQ.out.1.below HB.out)
    have fb := bb.fb (HQ.out.2.1.below HB.out)
    have fe := be.fb (HQ.out.2.2.below HB.out)
    clear ba bb be HQ
    have s0a := fa.hv.sm (by omega)
    have s0b := fb.hv.sm (by omega)
    have s0e := fe.hv.sm (by omega)
    have s1 : SmR 193 (qb + qc) := s0b.add s0e (by omega)
    have s2 : SmR 387 (qa * (qb + qc)) := ((s0a.mono (by omega : 96 ≤ 193)).mul s1 (by omega)).mono (by omega)
    have s3 : SmR 193 (qa * qb) := (s0a.mul s0b (by omega)).mono (by omega)
    have s4 : SmR 193 (qa * qc) := (s0a.mul s0e (by omega)).mono (by omega)
    have s5 : SmR 387 (qa * qb + qa * qc) := s3.add s4 (by omega)
    have s6 : SmR 193 (qb / qa) := (s0b.quo s0a (by omega)).mono (by omega)
    have s7 : SmR 387 (qb / qa * qa) := (s6.mul (s0a.mono (by omega : 96 ≤ 193)) (by omega)).mono (by omega)
    have s8 : SmR 193 (qa - qa) := by rw [Rat.sub_eq_add_neg]; exact s0a.add s0a.neg (by omega)
    have s9 : SmR 193 (qb - qb) := by rw [Rat.sub_eq_add_neg]; exact s0b.add s0b.neg (by omega)
    have hK1 : (193 : Nat) ≤ 137438953472 := by omega
    have hK2 : (387 : Nat) ≤ 137438953472 := by omega
    have k96 : (96 : Nat) ≤ 193 := by omega
    have k96b : (96 : Nat) ≤ 387 := by omega
    have hadd := fun (W : World) (v v' : Value) (h : HV 96 W v qb) (h' : HV 96 W v' qc) => Add_q h h' (by omega) (by omega)
    have hmul := fun (W : World) (v v' : Value) (h : HV 193 W v qa) (h' : HV 193 W v' (qb + qc)) => Mul_q h h' (by omega) (by omega)
    have hmab := fun (W : World) (v v' : Value) (h : HV 96 W v qa) (h' : HV 96 W v' qb) => Mul_q h h' (by omega) (by omega)
    have hmae := fun (W : World) (v v' : Value) (h : HV 96 W v qa) (h' : HV 96 W v' qc) => Mul_q h h' (by omega) (by omega)
    have hadd2 := fun (W : World) (v v' : Value) (h : HV 193 W v (qa * qb)) (h' : HV 193 W v' (qa * qc)) => Add_q h h' (by omega) (by omega)
    have hquo := fun (W : World) (v v' : Value) (h : HV 96 W v qb) (h' : HV 96 W v' qa) => Quo_q h h' (by omega) (by omega)
    have hmq := fun (W : World) (v v' : Value) (h : HV 193 W v (qb / qa)) (h' : HV 193 W v' qa) => Mul_q h h' (by omega) (by omega)
    have hcq0 := fun (W : World) (v v' : Value) (h : HV 387 W v (qb / qa * qa)) (h' : HV 387 W v' qb) => Cmp_q h h' (by omega) (by omega)
    have hcxy0 := fun (W : World) (v v' : Value) (h : HV 387 W v (qa * (qb + qc))) (h' : HV 387 W v' (qa * qb + qa * qc)) => Cmp_q h h' (by omega) (by omega)
    have hsa := fun (W : World) (v v' : Value) (h : HV 96 W v qa) (h' : HV 96 W v' qa) => Sub_q h h' (by omega) (by omega)
    have hsb := fun (W : World) (v v' : Value) (h : HV 96 W v qb) (h' : HV 96 W v' qb) => Sub_q h h' (by omega) (by omega)
    have hcs0 := fun (W : World) (v v' : Value) (h : HV 193 W v (qa - qa)) (h' : HV 193 W v' (qb - qb)) => Cmp_q h h' (by omega) (by omega)
    have hcab := fun (W : World) (v v' : Value) (h : HV 96 W v qa) (h' : HV 96 W v' qb) => Cmp_q h h' (by omega) (by omega)
    have hcba := fun (W : World) (v v' : Value) (h : HV 96 W v qb) (h' : HV 96 W v' qa) => Cmp_q h h' (by omega) (by omega)
    have hcq : qa ≠ 0 → ∀ (W : World) (v v' : Value), HV 387 W v (qb / qa * qa) → HV 387 W v' qb → Calls Tryd.prog 9 #[v, v'] W (fun e w' => e = .returned (.int .i64 0) ∧ Below W.heap.size W w') := by
      intro h0 W v v' h1 h2
      have h3 := hcq0 W v v' h1 h2
      rw [Rat.div_mul_cancel h0, cmpR_self] at h3
      exact h3
    have hcxy : ∀ (W : World) (v v' : Value), HV 387 W v (qa * (qb + qc)) → HV 387 W v' (qa * qb + qa * qc) → Calls Tryd.prog 9 #[v, v'] W (fun e w' => e = .returned (.int .i64 0) ∧ Below W.heap.size W w') := by
      intro W v v' h1 h2
      have h3 := hcxy0 W v v' h1 h2
      rw [Rat.mul_add, cmpR_self] at h3
      exact h3
    have hcs : ∀ (W : World) (v v' : Value), HV 193 W v (qa - qa) → HV 193 W v' (qb - qb) → Calls Tryd.prog 9 #[v, v'] W (fun e w' => e = .returned (.int .i64 0) ∧ Below W.heap.size W w') := by
      intro W v v' h1 h2
      have h3 := hcs0 W v v' h1 h2
      rw [Rat.sub_self, Rat.sub_self, cmpR_self] at h3
      exact h3
    have hsw := cmpR_swap qa qb
    clear hcq0 hcxy0 hcs0
    unfold RQuoRes at hquo
    generalize hd0 : decide (qa ≠ 0) = nz at *
    have HNZ : Shut ((nz = true → qa ≠ 0)) := ⟨by rw [← hd0]; simp⟩
    clear hd0
    generalize qb / qa * qa = Q7 at *
    generalize qb / qa = Q6 at *
    generalize qa * (qb + qc) = Q2 at *
    generalize qb + qc = Q1 at *
    generalize qa * qb + qa * qc = Q5 at *
    generalize qa * qb = Q3 at *
    generalize qa * qc = Q4 at *
    generalize qa - qa = Q8 at *
    generalize qb - qb = Q9 at *
    generalize cmpR qa qb = C1 at *
    generalize cmpR qb qa = C2 at *
    go_upto_region 3 with fail
    go_cut [8] (fun s8 wd => ∃ (q1 : Nat) (x1 : Bool) (X1 : Option Addr) (y1 z1 : Nat) (x2 : Bool) (X2 : Option Addr) (y2 z2 : Nat), s8 = .pointer (some ⟨q1, 0, none⟩) ∧ Shut (Below w.heap.size w wd) ∧ Fb 96 wd p1 a1 Aa ma ca a2 Aa2 ma2 ca2 qa ∧ Fb 96 wd p2 b1 Ab mb cb b2 Ab2 mb2 cb2 qb ∧ Fb 96 wd p3 e1 Ae me ce e2 Ae2 me2 ce2 qc ∧ Fb 387 wd q1 x1 X1 y1 z1 x2 X2 y2 z2 Q2)
    case first =>
      have hbR : Below wc.heap.size wc wc.drew := drew_below wc
      have fa_0 := fa.c0
      have fa_1 := fa.c1'
      have fa_2 := fa.c2'
      have fa_3 := fa.c3
      have fb_0 := fb.c0
      have fb_1 := fb.c1'
      have fb_2 := fb.c2'
      have fb_3 := fb.c3
      have fe_0 := fe.c0
      have fe_1 := fe.c1'
      have fe_2 := fe.c2'
      have fe_3 := fe.c3
      go_region_held3 (fun w' => (w'.cell? ⟨p1, 0, none⟩ = some (.bool a1) ∧ w'.cell? ⟨p1, 1, none⟩ = some (.slice Aa ma ca) ∧ w'.cell? ⟨p1, 2, none⟩ = some (.bool a2) ∧ w'.cell? ⟨p1, 3, none⟩ = some (.slice Aa2 ma2 ca2)) ∧ (w'.cell? ⟨p2, 0, none⟩ = some (.bool b1) ∧ w'.cell? ⟨p2, 1, none⟩ = some (.slice Ab mb cb) ∧ w'.cell? ⟨p2, 2, none⟩ = some (.bool b2) ∧ w'.cell? ⟨p2, 3, none⟩ = some (.slice Ab2 mb2 cb2)) ∧ (w'.cell? ⟨p3, 0, none⟩ = some (.bool e1) ∧ w'.cell? ⟨p3, 1, none⟩ = some (.slice Ae me ce) ∧ w'.cell? ⟨p3, 2, none⟩ = some (.bool e2) ∧ w'.cell? ⟨p3, 3, none⟩ = some (.slice Ae2 me2 ce2))) (first | (with_reducible exact ⟨⟨old_cell hbR fa_0, old_cell hbR fa_1, old_cell hbR fa_2, old_cell hbR fa_3⟩, ⟨old_cell hbR fb_0, old_cell hbR fb_1, old_cell hbR fb_2, old_cell hbR fb_3⟩, ⟨old_cell hbR fe_0, old_cell hbR fe_1, old_cell hbR fe_2, old_cell hbR fe_3⟩⟩) | (with_reducible exact ⟨⟨old_cell (hbR.alloc' _) fa_0, old_cell (hbR.alloc' _) fa_1, old_cell (hbR.alloc' _) fa_2, old_cell (hbR.alloc' _) fa_3⟩, ⟨old_cell (hbR.alloc' _) fb_0, old_cell (hbR.alloc' _) fb_1, old_cell (hbR.alloc' _) fb_2, old_cell (hbR.alloc' _) fb_3⟩, ⟨old_cell (hbR.alloc' _) fe_0, old_cell (hbR.alloc' _) fe_1, old_cell (hbR.alloc' _) fe_2, old_cell (hbR.alloc' _) fe_3⟩⟩) | (with_reducible exact ⟨⟨old_cell (alloc_below _ _).drew fa_0, old_cell (alloc_below _ _).drew fa_1, old_cell (alloc_below _ _).drew fa_2, old_cell (alloc_below _ _).drew fa_3⟩, ⟨old_cell (alloc_below _ _).drew fb_0, old_cell (alloc_below _ _).drew fb_1, old_cell (alloc_below _ _).drew fb_2, old_cell (alloc_below _ _).drew fb_3⟩, ⟨old_cell (alloc_below _ _).drew fe_0, old_cell (alloc_below _ _).drew fe_1, old_cell (alloc_below _ _).drew fe_2, old_cell (alloc_below _ _).drew fe_3⟩⟩) | (with_reducible exact ⟨⟨old_cell (below_four hbR nb.ge _ _ _ _) fa_0, old_cell (below_four hbR nb.ge _ _ _ _) fa_1, old_cell (below_four hbR nb.ge _ _ _ _) fa_2, old_cell (below_four hbR nb.ge _ _ _ _) fa_3⟩, ⟨old_cell (below_four hbR nb.ge _ _ _ _) fb_0, old_cell (below_four hbR nb.ge _ _ _ _) fb_1, old_cell (below_four hbR nb.ge _ _ _ _) fb_2, old_cell (below_four hbR nb.ge _ _ _ _) fb_3⟩, ⟨old_cell (below_four hbR nb.ge _ _ _ _) fe_0, old_cell (below_four hbR nb.ge _ _ _ _) fe_1, old_cell (below_four hbR nb.ge _ _ _ _) fe_2, old_cell (below_four hbR nb.ge _ _ _ _) fe_3⟩⟩) | (with_reducible exact ⟨⟨old_cell (below_four (hbR.alloc' _) hbR.size _ _ _ _) fa_0, old_cell (below_four (hbR.alloc' _) hbR.size _ _ _ _) fa_1, old_cell (below_four (hbR.alloc' _) hbR.size _ _ _ _) fa_2, old_cell (below_four (hbR.alloc' _) hbR.size _ _ _ _) fa_3⟩, ⟨old_cell (below_four (hbR.alloc' _) hbR.size _ _ _ _) fb_0, old_cell (below_four (hbR.alloc' _) hbR.size _ _ _ _) fb_1, old_cell (below_four (hbR.alloc' _) hbR.size _ _ _ _) fb_2, old_cell (below_four (hbR.alloc' _) hbR.size _ _ _ _) fb_3⟩, ⟨old_cell (below_four (hbR.alloc' _) hbR.size _ _ _ _) fe_0, old_cell (below_four (hbR.alloc' _) hbR.size _ _ _ _) fe_1, old_cell (below_four (hbR.alloc' _) hbR.size _ _ _ _) fe_2, old_cell (below_four (hbR.alloc' _) hbR.size _ _ _ _) fe_3⟩⟩) | go_keep)
        (first
          | (go_at_call 7; (with_reducible refine (hadd _ _ _ (fb.hv.below hbR) (fe.hv.below hbR)).mono ?_); rintro en wx ⟨v5, rfl, hv5, hbx⟩; (try have HLq := Shut.mk nb.lt); replace hbR := bthen hbR hbx; (try replace nb := nb.below hbx); replace hv5 := hv5.hv s1 hK1; clear hbx)
          | (go_at_call 7; (with_reducible refine (hadd _ _ _ (fb.hv.below (hbR.alloc' _)) (fe.hv.below (hbR.alloc' _))).mono ?_); rintro en wx ⟨v5, rfl, hv5, hbx⟩; have HLq := Shut.mk (newLt hbx); have nb := (Box4.new wc _ 26 _ _ _ _ hbR.size).below hbx; replace hbR := bthen (hbR.alloc' _) hbx; replace hv5 := hv5.hv s1 hK1; clear hbx)
          | (go_at_call 7; (with_reducible refine (hadd _ _ _ (fb.hv.below (alloc_below _ _).drew) (fe.hv.below (alloc_below _ _).drew)).mono ?_); rintro en wx ⟨v5, rfl, hv5, hbx⟩; have nb := (Box4.new wc wc 26 _ _ _ _ (Nat.le_refl _)).drew.below hbx; replace hbR := bthen (alloc_below _ _).drew hbx; replace hv5 := hv5.hv s1 hK1; clear hbx)
          | (go_at_call 6; (with_reducible refine (hmul _ _ _ ((fa.hv.below hbR).mono k96) hv5).mono ?_); rintro en wx ⟨v6, rfl, hv6, hbx⟩; (try have HLq := Shut.mk nb.lt); replace hbR := bthen hbR hbx; (try replace nb := nb.below hbx); obtain ⟨r1, R1, k1', i1, r2, R2, k2', i2, rfl⟩ := hv6.shape; (try have r0 := nb.c0); (try have r1' := nb.c1); (try have r2' := nb.c2); (try have r3 := nb.c3); (try have g0 := nb.f0); (try have g1 := nb.f1); (try have g2 := nb.f2); (try have g3 := nb.f3); clear hbx)
          | (go_at_call 6; (with_reducible refine (hmul _ _ _ ((fa.hv.below (hbR.alloc' _)).mono k96) (hv5.below (alloc_below _ _))).mono ?_); rintro en wx ⟨v6, rfl, hv6, hbx⟩; have HLq := Shut.mk (newLt hbx); have nb := (Box4.new wc _ 26 _ _ _ _ hbR.size).below hbx; replace hbR := bthen (hbR.alloc' _) hbx; obtain ⟨r1, R1, k1', i1, r2, R2, k2', i2, rfl⟩ := hv6.shape; (try have r0 := nb.c0); (try have r1' := nb.c1); (try have r2' := nb.c2); (try have r3 := nb.c3); (try have g0 := nb.f0); (try have g1 := nb.f1); (try have g2 := nb.f2); (try have g3 := nb.f3); clear hbx))
      all_goals
        clear fa_0 fa_1 fa_2 fa_3 fb_0 fb_1 fb_2 fb_3 fe_0 fe_1 fe_2 fe_3
        go_wp2_with fail
        go_meet
        case rel => first
          | exact ⟨_, _, _, _, _, _, _, _, _, rfl, ⟨bthen' HB.out HB.out.size (below_four hbR nb.ge _ _ _ _)⟩, fa.below (below_four hbR nb.ge _ _ _ _), fb.below (below_four hbR nb.ge _ _ _ _), fe.below (below_four hbR nb.ge _ _ _ _), fb_old nb hv6 HLq.out s2 hK2⟩
          | exact ⟨_, _, _, _, _, _, _, _, _, rfl, ⟨bthen' HB.out HB.out.size (hbR.alloc' _)⟩, fa.below (hbR.alloc' _), fb.below (hbR.alloc' _), fe.below (hbR.alloc' _), fb_now hv6 s2 hK2⟩
    case rest =>
      clear fa fb fe HB hadd hmul
      obtain ⟨q1, x1, X1, y1, z1, x2, X2, y2, z2, rfl, HB, fa, fb, fe, fx⟩ := hcut
      go_upto_region 4 with fail
      go_cut [9] (fun s9 wd => ∃ (q2 : Nat) (u1 : Bool) (U1 : Option Addr) (v1 o1 : Nat) (u2 : Bool) (U2 : Option Addr) (v2 o2 : Nat), s9 = .pointer (some ⟨q2, 0, none⟩) ∧ Shut (Below w.heap.size w wd) ∧ Fb 96 wd p1 a1 Aa ma ca a2 Aa2 ma2 ca2 qa ∧ Fb 96 wd p2 b1 Ab mb cb b2 Ab2 mb2 cb2 qb ∧ Fb 387 wd q1 x1 X1 y1 z1 x2 X2 y2 z2 Q2 ∧ Fb 387 wd q2 u1 U1 v1 o1 u2 U2 v2 o2 Q5)
      case first =>
        have hbR : Below wc.heap.size wc wc.drew := drew_below wc
        have fa_0 := fa.c0
        have fa_1 := fa.c1'
        have fa_2 := fa.c2'
        have fa_3 := fa.c3
        have fb_0 := fb.c0
        have fb_1 := fb.c1'
        have fb_2 := fb.c2'
        have fb_3 := fb.c3
        have fe_0 := fe.c0
        have fe_1 := fe.c1'
        have fe_2 := fe.c2'
        have fe_3 := fe.c3
        go_region_held3 (fun w' => (w'.cell? ⟨p1, 0, none⟩ = some (.bool a1) ∧ w'.cell? ⟨p1, 1, none⟩ = some (.slice Aa ma ca) ∧ w'.cell? ⟨p1, 2, none⟩ = some (.bool a2) ∧ w'.cell? ⟨p1, 3, none⟩ = some (.slice Aa2 ma2 ca2)) ∧ (w'.cell? ⟨p2, 0, none⟩ = some (.bool b1) ∧ w'.cell? ⟨p2, 1, none⟩ = some (.slice Ab mb cb) ∧ w'.cell? ⟨p2, 2, none⟩ = some (.bool b2) ∧ w'.cell? ⟨p2, 3, none⟩ = some (.slice Ab2 mb2 cb2)) ∧ (w'.cell? ⟨p3, 0, none⟩ = some (.bool e1) ∧ w'.cell? ⟨p3, 1, none⟩ = some (.slice Ae me ce) ∧ w'.cell? ⟨p3, 2, none⟩ = some (.bool e2) ∧ w'.cell? ⟨p3, 3, none⟩ = some (.slice Ae2 me2 ce2))) (first | (with_reducible exact ⟨⟨old_cell hbR fa_0, old_cell hbR fa_1, old_cell hbR fa_2, old_cell hbR fa_3⟩, ⟨old_cell hbR fb_0, old_cell hbR fb_1, old_cell hbR fb_2, old_cell hbR fb_3⟩, ⟨old_cell hbR fe_0, old_cell hbR fe_1, old_cell hbR fe_2, old_cell hbR fe_3⟩⟩) | (with_reducible exact ⟨⟨old_cell (hbR.alloc' _) fa_0, old_cell (hbR.alloc' _) fa_1, old_cell (hbR.alloc' _) fa_2, old_cell (hbR.alloc' _) fa_3⟩, ⟨old_cell (hbR.alloc' _) fb_0, old_cell (hbR.alloc' _) fb_1, old_cell (hbR.alloc' _) fb_2, old_cell (hbR.alloc' _) fb_3⟩, ⟨old_cell (hbR.alloc' _) fe_0, old_cell (hbR.alloc' _) fe_1, old_cell (hbR.alloc' _) fe_2, old_cell (hbR.alloc' _) fe_3⟩⟩) | (with_reducible exact ⟨⟨old_cell (alloc_below _ _).drew fa_0, old_cell (alloc_below _ _).drew fa_1, old_cell (alloc_below _ _).drew fa_2, old_cell (alloc_below _ _).drew fa_3⟩, ⟨old_cell (alloc_below _ _).drew fb_0, old_cell (alloc_below _ _).drew fb_1, old_cell (alloc_below _ _).drew fb_2, old_cell (alloc_below _ _).drew fb_3⟩, ⟨old_cell (alloc_below _ _).drew fe_0, old_cell (alloc_below _ _).drew fe_1, old_cell (alloc_below _ _).drew fe_2, old_cell (alloc_below _ _).drew fe_3⟩⟩) | (with_reducible exact ⟨⟨old_cell (below_four hbR nb.ge _ _ _ _) fa_0, old_cell (below_four hbR nb.ge _ _ _ _) fa_1, old_cell (below_four hbR nb.ge _ _ _ _) fa_2, old_cell (below_four hbR nb.ge _ _ _ _) fa_3⟩, ⟨old_cell (below_four hbR nb.ge _ _ _ _) fb_0, old_cell (below_four hbR nb.ge _ _ _ _) fb_1, old_cell (below_four hbR nb.ge _ _ _ _) fb_2, old_cell (below_four hbR nb.ge _ _ _ _) fb_3⟩, ⟨old_cell (below_four hbR nb.ge _ _ _ _) fe_0, old_cell (below_four hbR nb.ge _ _ _ _) fe_1, old_cell (below_four hbR nb.ge _ _ _ _) fe_2, old_cell (below_four hbR nb.ge _ _ _ _) fe_3⟩⟩) | (with_reducible exact ⟨⟨old_cell (below_four (hbR.alloc' _) hbR.size _ _ _ _) fa_0, old_cell (below_four (hbR.alloc' _) hbR.size _ _ _ _) fa_1, old_cell (below_four (hbR.alloc' _) hbR.size _ _ _ _) fa_2, old_cell (below_four (hbR.alloc' _) hbR.size _ _ _ _) fa_3⟩, ⟨old_cell (below_four (hbR.alloc' _) hbR.size _ _ _ _) fb_0, old_cell (below_four (hbR.alloc' _) hbR.size _ _ _ _) fb_1, old_cell (below_four (hbR.alloc' _) hbR.size _ _ _ _) fb_2, old_cell (below_four (hbR.alloc' _) hbR.size _ _ _ _) fb_3⟩, ⟨old_cell (below_four (hbR.alloc' _) hbR.size _ _ _ _) fe_0, old_cell (below_four (hbR.alloc' _) hbR.size _ _ _ _) fe_1, old_cell (below_four (hbR.alloc' _) hbR.size _ _ _ _) fe_2, old_cell (below_four (hbR.alloc' _) hbR.size _ _ _ _) fe_3⟩⟩) | go_keep)
          (first
            | (go_at_call 6; (with_reducible refine (hmab _ _ _ (fa.hv.below hbR) (fb.hv.below hbR)).mono ?_); rintro en wx ⟨v5, rfl, hv5, hbx⟩; (try have HLq := Shut.mk nb.lt); replace hbR := bthen hbR hbx; (try replace nb := nb.below hbx); replace hv5 := hv5.hv s3 hK1; clear hbx)
            | (go_at_call 6; (with_reducible refine (hmab _ _ _ (fa.hv.below (hbR.alloc' _)) (fb.hv.below (hbR.alloc' _))).mono ?_); rintro en wx ⟨v5, rfl, hv5, hbx⟩; have HLq := Shut.mk (newLt hbx); have nb := (Box4.new wc _ 26 _ _ _ _ hbR.size).below hbx; replace hbR := bthen (hbR.alloc' _) hbx; replace hv5 := hv5.hv s3 hK1; clear hbx)
            | (go_at_call 6; (with_reducible refine (hmab _ _ _ (fa.hv.below (alloc_below _ _).drew) (fb.hv.below (alloc_below _ _).drew)).mono ?_); rintro en wx ⟨v5, rfl, hv5, hbx⟩; have nb := (Box4.new wc wc 26 _ _ _ _ (Nat.le_refl _)).drew.below hbx; replace hbR := bthen (alloc_below _ _).drew hbx; replace hv5 := hv5.hv s3 hK1; clear hbx)
            | (go_at_call 6; (with_reducible refine (hmae _ _ _ (fa.hv.below hbR) (fe.hv.below hbR)).mono ?_); rintro en wx ⟨v6, rfl, hv6, hbx⟩; (try have HLq := Shut.mk nb.lt); replace hv5 := hv5.below hbx; replace hbR := bthen hbR hbx; (try replace nb := nb.below hbx); replace hv6 := hv6.hv s4 hK1; clear hbx)
            | (go_at_call 6; (with_reducible refine (hmae _ _ _ (fa.hv.below (hbR.alloc' _)) (fe.hv.below (hbR.alloc' _))).mono ?_); rintro en wx ⟨v6, rfl, hv6, hbx⟩; have HLq := Shut.mk (newLt hbx); have nb := (Box4.new wc _ 26 _ _ _ _ hbR.size).below hbx; replace hv5 := (hv5.below (alloc_below _ _)).below hbx; replace hbR := bthen (hbR.alloc' _) hbx; replace hv6 := hv6.hv s4 hK1; clear hbx)
            | (go_at_call 7; (with_reducible refine (hadd2 _ _ _ hv5 hv6).mono ?_); rintro en wx ⟨v7, rfl, hv7, hbx⟩; (try have HLq := Shut.mk nb.lt); replace hbR := bthen hbR hbx; (try replace nb := nb.below hbx); obtain ⟨r1, R1, k1', i1, r2, R2, k2', i2, rfl⟩ := hv7.shape; (try have r0 := nb.c0); (try have r1' := nb.c1); (try have r2' := nb.c2); (try have r3 := nb.c3); (try have g0 := nb.f0); (try have g1 := nb.f1); (try have g2 := nb.f2); (try have g3 := nb.f3); clear hbx)
            | (go_at_call 7; (with_reducible refine (hadd2 _ _ _ (hv5.below (alloc_below _ _)) (hv6.below (alloc_below _ _))).mono ?_); rintro en wx ⟨v7, rfl, hv7, hbx⟩; have HLq := Shut.mk (newLt hbx); have nb := (Box4.new wc _ 26 _ _ _ _ hbR.size).below hbx; replace hbR := bthen (hbR.alloc' _) hbx; obtain ⟨r1, R1, k1', i1, r2, R2, k2', i2, rfl⟩ := hv7.shape; (try have r0 := nb.c0); (try have r1' := nb.c1); (try have r2' := nb.c2); (try have r3 := nb.c3); (try have g0 := nb.f0); (try have g1 := nb.f1); (try have g2 := nb.f2); (try have g3 := nb.f3); clear hbx))
        all_goals
          clear fa_0 fa_1 fa_2 fa_3 fb_0 fb_1 fb_2 fb_3 fe_0 fe_1 fe_2 fe_3
          go_wp2_with fail
          go_meet
          case rel => first
            | exact ⟨_, _, _, _, _, _, _, _, _, rfl, ⟨bthen' HB.out HB.out.size (below_four hbR nb.ge _ _ _ _)⟩, fa.below (below_four hbR nb.ge _ _ _ _), fb.below (below_four hbR nb.ge _ _ _ _), fx.below (below_four hbR nb.ge _ _ _ _), fb_old nb hv7 HLq.out s5 hK2⟩
            | exact ⟨_, _, _, _, _, _, _, _, _, rfl, ⟨bthen' HB.out HB.out.size (hbR.alloc' _)⟩, fa.below (hbR.alloc' _), fb.below (hbR.alloc' _), fx.below (hbR.alloc' _), fb_now hv7 s5 hK2⟩
      case rest =>
        clear fa fb fe fx HB hmab hmae hadd2
        obtain ⟨q2, u1, U1, v1, o1, u2, U2, v2, o2, rfl, HB, fa, fb, fx, fy⟩ := hcut
        have fa_0 := fa.c0
        have fa_1 := fa.c1'
        have fa_2 := fa.c2'
        have fa_3 := fa.c3
        have fb_0 := fb.c0
        have fb_1 := fb.c1'
        have fb_2 := fb.c2'
        have fb_3 := fb.c3
        go_wp2_with fail
        refine (hquo _ _ _ fb.hv fa.hv).mono ?_
        rintro en wx ⟨v5, rfl, hv5, hbx⟩
        replace HB := Shut.mk (bthen' HB.out HB.out.size hbx)
        (replace fa := fa.below hbx; replace fb := fb.below hbx; replace fx := fx.below hbx; replace fy := fy.below hbx)
        clear hbx hquo fa_0 fa_1 fa_2 fa_3 fb_0 fb_1 fb_2 fb_3
        obtain ⟨j1, J1, t1, i1, j2, J2, t2, i2, rfl⟩ := hv5.shape
        go_upto_region 6 with fail
        have fq := fb_now (T := 26) hv5 s6 hK1
        change Code.wp _ _ _ _ (wx.alloc (.cells #[.bool j1, .slice J1 t1 i1, .bool j2, .slice J2 t2 i2] 26))
        replace HB := Shut.mk (HB.out.alloc HB.out.size (.cells #[.bool j1, .slice J1 t1 i1, .bool j2, .slice J2 t2 i2] 26))
        replace fa := fa.below (alloc_below _ (.cells #[.bool j1, .slice J1 t1 i1, .bool j2, .slice J2 t2 i2] 26))
        replace fb := fb.below (alloc_below _ (.cells #[.bool j1, .slice J1 t1 i1, .bool j2, .slice J2 t2 i2] 26))
        replace fx := fx.below (alloc_below _ (.cells #[.bool j1, .slice J1 t1 i1, .bool j2, .slice J2 t2 i2] 26))
        replace fy := fy.below (alloc_below _ (.cells #[.bool j1, .slice J1 t1 i1, .bool j2, .slice J2 t2 i2] 26))
        generalize wx.alloc (.cells #[.bool j1, .slice J1 t1 i1, .bool j2, .slice J2 t2 i2] 26) = wd at *
        generalize wx.heap.size = q3 at *
        clear hv5
        go_cut [45] (fun s45 we => s45 = .bool false ∧ Shut (Below w.heap.size w we) ∧ Fb 96 we p1 a1 Aa ma ca a2 Aa2 ma2 ca2 qa ∧ Fb 96 we p2 b1 Ab mb cb b2 Ab2 mb2 cb2 qb ∧ Fb 387 we q1 x1 X1 y1 z1 x2 X2 y2 z2 Q2 ∧ Fb 387 we q2 u1 U1 v1 o1 u2 U2 v2 o2 Q5)
        case first =>
          cases nz with
          | false =>
            go_quiet (fail)
            go_wp2_with fail
            go_meet
            case rel => exact ⟨rfl, ⟨bthen' HB.out HB.out.size (dN_below _ _)⟩, fa.below (dN_below _ _), fb.below (dN_below _ _), fx.below (dN_below _ _), fy.below (dN_below _ _)⟩
          | true =>
            have hcqq := hcq (HNZ.out rfl)
            clear hcq
            have hbR : Below wd.heap.size wd wd.drew := drew_below wd
            have fa_0 := fa.c0
            have fa_1 := fa.c1'
            have fa_2 := fa.c2'
            have fa_3 := fa.c3
            have fb_0 := fb.c0
            have fb_1 := fb.c1'
            have fb_2 := fb.c2'
            have fb_3 := fb.c3
            have fq_0 := fq.c0
            have fq_1 := fq.c1'
            have fq_2 := fq.c2'
            have fq_3 := fq.c3
            go_region_held3 (fun w' => (w'.cell? ⟨p1, 0, none⟩ = some (.bool a1) ∧ w'.cell? ⟨p1, 1, none⟩ = some (.slice Aa ma ca) ∧ w'.cell? ⟨p1, 2, none⟩ = some (.bool a2) ∧ w'.cell? ⟨p1, 3, none⟩ = some (.slice Aa2 ma2 ca2)) ∧ (w'.cell? ⟨p2, 0, none⟩ = some (.bool b1) ∧ w'.cell? ⟨p2, 1, none⟩ = some (.slice Ab mb cb) ∧ w'.cell? ⟨p2, 2, none⟩ = some (.bool b2) ∧ w'.cell? ⟨p2, 3, none⟩ = some (.slice Ab2 mb2 cb2)) ∧ (w'.cell? ⟨q3, 0, none⟩ = some (.bool j1) ∧ w'.cell? ⟨q3, 1, none⟩ = some (.slice J1 t1 i1) ∧ w'.cell? ⟨q3, 2, none⟩ = some (.bool j2) ∧ w'.cell? ⟨q3, 3, none⟩ = some (.slice J2 t2 i2))) (first | (with_reducible exact ⟨⟨old_cell hbR fa_0, old_cell hbR fa_1, old_cell hbR fa_2, old_cell hbR fa_3⟩, ⟨old_cell hbR fb_0, old_cell hbR fb_1, old_cell hbR fb_2, old_cell hbR fb_3⟩, ⟨old_cell hbR fq_0, old_cell hbR fq_1, old_cell hbR fq_2, old_cell hbR fq_3⟩⟩) | (with_reducible exact ⟨⟨old_cell (hbR.alloc' _) fa_0, old_cell (hbR.alloc' _) fa_1, old_cell (hbR.alloc' _) fa_2, old_cell (hbR.alloc' _) fa_3⟩, ⟨old_cell (hbR.alloc' _) fb_0, old_cell (hbR.alloc' _) fb_1, old_cell (hbR.alloc' _) fb_2, old_cell (hbR.alloc' _) fb_3⟩, ⟨old_cell (hbR.alloc' _) fq_0, old_cell (hbR.alloc' _) fq_1, old_cell (hbR.alloc' _) fq_2, old_cell (hbR.alloc' _) fq_3⟩⟩) | (with_reducible exact ⟨⟨old_cell (alloc_below _ _).drew fa_0, old_cell (alloc_below _ _).drew fa_1, old_cell (alloc_below _ _).drew fa_2, old_cell (alloc_below _ _).drew fa_3⟩, ⟨old_cell (alloc_below _ _).drew fb_0, old_cell (alloc_below _ _).drew fb_1, old_cell (alloc_below _ _).drew fb_2, old_cell (alloc_below _ _).drew fb_3⟩, ⟨old_cell (alloc_below _ _).drew fq_0, old_cell (alloc_below _ _).drew fq_1, old_cell (alloc_below _ _).drew fq_2, old_cell (alloc_below _ _).drew fq_3⟩⟩) | go_keep)
              (first
                | (go_at_call 6; (with_reducible refine (hmq _ _ _ (fq.hv.below hbR) ((fa.hv.below hbR).mono k96)).mono ?_); rintro en wx ⟨v5, rfl, hv5, hbx⟩; replace hbR := bthen hbR hbx; replace hv5 := hv5.hv s7 hK2; clear hbx)
                | (go_at_call 9; (with_reducible refine (hcqq _ _ _ hv5 ((fb.hv.below hbR).mono k96b)).mono ?_); rintro en wx ⟨rfl, hbx⟩; replace hbR := bthen hbR hbx; clear hbx))
            all_goals
              go_wp2_with fail
              go_meet
              case rel => exact ⟨rfl, ⟨bthen' HB.out HB.out.size hbR⟩, fa.below hbR, fb.below hbR, fx.below hbR, fy.below hbR⟩
        case rest =>
          clear fa fb fx fy fq HB hmq hcq
          obtain ⟨rfl, HB, fa, fb, fx, fy⟩ := hcut
          go_upto_region 8 with fail
          have hbR : Below wc.heap.size wc wc.drew := drew_below wc
          have fa_0 := fa.c0
          have fa_1 := fa.c1'
          have fa_2 := fa.c2'
          have fa_3 := fa.c3
          have fb_0 := fb.c0
          have fb_1 := fb.c1'
          have fb_2 := fb.c2'
          have fb_3 := fb.c3
          have fx_0 := fx.c0
          have fx_1 := fx.c1'
          have fx_2 := fx.c2'
          have fx_3 := fx.c3
          have fy_0 := fy.c0
          have fy_1 := fy.c1'
          have fy_2 := fy.c2'
          have fy_3 := fy.c3
          go_region_held3 (fun w' => (w'.cell? ⟨p1, 0, none⟩ = some (.bool a1) ∧ w'.cell? ⟨p1, 1, none⟩ = some (.slice Aa ma ca) ∧ w'.cell? ⟨p1, 2, none⟩ = some (.bool a2) ∧ w'.cell? ⟨p1, 3, none⟩ = some (.slice Aa2 ma2 ca2)) ∧ (w'.cell? ⟨p2, 0, none⟩ = some (.bool b1) ∧ w'.cell? ⟨p2, 1, none⟩ = some (.slice Ab mb cb) ∧ w'.cell? ⟨p2, 2, none⟩ = some (.bool b2) ∧ w'.cell? ⟨p2, 3, none⟩ = some (.slice Ab2 mb2 cb2)) ∧ (w'.cell? ⟨q1, 0, none⟩ = some (.bool x1) ∧ w'.cell? ⟨q1, 1, none⟩ = some (.slice X1 y1 z1) ∧ w'.cell? ⟨q1, 2, none⟩ = some (.bool x2) ∧ w'.cell? ⟨q1, 3, none⟩ = some (.slice X2 y2 z2)) ∧ (w'.cell? ⟨q2, 0, none⟩ = some (.bool u1) ∧ w'.cell? ⟨q2, 1, none⟩ = some (.slice U1 v1 o1) ∧ w'.cell? ⟨q2, 2, none⟩ = some (.bool u2) ∧ w'.cell? ⟨q2, 3, none⟩ = some (.slice U2 v2 o2))) (first | (with_reducible exact ⟨⟨old_cell hbR fa_0, old_cell hbR fa_1, old_cell hbR fa_2, old_cell hbR fa_3⟩, ⟨old_cell hbR fb_0, old_cell hbR fb_1, old_cell hbR fb_2, old_cell hbR fb_3⟩, ⟨old_cell hbR fx_0, old_cell hbR fx_1, old_cell hbR fx_2, old_cell hbR fx_3⟩, ⟨old_cell hbR fy_0, old_cell hbR fy_1, old_cell hbR fy_2, old_cell hbR fy_3⟩⟩) | (with_reducible exact ⟨⟨old_cell (hbR.alloc' _) fa_0, old_cell (hbR.alloc' _) fa_1, old_cell (hbR.alloc' _) fa_2, old_cell (hbR.alloc' _) fa_3⟩, ⟨old_cell (hbR.alloc' _) fb_0, old_cell (hbR.alloc' _) fb_1, old_cell (hbR.alloc' _) fb_2, old_cell (hbR.alloc' _) fb_3⟩, ⟨old_cell (hbR.alloc' _) fx_0, old_cell (hbR.alloc' _) fx_1, old_cell (hbR.alloc' _) fx_2, old_cell (hbR.alloc' _) fx_3⟩, ⟨old_cell (hbR.alloc' _) fy_0, old_cell (hbR.alloc' _) fy_1, old_cell (hbR.alloc' _) fy_2, old_cell (hbR.alloc' _) fy_3⟩⟩) | (with_reducible exact ⟨⟨old_cell (alloc_below _ _).drew fa_0, old_cell (alloc_below _ _).drew fa_1, old_cell (alloc_below _ _).drew fa_2, old_cell (alloc_below _ _).drew fa_3⟩, ⟨old_cell (alloc_below _ _).drew fb_0, old_cell (alloc_below _ _).drew fb_1, old_cell (alloc_below _ _).drew fb_2, old_cell (alloc_below _ _).drew fb_3⟩, ⟨old_cell (alloc_below _ _).drew fx_0, old_cell (alloc_below _ _).drew fx_1, old_cell (alloc_below _ _).drew fx_2, old_cell (alloc_below _ _).drew fx_3⟩, ⟨old_cell (alloc_below _ _).drew fy_0, old_cell (alloc_below _ _).drew fy_1, old_cell (alloc_below _ _).drew fy_2, old_cell (alloc_below _ _).drew fy_3⟩⟩) | go_keep)
            (first
              | (go_at_call 9; (with_reducible refine (hcxy _ _ _ (fx.hv.below hbR) (fy.hv.below hbR)).mono ?_); rintro en wx ⟨rfl, hbx⟩; replace hbR := bthen hbR hbx; clear hbx)
              | (go_at_call 10; (with_reducible refine (hsa _ _ _ (fa.hv.below hbR) (fa.hv.below hbR)).mono ?_); rintro en wx ⟨v5, rfl, hv5, hbx⟩; replace hbR := bthen hbR hbx; replace hv5 := hv5.hv s8 hK1; clear hbx)
              | (go_at_call 10; (with_reducible refine (hsb _ _ _ (fb.hv.below hbR) (fb.hv.below hbR)).mono ?_); rintro en wx ⟨v6, rfl, hv6, hbx⟩; replace hv5 := hv5.below hbx; replace hbR := bthen hbR hbx; replace hv6 := hv6.hv s9 hK1; clear hbx)
              | (go_at_call 9; (with_reducible refine (hcs _ _ _ hv5 hv6).mono ?_); rintro en wx ⟨rfl, hbx⟩; replace hbR := bthen hbR hbx; clear hbx)
              | (go_at_call 9; (with_reducible refine (hcab _ _ _ (fa.hv.below hbR) (fb.hv.below hbR)).mono ?_); rintro en wx ⟨rfl, hbx⟩; replace hbR := bthen hbR hbx; clear hbx)
              | (go_at_call 9; (with_reducible refine (hcba _ _ _ (fb.hv.below hbR) (fa.hv.below hbR)).mono ?_); rintro en wx ⟨rfl, hbx⟩; replace hbR := bthen hbR hbx; clear hbx))
          all_goals
            clear fa_0 fa_1 fa_2 fa_3 fb_0 fb_1 fb_2 fb_3 fx_0 fx_1 fx_2 fx_3 fy_0 fy_1 fy_2 fy_3
            go_wp2_with fail
            go_ret
            exact ⟨by first | rfl | simp [hsw], bthen' HB.out HB.out.size hbR⟩

end Go.Proofs.YtjeaakkbkjhldaaDoor
