import Derived.Test.YtjeaakkbkjhldaaGreatDoorK15
set_option linter.unusedVariables false
set_option linter.unusedSimpArgs false
namespace Go.Proofs.YtjeaakkbkjhldaaGreatDoor
open Go.RowKit

set_option maxHeartbeats 20000000 in
set_option maxRecDepth 100000 in
theorem of_law {w : World} {a1 b1 : Bool} {Aa Ab : Option Addr} {la ca lb cb : Nat} (ha : RawB w Aa la ca) (hb : RawB w Ab lb cb) :
    Calls Tryz.prog 4 #[.agg #[.bool a1, .slice Aa la ca], .agg #[.bool b1, .slice Ab lb cb]] w fun en w' => en = .returned (.bool true) ∧ Below w.heap.size w w' := by
  obtain ⟨n, hn, sn⟩ := ha.cut a1 6 (by omega)
  obtain ⟨d, hd, sd⟩ := hb.cut b1 6 (by omega)
  have hA := fun (w : World) => Cut1_calls (w := w) (neg := a1) ha.choose_spec.1.cap ha.choose_spec.1.big ha.some (m := 6) (by omega)
  have hB := fun (w : World) => Cut1_calls (w := w) (neg := b1) hb.choose_spec.1.cap hb.choose_spec.1.big hb.some (m := 6) (by omega)
  have h6i : ((6 : Nat) : Int) = 6 := rfl
  rw [h6i] at hA hB
  clear h6i ha hb
  generalize min la 6 = ma at *
  generalize min lb 6 = mb at *
  have HQ := Shut.mk (And.intro hn hd)
  clear hn hd
  obtain ⟨hbW, ba, bb⟩ := box2_facts w 24 24 (.bool a1) (.slice Aa la ca) (.bool b1) (.slice Ab lb cb)
  go_enter Tryz.func4, Tryz.ntmps4
  go_wp2_with fail
  change Calls _ _ _ (box2 w 24 24 (.bool a1) (.slice Aa la ca) (.bool b1) (.slice Ab lb cb)) _
  generalize box2 w 24 24 (.bool a1) (.slice Aa la ca) (.bool b1) (.slice Ab lb cb) = W at *
  have d1 : ¬ w.heap.size = w.heap.size + 1 := by omega
  have d2 : ¬ w.heap.size + 1 = w.heap.size := by omega
  generalize w.heap.size + 1 = q at *
  generalize hp : w.heap.size = p at ba d1 d2 ⊢
  clear hp
  refine begun_calls.mono ?_
  rintro en w1 ⟨rfl, hb1⟩
  replace hbW := bthen hbW hb1
  (replace ba := ba.below hb1; replace bb := bb.below hb1)
  clear hb1
  go_upto_region 2 with fail
  go_cut [] (fun wc => Shut (Below w.heap.size w wc) ∧ Box w wc p (.bool a1) (.slice Aa ma ca) ∧ Box w wc q (.bool b1) (.slice Ab mb cb))
  case first =>
    replace ba := ba.drew
    replace bb := bb.drew
    replace hbW := Shut.mk hbW.drew
    have l0 := ba.c0
    have l1 := ba.c1
    have m0 := bb.c0
    have m1 := bb.c1
    go_region_with (first
      | (go_at_call 29; (with_reducible refine (hA _).mono ?_); rintro e w5 ⟨rfl, hb5⟩; replace hbW := Shut.mk (bthen' hbW.out hbW.out.size hb5); (replace ba := ba.below hb5; replace bb := bb.below hb5; replace l0 := old_cell hb5 l0; replace l1 := old_cell hb5 l1; replace m0 := old_cell hb5 m0; replace m1 := old_cell hb5 m1); clear hb5)
      | (go_at_call 29; (with_reducible refine (hB _).mono ?_); rintro e w5 ⟨rfl, hb5⟩; replace hbW := Shut.mk (bthen' hbW.out hbW.out.size hb5); (replace ba := ba.below hb5; replace bb := bb.below hb5); clear hb5; replace l0 := ba.c0; replace l1 := ba.c1; replace m0 := bb.c0; replace m1 := bb.c1; have f0 := ba.f0; have f1 := ba.f1; have g0 := bb.f0; have g1 := bb.f1))
    all_goals
      clear l0 l1 m0 m1 f0 f1 g0 g1
      go_wp2_with fail
      go_meet
      case rel => exact ⟨⟨below_two (below_two hbW.out ba.ge _ _) bb.ge _ _⟩, (ba.put _ _).two d1 _ _, (bb.two d2 _ _).put _ _⟩
  case rest =>
    clear ba bb hbW hA hB d1 d2
    obtain ⟨HB, ba, bb⟩ := hcut
    have hn := HQ.out.1.below HB.out
    have hd := HQ.out.2.below HB.out
    have hK : (32 * 6 : Nat) ≤ 137438953472 := by omega
    have hof := fun (W : World) (v v' : Value) (h : BV W v n) (h' : BV W v' d) => ROf_calls h h' sn sd hK (by omega)
    have hfn := fun (W : World) (v : Value) (h : BV W v n) => From_calls h
    have hfd := fun (W : World) (v : Value) (h : BV W v d) => From_calls h
    have hwn := fun (W : World) (v : Value) (h : BV W v n) => Whole_calls h sn hK (by omega)
    have sq : SmR (32 * 6) (fr n d) := SmR.fr sn sd (by omega)
    have sq1 : SmR (32 * 6) (fr n 1) := SmR.fr sn (Sm.of_le (by decide) (by omega)) (by omega)
    have hrat := fun (W : World) (v v' : Value) (hd0 : d ≠ 0) (h : IV W v n) (h' : IV W v' d) => Ratio_calls h h' sn sd hK hd0
    have hwhole := fun (W : World) (v : Value) (h : IV W v n) => IWhole_calls h
    have his := fun (W : World) (B : Nat) (va vi : Value) (h : NRV B W va (fr n d)) (h' : RI W vi (fr n d)) => IsRat_calls h h' sq hK
    have his1 := fun (W : World) (B : Nat) (va vi : Value) (h : NRV B W va (fr n 1)) (h' : RI W vi (fr n 1)) => IsRat_calls h h' sq1 hK
    have sz1 : SmR (32 * 6) (fr 0 1) := by rw [fr_zero]; exact ⟨Sm.zero _, Sm.of_le (by decide) (by omega)⟩
    have his0 := fun (W : World) (B : Nat) (va vi : Value) (h : NRV B W va (fr 0 1)) (h' : RI W vi (fr 0 1)) => IsRat_calls h h' sz1 hK
    unfold OfRes at hof
    generalize hnz : decide (d ≠ 0) = nz at hof
    generalize hq0 : (if d = 0 then (0 : Rat) else fr n d) = q0 at hof
    have HNZ := Shut.mk (And.intro hnz hq0)
    clear HQ sn sd sq sq1 hK sz1 hnz hq0
    have l0 := ba.c0
    have l1 := ba.c1
    have m0 := bb.c0
    have m1 := bb.c1
    go_wp2_with fail
    refine (hof _ _ _ hn hd).mono ?_
    rintro en w2 ⟨v2, rfl, hv2, hb2⟩
    obtain ⟨n1, A1, k1, c1, n2, A2, k2, c2, rfl⟩ := hv2.shape
    replace HB := Shut.mk (bthen' HB.out HB.out.size hb2)
    (replace hn := hn.below hb2; replace hd := hd.below hb2; replace ba := ba.below hb2; replace bb := bb.below hb2)
    clear hb2 l0 l1 m0 m1
    obtain ⟨hb3, r0, r1, r2, r3⟩ := boxSc w2 26 (.bool n1) (.slice A1 k1 c1) (.bool n2) (.slice A2 k2 c2)
    go_upto_region 4 with fail
    change Code.wp _ _ _ _ (boxS w2 26 (.bool n1) (.slice A1 k1 c1) (.bool n2) (.slice A2 k2 c2))
    replace HB := Shut.mk (bthen' HB.out HB.out.size hb3)
    (replace hn := hn.below hb3; replace hd := hd.below hb3; replace hv2 := hv2.below hb3; replace ba := ba.below hb3; replace bb := bb.below hb3)
    generalize boxS w2 26 (.bool n1) (.slice A1 k1 c1) (.bool n2) (.slice A2 k2 c2) = w3 at *
    have HV := Shut.mk hv2
    have m0 := bb.c0
    have m1 := bb.c1
    generalize w2.heap.size = g3 at *
    clear hb3 hof hv2
    go_wp2_with fail
    refine (hfd _ _ hd).mono ?_
    rintro en w4 ⟨v4, rfl, hv4, hb4⟩
    obtain ⟨n4, A4, k4, c4, rfl⟩ := hv4.shape
    obtain ⟨hl1, hl2, hl3⟩ := hv4.len.2.pos
    replace HB := Shut.mk (bthen' HB.out HB.out.size hb4)
    replace HV := Shut.mk (HV.out.below hb4)
    (replace hn := hn.below hb4; replace ba := ba.below hb4; replace r0 := old_cell hb4 r0; replace r1 := old_cell hb4 r1; replace r2 := old_cell hb4 r2; replace r3 := old_cell hb4 r3)
    clear hb4 m0 m1 hfd hd bb
    obtain ⟨hb5, y0, y1⟩ := box1c w4 32 (.bool n4) (.slice A4 k4 c4)
    go_upto_region 5 with fail
    change Code.wp _ _ _ _ (box1 w4 32 (.bool n4) (.slice A4 k4 c4))
    replace HB := Shut.mk (bthen' HB.out HB.out.size hb5)
    replace HV := Shut.mk (HV.out.below hb5)
    (replace hn := hn.below hb5; replace hv4 := hv4.below hb5; replace ba := ba.below hb5; replace r0 := old_cell hb5 r0; replace r1 := old_cell hb5 r1; replace r2 := old_cell hb5 r2; replace r3 := old_cell hb5 r3)
    generalize box1 w4 32 (.bool n4) (.slice A4 k4 c4) = w5 at *
    generalize w4.heap.size = g5 at *
    clear hb5
    have l0 := ba.c0
    have l1 := ba.c1
    by_cases h0 : d = 0
    · obtain rfl : k4 = 0 := hl1.2 (by omega)
      obtain rfl : nz = false := by rw [← HNZ.out.1]; simp [h0]
      obtain rfl : q0 = fr 0 1 := by rw [← HNZ.out.2, if_pos h0, fr_zero]
      clear HNZ h0 hl1 his his1 hrat hfn hwn hn hv4
      go_upto_region 6 with fail
      have hbR : Below w5.heap.size w5 w5.drew := drew_below w5
      go_region_held3 (fun w' => w'.cell? ⟨g3, 0, none⟩ = some (.bool n1) ∧ w'.cell? ⟨g3, 1, none⟩ = some (.slice A1 k1 c1) ∧ w'.cell? ⟨g3, 2, none⟩ = some (.bool n2) ∧ w'.cell? ⟨g3, 3, none⟩ = some (.slice A2 k2 c2)) (first | (with_reducible exact ⟨old_cell hbR r0, old_cell hbR r1, old_cell hbR r2, old_cell hbR r3⟩) | go_keep)
        (first
          | (go_at_call 12; (with_reducible refine (IWhole_calls (IV.zero _)).mono ?_); rintro en wx ⟨vw, rfl, hvw, hbx⟩; replace hbR := bthen hbR hbx; clear hbx)
          | (go_at_call 11; (with_reducible refine (his0 _ _ _ _ (HV.out.below hbR) hvw).mono ?_); rintro en wx ⟨rfl, hbx⟩; replace hbR := bthen hbR hbx; clear hbx))
      all_goals
        clear r0 r1 r2 r3
        go_wp2_with fail
        go_ret
        exact ⟨rfl, bthen' HB.out HB.out.size hbR⟩
    · have hk0 : k4 ≠ 0 := by intro e; have := hl1.1 e; omega
      obtain rfl : nz = true := by rw [← HNZ.out.1]; simp [h0]
      obtain rfl : q0 = fr n d := by rw [← HNZ.out.2, if_neg h0]
      have hk1 : 0 < k4 := by omega
      have HD0 := Shut.mk h0
      clear HNZ hl1 h0 hk0 his0
      go_upto_region 7 with fail
      have hbR : Below w5.heap.size w5 w5.drew := drew_below w5
      go_region_held3 (fun w' => w'.cell? ⟨p, 0, none⟩ = some (.bool a1) ∧ w'.cell? ⟨p, 1, none⟩ = some (.slice Aa ma ca) ∧ w'.cell? ⟨g3, 0, none⟩ = some (.bool n1) ∧ w'.cell? ⟨g3, 1, none⟩ = some (.slice A1 k1 c1) ∧ w'.cell? ⟨g3, 2, none⟩ = some (.bool n2) ∧ w'.cell? ⟨g3, 3, none⟩ = some (.slice A2 k2 c2) ∧ w'.cell? ⟨g5, 0, none⟩ = some (.bool n4) ∧ w'.cell? ⟨g5, 1, none⟩ = some (.slice A4 k4 c4)) (first | (with_reducible exact ⟨old_cell hbR l0, old_cell hbR l1, old_cell hbR r0, old_cell hbR r1, old_cell hbR r2, old_cell hbR r3, old_cell hbR y0, old_cell hbR y1⟩) | go_keep)
        (first
          | (go_at_call 31; (with_reducible refine (hfn _ _ (hn.below hbR)).mono ?_); rintro en wx ⟨v5, rfl, hv5, hbx⟩; replace hbR := bthen hbR hbx; (try replace hvw := hvw.below hbx); clear hbx)
          | (go_at_call 32; (with_reducible refine (hrat _ _ _ HD0.out hv5 (hv4.below hbR)).mono ?_); rintro en wx ⟨vr, rfl, hvr, hbx⟩; replace hbR := bthen hbR hbx; clear hbx)
          | (go_at_call 11; (with_reducible first | (refine (his1 _ _ _ _ hvw hvi).mono ?_) | (refine (his _ _ _ _ (HV.out.below hbR) hvr).mono ?_)); rintro en wx ⟨rfl, hbx⟩; replace hbR := bthen hbR hbx; clear hbx)
          | (go_at_call 33; (with_reducible refine (hwn _ _ (hn.below hbR)).mono ?_); rintro en wx ⟨vw, rfl, hvw, hbx⟩; replace hbR := bthen hbR hbx; clear hbx)
          | (go_at_call 12; (with_reducible refine (hwhole _ _ hv5).mono ?_); rintro en wx ⟨vi, rfl, hvi, hbx⟩; replace hbR := bthen hbR hbx; replace hvw := hvw.below hbx; clear hbx))
      all_goals
        clear l0 l1 r0 r1 r2 r3 y0 y1
        go_wp2_with fail
        go_ret
        exact ⟨rfl, bthen' HB.out HB.out.size hbR⟩

end Go.Proofs.YtjeaakkbkjhldaaGreatDoor
