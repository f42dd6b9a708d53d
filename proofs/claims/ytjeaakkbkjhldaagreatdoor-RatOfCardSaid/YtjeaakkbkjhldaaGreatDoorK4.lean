import Derived.Test.YtjeaakkbkjhldaaGreatDoorK3
import Derived.StillTailTactics
set_option linter.unusedVariables false
set_option linter.unusedSimpArgs false
namespace Go.Proofs.YtjeaakkbkjhldaaGreatDoor
open Go.RowKit

theorem quo_sg {X Y : Int} (hX : 0 ≤ X) (hY : 0 < Y) (n1 n2 : Bool) : sg (n1 != n2) (X / Y) = (sg n1 X).tdiv (sg n2 Y) := by
  have h : X.tdiv Y = X / Y := Int.tdiv_eq_ediv_of_nonneg hX
  unfold sg
  cases n1 <;> cases n2 <;> simp [Int.neg_tdiv, Int.tdiv_neg, h]
theorem addr_add_zero (a : Addr) : a.add 0 = a := by unfold Addr.add; simp
theorem rem_sg {X Y : Int} (hX : 0 ≤ X) (hY : 0 < Y) (n1 n2 : Bool) : sg n1 (X % Y) = (sg n1 X).tmod (sg n2 Y) := by
  have h : X.tmod Y = X % Y := Int.tmod_eq_emod_of_nonneg hX
  unfold sg
  cases n1 <;> cases n2 <;> simp [Int.neg_tmod, Int.tmod_neg, h]
def QuoRes (w : World) (x y : Int) (en : Ending) (w' : World) : Prop := ∃ v v', en = .returned (.tuple #[v, v', .bool true]) ∧ NBV w.heap.size w' v (x.tdiv y) ∧ NBV w.heap.size w' v' (x.tmod y) ∧ Below w.heap.size w w'

theorem quo_goal {w : World} {neg neg2 : Bool} {X X' Y Y' : Int} (h1 : X' = X) (h2 : Y' = Y) : QuoRes w (sg neg X') (sg neg2 Y') = QuoRes w (sg neg X) (sg neg2 Y) := by rw [h1, h2]

set_option maxHeartbeats 4000000 in
set_option maxRecDepth 100000 in
theorem Quo_lt {w : World} {neg neg2 : Bool} {A1 A2 : Option Addr} {n1 c1 n2 c2 : Nat} {xs ys : List Int} (hx : RdS w .u32 A1 n1 c1 xs) (hy : RdS w .u32 A2 n2 c2 ys) (dx : Dgs 4294967296 xs) (dy : Dgs 4294967296 ys) (hl : n1 ≤ 4294967296) (hl2 : n2 ≤ 4294967296) (hy0 : 0 < val 4294967296 ys) (hlt : val 4294967296 xs < val 4294967296 ys) :
    Calls Tryz.prog 98 #[.agg #[.bool neg, .slice A1 n1 c1], .agg #[.bool neg2, .slice A2 n2 c2]] w (QuoRes w (sg neg (val 4294967296 xs)) (sg neg2 (val 4294967296 ys))) := by
  obtain ⟨hbW, ba, bb, br, bs⟩ := box4_facts w 24 24 24 24 (.bool neg) (.slice A1 n1 c1) (.bool neg2) (.slice A2 n2 c2) (.bool false) (.slice none 0 0) (.bool false) (.slice none 0 0)
  have hx1 := hx.below hbW
  have hy1 := hy.below hbW
  obtain ⟨m1, xs', hx', dx', hm1, hv1, hn1, hnl1⟩ := nrm_of hx1 dx
  obtain ⟨m2, ys', hy', dy', hm2, hv2, hn2, hnl2⟩ := nrm_of hy1 dy
  have HN1 := Shut.mk hnl1
  have HN2 := Shut.mk hnl2
  rw [← quo_goal hv1 hv2]
  rw [← hv2] at hy0
  have hX0 := val_nonneg (by omega) dx'
  rw [← hv1, ← hv2] at hlt
  have HC := Shut.mk (cmpI_lt hlt)
  have HVQ : Shut (sg (!(neg == neg2)) (val 4294967296 []) = (sg neg (val 4294967296 xs')).tdiv (sg neg2 (val 4294967296 ys'))) := ⟨by show sg (neg != neg2) _ = _; rw [← quo_sg hX0 hy0, Int.ediv_eq_zero_of_lt hX0 hlt]; rfl⟩
  have HVR : Shut (sg neg (val 4294967296 xs') = (sg neg (val 4294967296 xs')).tmod (sg neg2 (val 4294967296 ys'))) := ⟨by rw [← rem_sg hX0 hy0, Int.emod_eq_of_lt hX0 hlt]⟩
  have HDQ : Shut (Dgs 4294967296 []) := ⟨Dgs.nil _⟩
  have HDR := Shut.mk dx'
  clear hlt
  have HY0 := Shut.mk hy0
  have HX0 := Shut.mk hX0
  have hl2p : 0 < m2 := by
    rcases Nat.eq_zero_or_pos m2 with h | h
    · have e := hy'.len
      rw [h] at e
      rw [List.eq_nil_of_length_eq_zero e] at hy0
      simp [val] at hy0
    · exact h
  clear hnl1 hnl2 hv1 hv2 hy0 hX0
  have b1 := hx'.big
  have b2 := hx'.cap
  have b3 := hy'.big
  have b4 := hy'.cap
  go_enter Tryz.func98, Tryz.ntmps98
  go_wp2_with fail
  change Code.wp _ _ _ _ (box4 w 24 24 24 24 (.bool neg) (.slice A1 n1 c1) (.bool neg2) (.slice A2 n2 c2) (.bool false) (.slice none 0 0) (.bool false) (.slice none 0 0))
  generalize box4 w 24 24 24 24 (.bool neg) (.slice A1 n1 c1) (.bool neg2) (.slice A2 n2 c2) (.bool false) (.slice none 0 0) (.bool false) (.slice none 0 0) = W at *
  have o1 : w.heap.size < w.heap.size + 1 := by omega
  have o2 : w.heap.size + 1 < w.heap.size + 1 + 1 := by omega
  have o3 : w.heap.size + 1 + 1 < w.heap.size + 1 + 1 + 1 := by omega
  generalize w.heap.size + 1 + 1 + 1 = s at *
  generalize w.heap.size + 1 + 1 = r at *
  generalize w.heap.size + 1 = q at *
  generalize hp : w.heap.size = p at ba o1 ⊢
  clear hp
  have d1 : ¬ p = r := by omega
  have d2 : ¬ q = r := by omega
  have d3 : ¬ p = s := by omega
  have d4 : ¬ q = s := by omega
  have d5 : ¬ s = r := by omega
  have d6 : ¬ r = s := by omega
  have l0 := ba.c0
  have l1 := ba.c1
  have l2 := bb.c0
  have l3 := bb.c1
  go_region_held3 (fun w' => w'.cell? ⟨p, 1, none⟩ = some (.slice A1 n1 c1) ∧ w'.cell? ⟨q, 1, none⟩ = some (.slice A2 n2 c2)) (first | go_keep)
    (first
      | (go_at_call 91; (first | (with_reducible refine (norm_calls hx1.drew).mono ?_) | (with_reducible refine (norm_calls hy1.drew).mono ?_)); rintro e w1 ⟨rfl, rfl⟩; (first | rw [HN1.out] | rw [HN2.out])))
  have hx2 := hx'.drew
  have hy2 := hy'.drew
  have h1 : (m2 == 0) = false := by simp; omega
  have h2 : ((m2 : Int) == 0) = false := by simp; omega
  go_wp2_with fail
  refine (order_b hx2 hy2 dx' dy').mono ?_
  rintro e w5 ⟨he, hb'⟩
  rw [HC.out] at he
  subst he
  have hb := undrew hb'
  have HRQ := Shut.mk (RdS.nil w5 .u32)
  have HRR := Shut.mk (hx'.below hb)
  replace ba := ba.below hb
  replace bb := bb.below hb
  replace br := br.below hb
  replace bs := bs.below hb
  have hbw := bthen hbW hb
  clear hb hb' l0 l1 l2 l3 hbW
  have l0 := ba.c0
  have l2 := bb.c0
  go_wp2_with fail
  go_region_held3 (fun w' => w'.cell? ⟨p, 0, none⟩ = some (.bool neg) ∧ w'.cell? ⟨q, 0, none⟩ = some (.bool neg2)) (first | (with_reducible exact ⟨m3, m4⟩) | (with_reducible exact ⟨cell_far2 d1 m3, cell_far2 d2 m4⟩) | (with_reducible exact ⟨cell_far2 d3 m3, cell_far2 d4 m4⟩) | (with_reducible exact ⟨cell_far2 d3 (cell_far2 d1 m3), cell_far2 d4 (cell_far2 d2 m4)⟩) | (with_reducible exact ⟨cell_far2 d1 (cell_far2 d3 m3), cell_far2 d2 (cell_far2 d4 m4)⟩) | go_keep)
    (first
      | (go_at_call 89; (with_reducible refine (made_calls HRQ.out.drew HDQ.out (by omega)).mono ?_); rintro e w6 ⟨vq, rfl, hvq, hb6⟩; rw [HVQ.out] at hvq; simp only [World.size_drew] at hvq; have hb7 := undrew hb6; have HB6 := Shut.mk (bthen hbw hb7); have HR6 := Shut.mk (HRR.out.below hb7); have m1' := old_cell hb7 l0; have m2' := old_cell hb7 l2; have br6 := br.below hb7; have bs6 := bs.below hb7; have HSZ := Shut.mk hb7.size; clear hb6 hb7)
      | (go_at_call 89; (with_reducible refine (made_calls HR6.out HDR.out (by omega)).mono ?_); rintro e w7 ⟨vr, rfl, hvr, hb8⟩; rw [HVR.out] at hvr; have HB7 := Shut.mk (bthen HB6.out hb8); have HSZ2 := Shut.mk hb8.size; have hvq2 := hvq.below hb8; have m3 := old_cell hb8 m1'; have m4 := old_cell hb8 m2'; have br7 := br6.below hb8; have bs7 := bs6.below hb8; have r0 := br7.c0; have r1 := br7.c1; have r2 := br7.f0; have r3 := br7.f1; have s0 := bs7.c0; have s1 := bs7.c1; have s2 := bs7.f0; have s3 := bs7.f1; have HVq := Shut.mk hvq2; have HVr := Shut.mk hvr; obtain ⟨Aq, nq', cq, xq, rfl, hq⟩ := hvq2; obtain ⟨Ar, nr', cr, xr, rfl, hr⟩ := hvr; have HL := Shut.mk br.lt; have HL2 := Shut.mk bs.lt; have HG := Shut.mk br.ge; have HG2 := Shut.mk bs.ge; clear hb8 hq hr hvq br br6 br7 bs bs6 bs7))
  all_goals
    go_wp2
    refine bodyPost_ret (v := .tuple #[.agg #[.bool (decide ((sg neg (val 4294967296 xs')).tdiv (sg neg2 (val 4294967296 ys')) < 0)), .slice Aq nq' cq], .agg #[.bool (decide ((sg neg (val 4294967296 xs')).tmod (sg neg2 (val 4294967296 ys')) < 0)), .slice Ar nr' cr], .bool true]) (by simp [results, Tryz.results98, go_sem, r0, r1, s0, s1, d5, d6]) rfl ?_
    have z1 := HSZ.out
    have z2 := HSZ2.out
    have z3 := HL.out
    have z4 := HL2.out
    have z5 := HG.out
    have z6 := HG2.out
    have z7 := hbw.size
    first
    | exact ⟨_, _, rfl, ((HVq.out.two (by omega) _ _).two (by omega) _ _).mono z7, ((HVr.out.two (by omega) _ _).two (by omega) _ _).mono (by omega), below_two (below_two HB7.out z5 _ _) z6 _ _⟩
    | exact ⟨_, _, rfl, ((HVq.out.two (by omega) _ _).two (by omega) _ _).mono z7, ((HVr.out.two (by omega) _ _).two (by omega) _ _).mono (by omega), below_two (below_two HB7.out z6 _ _) z5 _ _⟩

set_option maxHeartbeats 4000000 in
set_option maxRecDepth 100000 in
theorem Quo_one {w : World} {neg neg2 : Bool} {A1 A2 : Option Addr} {n1 c1 n2 c2 : Nat} {xs ys : List Int} (hx : RdS w .u32 A1 n1 c1 xs) (hy : RdS w .u32 A2 n2 c2 ys) (dx : Dgs 4294967296 xs) (dy : Dgs 4294967296 ys) (hl : n1 ≤ 4294967296) (hl2 : n2 ≤ 4294967296) (hy0 : 0 < val 4294967296 ys) (hle : val 4294967296 ys ≤ val 4294967296 xs) (h1d : nlen ys n2 = 1) :
    Calls Tryz.prog 98 #[.agg #[.bool neg, .slice A1 n1 c1], .agg #[.bool neg2, .slice A2 n2 c2]] w (QuoRes w (sg neg (val 4294967296 xs)) (sg neg2 (val 4294967296 ys))) := by
  obtain ⟨hbW, ba, bb, br, bs⟩ := box4_facts w 24 24 24 24 (.bool neg) (.slice A1 n1 c1) (.bool neg2) (.slice A2 n2 c2) (.bool false) (.slice none 0 0) (.bool false) (.slice none 0 0)
  have hx1 := hx.below hbW
  have hy1 := hy.below hbW
  obtain ⟨m1, xs', hx', dx', hm1, hv1, hn1, hnl1⟩ := nrm_of hx1 dx
  obtain ⟨m2, ys', hy', dy', hm2, hv2, hn2, hnl2⟩ := nrm_of hy1 dy
  have HN1 := Shut.mk hnl1
  have HN2 := Shut.mk hnl2
  rw [← quo_goal hv1 hv2]
  rw [← hv2] at hy0
  have hX0 := val_nonneg (by omega) dx'
  rw [← hv1, ← hv2] at hle
  have hlen12 : m2 ≤ m1 := by
    rcases Nat.lt_or_ge m1 m2 with h | h
    · have := hn2.lt_of_len (B := 4294967296) (by omega) dx' dy' (by rw [hx'.len, hy'.len]; exact h)
      omega
    · exact h
  obtain ⟨z, hz, hz0⟩ : ∃ z, cmpI (val 4294967296 xs') (val 4294967296 ys') = z ∧ 0 ≤ z := by
    refine ⟨_, rfl, ?_⟩
    unfold cmpI; split <;> (try split) <;> omega
  have HC := Shut.mk hz
  have HQ : Shut (sg (!(neg == neg2)) (val 4294967296 xs' / val 4294967296 ys') = (sg neg (val 4294967296 xs')).tdiv (sg neg2 (val 4294967296 ys'))) := ⟨quo_sg hX0 hy0 neg neg2⟩
  have HR : Shut (sg neg (val 4294967296 xs' % val 4294967296 ys') = (sg neg (val 4294967296 xs')).tmod (sg neg2 (val 4294967296 ys'))) := ⟨rem_sg hX0 hy0 neg neg2⟩
  clear hz hle
  have hm2 : m2 = 1 := by rw [← hnl2]; exact h1d
  clear h1d
  have HY0 := Shut.mk hy0
  have HX0 := Shut.mk hX0
  have hl2p : 0 < m2 := by
    rcases Nat.eq_zero_or_pos m2 with h | h
    · have e := hy'.len
      rw [h] at e
      rw [List.eq_nil_of_length_eq_zero e] at hy0
      simp [val] at hy0
    · exact h
  clear hnl1 hnl2 hv1 hv2 hy0 hX0
  have b1 := hx'.big
  have b2 := hx'.cap
  have b3 := hy'.big
  have b4 := hy'.cap
  go_enter Tryz.func98, Tryz.ntmps98
  go_wp2_with fail
  change Code.wp _ _ _ _ (box4 w 24 24 24 24 (.bool neg) (.slice A1 n1 c1) (.bool neg2) (.slice A2 n2 c2) (.bool false) (.slice none 0 0) (.bool false) (.slice none 0 0))
  generalize box4 w 24 24 24 24 (.bool neg) (.slice A1 n1 c1) (.bool neg2) (.slice A2 n2 c2) (.bool false) (.slice none 0 0) (.bool false) (.slice none 0 0) = W at *
  have o1 : w.heap.size < w.heap.size + 1 := by omega
  have o2 : w.heap.size + 1 < w.heap.size + 1 + 1 := by omega
  have o3 : w.heap.size + 1 + 1 < w.heap.size + 1 + 1 + 1 := by omega
  generalize w.heap.size + 1 + 1 + 1 = s at *
  generalize w.heap.size + 1 + 1 = r at *
  generalize w.heap.size + 1 = q at *
  generalize hp : w.heap.size = p at ba o1 ⊢
  clear hp
  have d1 : ¬ p = r := by omega
  have d2 : ¬ q = r := by omega
  have d3 : ¬ p = s := by omega
  have d4 : ¬ q = s := by omega
  have d5 : ¬ s = r := by omega
  have d6 : ¬ r = s := by omega
  have l0 := ba.c0
  have l1 := ba.c1
  have l2 := bb.c0
  have l3 := bb.c1
  go_region_held3 (fun w' => w'.cell? ⟨p, 1, none⟩ = some (.slice A1 n1 c1) ∧ w'.cell? ⟨q, 1, none⟩ = some (.slice A2 n2 c2)) (first | go_keep)
    (first
      | (go_at_call 91; (first | (with_reducible refine (norm_calls hx1.drew).mono ?_) | (with_reducible refine (norm_calls hy1.drew).mono ?_)); rintro e w1 ⟨rfl, rfl⟩; (first | rw [HN1.out] | rw [HN2.out])))
  have hx2 := hx'.drew
  have hy2 := hy'.drew
  subst hm2
  have hlen := Shut.mk hy'.len
  have HY1 : Shut (val 4294967296 ys' = dg ys' 0) := ⟨by
    have e : ys' = ys'.take 1 := by rw [List.take_of_length_le (by rw [hlen.out]; omega)]
    have e2 := val_take_succ 4294967296 ys' 0
    rw [← e] at e2
    rw [e2]; simp [val]⟩
  have hdy0 := dg_lt (by omega) dy' 0
  have hdy1 : 0 < dg ys' 0 := by have := HY0.out; rw [HY1.out] at this; exact this
  have h1 : (1 == 0) = false := by rfl
  have h2 : ((1 : Int) == 0) = false := by rfl
  go_wp2_with fail
  refine (order_b hx2 hy2 dx' dy').mono ?_
  rintro e w3 ⟨he, hb'⟩
  rw [HC.out] at he
  subst he
  have hb := undrew hb'
  have hx3 := hx'.below hb
  have hy3 := hy'.below hb
  replace ba := ba.below hb
  replace bb := bb.below hb
  replace br := br.below hb
  replace bs := bs.below hb
  have hbw := bthen hbW hb
  clear hb hb' l0 l1 l2 l3 hbW hx2 hy2
  go_wp2_with fail
  refine (clone_calls hx3 (by omega)).mono ?_
  rintro e w4 ⟨v, nq, os, rfl, hrow, hos, hnq, hb4⟩
  rw [hos] at hrow
  clear hos
  have hxl := hx'.len
  have hr1 := hrow.1
  rw [List.length_map, hxl, Nat.mul_one] at hr1
  rcases hrow.2 with ⟨rfl, hn0⟩ | ⟨g, cap, cur, rfl, hg, hrest⟩
  · omega
  · have own := OwnS.of_row hrow rfl
    subst hr1
    clear hrest hrow
    obtain ⟨ad, rfl, hc⟩ := (hy3.below hb4).cell 0 (by omega)
    rw [addr_add_zero] at hc
    have hg5 : w3.heap.size ≤ g := hg
    have f1 := br.lt
    have f2 := bs.lt
    have f3 := ba.lt
    have f4 := bb.lt
    replace ba := ba.below hb4
    replace bb := bb.below hb4
    replace br := br.below hb4
    replace bs := bs.below hb4
    replace hbw := bthen hbw hb4
    have hgw : w.heap.size ≤ g := by have := ba.ge; omega
    go_wp2_with fail
    refine (shrink_calls own dx' hdy1 (by omega)).mono ?_
    rintro e w5 ⟨qs, rfl, own5, dq, hvq5, ho5⟩
    replace ba := ba.only ho5 (by omega)
    replace bb := bb.only ho5 (by omega)
    replace br := br.only ho5 (by omega)
    replace bs := bs.only ho5 (by omega)
    replace hbw := ho5.below hbw hgw
    have HVQ : Shut (sg (!(neg == neg2)) (val 4294967296 qs) = (sg neg (val 4294967296 xs')).tdiv (sg neg2 (val 4294967296 ys'))) := ⟨by rw [hvq5, ← HQ.out, HY1.out]⟩
    have HVR : Shut (sg neg (val 4294967296 [val 4294967296 xs' % dg ys' 0]) = (sg neg (val 4294967296 xs')).tmod (sg neg2 (val 4294967296 ys'))) := ⟨by rw [← HR.out, HY1.out]; simp [val]⟩
    have HDQ := Shut.mk dq
    have HDR : Shut (Dgs 4294967296 [val 4294967296 xs' % dg ys' 0]) := ⟨Dgs.cons.2 ⟨⟨Int.emod_nonneg _ (by omega), by have := Int.emod_lt_of_pos (val 4294967296 xs') hdy1; omega⟩, Dgs.nil _⟩⟩
    clear own ho5 hvq5 f1 f2 f3 f4 hdy0 hdy1 hc
    go_wp2_with fail
    generalize val 4294967296 xs' % dg ys' 0 = rest at *
    have HRR := Shut.mk (rd_one w5 .u32 73 rest)
    have ha := alloc_below w5 (.cells #[.int .u32 rest] 73)
    have HRQ := Shut.mk (own5.rd.below ha)
    replace ba := ba.below ha
    replace bb := bb.below ha
    replace br := br.below ha
    replace bs := bs.below ha
    replace hbw := bthen hbw ha
    clear ha own5
    change Code.wp _ _ _ _ (w5.alloc (.cells #[.int .u32 rest] 73))
    generalize w5.heap.size = g9 at *
    generalize w5.alloc (.cells #[.int .u32 rest] 73) = w5x at *
    have l0 := ba.c0
    have l2 := bb.c0
    go_region_held3 (fun w' => w'.cell? ⟨p, 0, none⟩ = some (.bool neg) ∧ w'.cell? ⟨q, 0, none⟩ = some (.bool neg2)) (first | (with_reducible exact ⟨m3, m4⟩) | (with_reducible exact ⟨cell_far2 d1 m3, cell_far2 d2 m4⟩) | (with_reducible exact ⟨cell_far2 d3 m3, cell_far2 d4 m4⟩) | (with_reducible exact ⟨cell_far2 d3 (cell_far2 d1 m3), cell_far2 d4 (cell_far2 d2 m4)⟩) | (with_reducible exact ⟨cell_far2 d1 (cell_far2 d3 m3), cell_far2 d2 (cell_far2 d4 m4)⟩) | go_keep)
      (first
        | (go_at_call 89; (with_reducible refine (made_calls HRQ.out.drew HDQ.out (by omega)).mono ?_); rintro e w6 ⟨vq, rfl, hvq, hb6⟩; rw [HVQ.out] at hvq; simp only [World.size_drew] at hvq; have hb7 := undrew hb6; have HB6 := Shut.mk (bthen hbw hb7); have HR6 := Shut.mk (HRR.out.below hb7); have m1' := old_cell hb7 l0; have m2' := old_cell hb7 l2; have br6 := br.below hb7; have bs6 := bs.below hb7; have HSZ := Shut.mk hb7.size; clear hb6 hb7)
        | (go_at_call 89; (with_reducible refine (made_calls HR6.out HDR.out (by omega)).mono ?_); rintro e w7 ⟨vr, rfl, hvr, hb8⟩; rw [HVR.out] at hvr; have HB7 := Shut.mk (bthen HB6.out hb8); have HSZ2 := Shut.mk hb8.size; have hvq2 := hvq.below hb8; have m3 := old_cell hb8 m1'; have m4 := old_cell hb8 m2'; have br7 := br6.below hb8; have bs7 := bs6.below hb8; have r0 := br7.c0; have r1 := br7.c1; have r2 := br7.f0; have r3 := br7.f1; have s0 := bs7.c0; have s1 := bs7.c1; have s2 := bs7.f0; have s3 := bs7.f1; have HVq := Shut.mk hvq2; have HVr := Shut.mk hvr; obtain ⟨Aq, nq', cq, xq, rfl, hq⟩ := hvq2; obtain ⟨Ar, nr', cr, xr, rfl, hr⟩ := hvr; have HL := Shut.mk br.lt; have HL2 := Shut.mk bs.lt; have HG := Shut.mk br.ge; have HG2 := Shut.mk bs.ge; clear hb8 hq hr hvq br br6 br7 bs bs6 bs7))
    all_goals
      go_wp2
      refine bodyPost_ret (v := .tuple #[.agg #[.bool (decide ((sg neg (val 4294967296 xs')).tdiv (sg neg2 (val 4294967296 ys')) < 0)), .slice Aq nq' cq], .agg #[.bool (decide ((sg neg (val 4294967296 xs')).tmod (sg neg2 (val 4294967296 ys')) < 0)), .slice Ar nr' cr], .bool true]) (by simp [results, Tryz.results98, go_sem, r0, r1, s0, s1, d5, d6]) rfl ?_
      have z1 := HSZ.out
      have z2 := HSZ2.out
      have z3 := HL.out
      have z4 := HL2.out
      have z5 := HG.out
      have z6 := HG2.out
      have z7 := hbw.size
      first
      | exact ⟨_, _, rfl, ((HVq.out.two (by omega) _ _).two (by omega) _ _).mono z7, ((HVr.out.two (by omega) _ _).two (by omega) _ _).mono (by omega), below_two (below_two HB7.out z5 _ _) z6 _ _⟩
      | exact ⟨_, _, rfl, ((HVq.out.two (by omega) _ _).two (by omega) _ _).mono z7, ((HVr.out.two (by omega) _ _).two (by omega) _ _).mono (by omega), below_two (below_two HB7.out z6 _ _) z5 _ _⟩

set_option maxHeartbeats 4000000 in
set_option maxRecDepth 100000 in
theorem Quo_many {w : World} {neg neg2 : Bool} {A1 A2 : Option Addr} {n1 c1 n2 c2 : Nat} {xs ys : List Int} (hx : RdS w .u32 A1 n1 c1 xs) (hy : RdS w .u32 A2 n2 c2 ys) (dx : Dgs 4294967296 xs) (dy : Dgs 4294967296 ys) (hl : n1 ≤ 4294967296) (hl2 : n2 ≤ 4294967296) (hy0 : 0 < val 4294967296 ys) (hle : val 4294967296 ys ≤ val 4294967296 xs) (h1d : nlen ys n2 ≠ 1) :
    Calls Tryz.prog 98 #[.agg #[.bool neg, .slice A1 n1 c1], .agg #[.bool neg2, .slice A2 n2 c2]] w (QuoRes w (sg neg (val 4294967296 xs)) (sg neg2 (val 4294967296 ys))) := by
  obtain ⟨hbW, ba, bb, br, bs⟩ := box4_facts w 24 24 24 24 (.bool neg) (.slice A1 n1 c1) (.bool neg2) (.slice A2 n2 c2) (.bool false) (.slice none 0 0) (.bool false) (.slice none 0 0)
  have hx1 := hx.below hbW
  have hy1 := hy.below hbW
  obtain ⟨m1, xs', hx', dx', hm1, hv1, hn1, hnl1⟩ := nrm_of hx1 dx
  obtain ⟨m2, ys', hy', dy', hm2, hv2, hn2, hnl2⟩ := nrm_of hy1 dy
  have HN1 := Shut.mk hnl1
  have HN2 := Shut.mk hnl2
  rw [← quo_goal hv1 hv2]
  rw [← hv2] at hy0
  have hX0 := val_nonneg (by omega) dx'
  rw [← hv1, ← hv2] at hle
  have hlen12 : m2 ≤ m1 := by
    rcases Nat.lt_or_ge m1 m2 with h | h
    · have := hn2.lt_of_len (B := 4294967296) (by omega) dx' dy' (by rw [hx'.len, hy'.len]; exact h)
      omega
    · exact h
  obtain ⟨z, hz, hz0⟩ : ∃ z, cmpI (val 4294967296 xs') (val 4294967296 ys') = z ∧ 0 ≤ z := by
    refine ⟨_, rfl, ?_⟩
    unfold cmpI; split <;> (try split) <;> omega
  have HC := Shut.mk hz
  have HQ : Shut (sg (!(neg == neg2)) (val 4294967296 xs' / val 4294967296 ys') = (sg neg (val 4294967296 xs')).tdiv (sg neg2 (val 4294967296 ys'))) := ⟨quo_sg hX0 hy0 neg neg2⟩
  have HR : Shut (sg neg (val 4294967296 xs' % val 4294967296 ys') = (sg neg (val 4294967296 xs')).tmod (sg neg2 (val 4294967296 ys'))) := ⟨rem_sg hX0 hy0 neg neg2⟩
  clear hz hle
  have hm2 : m2 ≠ 1 := by rw [← hnl2]; exact h1d
  clear h1d
  have HY0 := Shut.mk hy0
  have HX0 := Shut.mk hX0
  have hl2p : 0 < m2 := by
    rcases Nat.eq_zero_or_pos m2 with h | h
    · have e := hy'.len
      rw [h] at e
      rw [List.eq_nil_of_length_eq_zero e] at hy0
      simp [val] at hy0
    · exact h
  clear hnl1 hnl2 hv1 hv2 hy0 hX0
  have b1 := hx'.big
  have b2 := hx'.cap
  have b3 := hy'.big
  have b4 := hy'.cap
  go_enter Tryz.func98, Tryz.ntmps98
  go_wp2_with fail
  change Code.wp _ _ _ _ (box4 w 24 24 24 24 (.bool neg) (.slice A1 n1 c1) (.bool neg2) (.slice A2 n2 c2) (.bool false) (.slice none 0 0) (.bool false) (.slice none 0 0))
  generalize box4 w 24 24 24 24 (.bool neg) (.slice A1 n1 c1) (.bool neg2) (.slice A2 n2 c2) (.bool false) (.slice none 0 0) (.bool false) (.slice none 0 0) = W at *
  have o1 : w.heap.size < w.heap.size + 1 := by omega
  have o2 : w.heap.size + 1 < w.heap.size + 1 + 1 := by omega
  have o3 : w.heap.size + 1 + 1 < w.heap.size + 1 + 1 + 1 := by omega
  generalize w.heap.size + 1 + 1 + 1 = s at *
  generalize w.heap.size + 1 + 1 = r at *
  generalize w.heap.size + 1 = q at *
  generalize hp : w.heap.size = p at ba o1 ⊢
  clear hp
  have d1 : ¬ p = r := by omega
  have d2 : ¬ q = r := by omega
  have d3 : ¬ p = s := by omega
  have d4 : ¬ q = s := by omega
  have d5 : ¬ s = r := by omega
  have d6 : ¬ r = s := by omega
  have l0 := ba.c0
  have l1 := ba.c1
  have l2 := bb.c0
  have l3 := bb.c1
  go_region_held3 (fun w' => w'.cell? ⟨p, 1, none⟩ = some (.slice A1 n1 c1) ∧ w'.cell? ⟨q, 1, none⟩ = some (.slice A2 n2 c2)) (first | go_keep)
    (first
      | (go_at_call 91; (first | (with_reducible refine (norm_calls hx1.drew).mono ?_) | (with_reducible refine (norm_calls hy1.drew).mono ?_)); rintro e w1 ⟨rfl, rfl⟩; (first | rw [HN1.out] | rw [HN2.out])))
  have hx2 := hx'.drew
  have hy2 := hy'.drew
  have h1 : (m2 == 0) = false := by simp; omega
  have h2 : ((m2 : Int) == 0) = false := by simp; omega
  go_wp2_with fail
  refine (order_b hx2 hy2 dx' dy').mono ?_
  rintro e w3 ⟨he, hb'⟩
  rw [HC.out] at he
  subst he
  have hb := undrew hb'
  have hx3 := hx'.below hb
  have hy3 := hy'.below hb
  replace ba := ba.below hb
  replace bb := bb.below hb
  replace br := br.below hb
  replace bs := bs.below hb
  have hbw := bthen hbW hb
  clear hb hb' l0 l1 l2 l3 hbW hx2 hy2
  obtain ⟨m, rfl⟩ : ∃ m, m2 = m + 1 := ⟨m2 - 1, by omega⟩
  have h3 : ((m + 1 : Nat) == 1) = false := by simp; omega
  have h4 : (((m + 1 : Nat) : Int) == 1) = false := by simp; omega
  have h5 : ((m : Int) + 1 == 1) = false := by simp; omega
  have h6 : (m == 0) = false := by simp; omega
  clear hm2
  go_wp2_with fail
  refine (divide_calls hx3 hy3 dx' dy' hn2 hlen12 (by omega)).mono ?_
  rintro e w5 ⟨g1, k1, kk1, qs, g2, k2, kk2, os, rfl, hg1, hg2, own1, own2, dq, dr, hvq5, hvr5, hk1, hk2, hb5⟩
  have HRQ := Shut.mk own1.rd
  have HRR := Shut.mk own2.rd
  have HVQ : Shut (sg (!(neg == neg2)) (val 4294967296 qs) = (sg neg (val 4294967296 xs')).tdiv (sg neg2 (val 4294967296 ys'))) := ⟨by rw [hvq5, ← HQ.out]⟩
  have HVR : Shut (sg neg (val 4294967296 os) = (sg neg (val 4294967296 xs')).tmod (sg neg2 (val 4294967296 ys'))) := ⟨by rw [hvr5, ← HR.out]⟩
  have HDQ := Shut.mk dq
  have HDR := Shut.mk dr
  replace ba := ba.below hb5
  replace bb := bb.below hb5
  replace br := br.below hb5
  replace bs := bs.below hb5
  replace hbw := bthen hbw hb5
  clear hb5 hvq5 hvr5 own1 own2 hg1 hg2
  have l0 := ba.c0
  have l2 := bb.c0
  go_wp2_with fail
  go_region_held3 (fun w' => w'.cell? ⟨p, 0, none⟩ = some (.bool neg) ∧ w'.cell? ⟨q, 0, none⟩ = some (.bool neg2)) (first | (with_reducible exact ⟨m3, m4⟩) | (with_reducible exact ⟨cell_far2 d1 m3, cell_far2 d2 m4⟩) | (with_reducible exact ⟨cell_far2 d3 m3, cell_far2 d4 m4⟩) | (with_reducible exact ⟨cell_far2 d3 (cell_far2 d1 m3), cell_far2 d4 (cell_far2 d2 m4)⟩) | (with_reducible exact ⟨cell_far2 d1 (cell_far2 d3 m3), cell_far2 d2 (cell_far2 d4 m4)⟩) | go_keep)
    (first
      | (go_at_call 89; (with_reducible refine (made_calls HRQ.out.drew HDQ.out (by omega)).mono ?_); rintro e w6 ⟨vq, rfl, hvq, hb6⟩; rw [HVQ.out] at hvq; simp only [World.size_drew] at hvq; have hb7 := undrew hb6; have HB6 := Shut.mk (bthen hbw hb7); have HR6 := Shut.mk (HRR.out.below hb7); have m1' := old_cell hb7 l0; have m2' := old_cell hb7 l2; have br6 := br.below hb7; have bs6 := bs.below hb7; have HSZ := Shut.mk hb7.size; clear hb6 hb7)
      | (go_at_call 89; (with_reducible refine (made_calls HR6.out HDR.out (by omega)).mono ?_); rintro e w7 ⟨vr, rfl, hvr, hb8⟩; rw [HVR.out] at hvr; have HB7 := Shut.mk (bthen HB6.out hb8); have HSZ2 := Shut.mk hb8.size; have hvq2 := hvq.below hb8; have m3 := old_cell hb8 m1'; have m4 := old_cell hb8 m2'; have br7 := br6.below hb8; have bs7 := bs6.below hb8; have r0 := br7.c0; have r1 := br7.c1; have r2 := br7.f0; have r3 := br7.f1; have s0 := bs7.c0; have s1 := bs7.c1; have s2 := bs7.f0; have s3 := bs7.f1; have HVq := Shut.mk hvq2; have HVr := Shut.mk hvr; obtain ⟨Aq, nq', cq, xq, rfl, hq⟩ := hvq2; obtain ⟨Ar, nr', cr, xr, rfl, hr⟩ := hvr; have HL := Shut.mk br.lt; have HL2 := Shut.mk bs.lt; have HG := Shut.mk br.ge; have HG2 := Shut.mk bs.ge; clear hb8 hq hr hvq br br6 br7 bs bs6 bs7))
  all_goals
    go_wp2
    refine bodyPost_ret (v := .tuple #[.agg #[.bool (decide ((sg neg (val 4294967296 xs')).tdiv (sg neg2 (val 4294967296 ys')) < 0)), .slice Aq nq' cq], .agg #[.bool (decide ((sg neg (val 4294967296 xs')).tmod (sg neg2 (val 4294967296 ys')) < 0)), .slice Ar nr' cr], .bool true]) (by simp [results, Tryz.results98, go_sem, r0, r1, s0, s1, d5, d6]) rfl ?_
    have z1 := HSZ.out
    have z2 := HSZ2.out
    have z3 := HL.out
    have z4 := HL2.out
    have z5 := HG.out
    have z6 := HG2.out
    have z7 := hbw.size
    first
    | exact ⟨_, _, rfl, ((HVq.out.two (by omega) _ _).two (by omega) _ _).mono z7, ((HVr.out.two (by omega) _ _).two (by omega) _ _).mono (by omega), below_two (below_two HB7.out z5 _ _) z6 _ _⟩
    | exact ⟨_, _, rfl, ((HVq.out.two (by omega) _ _).two (by omega) _ _).mono z7, ((HVr.out.two (by omega) _ _).two (by omega) _ _).mono (by omega), below_two (below_two HB7.out z6 _ _) z5 _ _⟩

theorem Quo_calls {w : World} {v v' : Value} {x y : Int} (hx : BV w v x) (hy : BV w v' y) (h0 : y ≠ 0) : Calls Tryz.prog 98 #[v, v'] w (QuoRes w x y) := by
  obtain ⟨neg, A1, n1, c1, xs, rfl, hr, dx, hl, rfl⟩ := hx
  obtain ⟨neg2, A2, n2, c2, ys, rfl, hr2, dy, hl2, rfl⟩ := hy
  have hp : 0 < val 4294967296 ys := by
    have := val_nonneg (by omega) dy
    rcases Int.lt_or_eq_of_le this with h | h
    · exact h
    · exfalso; apply h0; rw [← h]; unfold sg; cases neg2 <;> rfl
  by_cases hlt : val 4294967296 xs < val 4294967296 ys
  · exact Quo_lt hr hr2 dx dy hl hl2 hp hlt
  · by_cases h1 : nlen ys n2 = 1
    · exact Quo_one hr hr2 dx dy hl hl2 hp (by omega) h1
    · exact Quo_many hr hr2 dx dy hl hl2 hp (by omega) h1

end Go.Proofs.YtjeaakkbkjhldaaGreatDoor

set_option linter.unusedVariables false
set_option linter.unusedSimpArgs false
namespace Go.Proofs.YtjeaakkbkjhldaaGreatDoor
open Go.RowKit

/-- the parts of a number, its digits apart from the blocks from lo to hi -/
def BVa (lo hi : Nat) (w : World) (neg : Bool) (A : Option Addr) (n c : Nat) (z : Int) : Prop :=
  ∃ xs, RdS w .u32 A n c xs ∧ Dgs 4294967296 xs ∧ n ≤ 4294967296 ∧ z = sg neg (val 4294967296 xs) ∧ ∀ ad, A = some ad → 0 < n → ad.block < lo ∨ hi ≤ ad.block
theorem BVa.bv {lo hi : Nat} {w : World} {neg : Bool} {A : Option Addr} {n c : Nat} {z : Int} (h : BVa lo hi w neg A n c z) : BV w (.agg #[.bool neg, .slice A n c]) z := by
  obtain ⟨xs, h1, h2, h3, h4, _⟩ := h
  exact ⟨neg, A, n, c, xs, rfl, h1, h2, h3, h4⟩
theorem BVa.below {lo hi : Nat} {w w1 : World} {neg : Bool} {A : Option Addr} {n c : Nat} {z : Int} (h : BVa lo hi w neg A n c z) (hb : Below w.heap.size w w1) : BVa lo hi w1 neg A n c z := by
  obtain ⟨xs, h1, h2⟩ := h
  exact ⟨xs, h1.below hb, h2⟩
theorem BVa.drew {lo hi : Nat} {w : World} {neg : Bool} {A : Option Addr} {n c : Nat} {z : Int} (h : BVa lo hi w neg A n c z) : BVa lo hi w.drew neg A n c z := h.below ⟨rfl, rfl, rfl, Nat.le_refl _, fun _ _ => rfl⟩
theorem BVa.set {lo hi : Nat} {w : World} {neg : Bool} {A : Option Addr} {n c : Nat} {z : Int} (h : BVa lo hi w neg A n c z) {p : Addr} (h1 : lo ≤ p.block) (h2 : p.block < hi) (u : Value) : BVa lo hi (w.setCell p u) neg A n c z := by
  obtain ⟨xs, h3, h4, h5, h6, h7⟩ := h
  refine ⟨xs, ⟨h3.len, h3.cap, h3.big, fun j hj => ?_⟩, h4, h5, h6, h7⟩
  obtain ⟨ad, rfl, hc⟩ := h3.cell j hj
  refine ⟨ad, rfl, ?_⟩
  have := h7 ad rfl (by omega)
  rw [World.cell?_of_block (w := w) (heap_setCell_other w p _ u (by rw [addr_add_block]; omega))]
  exact hc
theorem BVa.abs {lo hi : Nat} {w : World} {neg : Bool} {A : Option Addr} {n c : Nat} {z : Int} (h : BVa lo hi w neg A n c z) : BVa lo hi w false A n c z.natAbs := by
  obtain ⟨xs, h1, h2, h3, rfl, h5⟩ := h
  refine ⟨xs, h1, h2, h3, ?_, h5⟩
  rw [natAbs_sg neg (val_nonneg (by omega) h2)]; rfl
theorem BV.split {w w1 : World} {v : Value} {z : Int} (h : BV w v z) (hi : Nat) (hb : Below w.heap.size w w1) : ∃ neg A n c, v = .agg #[.bool neg, .slice A n c] ∧ BVa w.heap.size hi w1 neg A n c z := by
  obtain ⟨neg, A, n, c, xs, rfl, h1, h2, h3, h4⟩ := h
  refine ⟨neg, A, n, c, rfl, xs, h1.below hb, h2, h3, h4, fun ad e hn => .inl ?_⟩
  obtain ⟨ad', e', hc⟩ := h1.cell 0 hn
  rw [e] at e'; cases e'
  have := World.block_lt_of_cell? w _ hc
  rw [addr_add_block] at this; exact this
theorem NBV.split {B : Nat} {w : World} {v : Value} {z : Int} (h : NBV B w v z) (lo : Nat) {hi : Nat} (hB : hi ≤ B) {k : Nat} (hz : Sm k z) (hk : k ≤ 137438953472) : ∃ neg A n c, v = .agg #[.bool neg, .slice A n c] ∧ BVa lo hi w neg A n c z ∧ ∀ ad, A = some ad → B ≤ ad.block := by
  have hbv := h.bv hz hk
  obtain ⟨neg, A, n, c, xs, rfl, h1, h2, h3, h4⟩ := hbv
  obtain ⟨A', n', c', xs', e, _, _, _, _, h9⟩ := h
  simp only [Value.agg.injEq, Array.mk.injEq, List.cons.injEq, Value.bool.injEq, Value.slice.injEq, and_true] at e
  obtain ⟨_, rfl, rfl, rfl⟩ := e
  exact ⟨neg, A, n, c, rfl, ⟨xs, h1, h2, h3, h4, fun ad e _ => .inr (Nat.le_trans hB (h9 ad e))⟩, h9⟩

/-- an address apart from the blocks from lo to hi -/
def Ap (lo hi : Nat) (A : Option Addr) (n : Nat) : Prop := ∀ ad, A = some ad → 0 < n → ad.block < lo ∨ hi ≤ ad.block
theorem BVa.ap {lo hi : Nat} {w : World} {neg : Bool} {A : Option Addr} {n c : Nat} {z : Int} (h : BVa lo hi w neg A n c z) : Ap lo hi A n := h.choose_spec.2.2.2.2
theorem BVa.re {lo hi lo' hi' : Nat} {w : World} {neg : Bool} {A : Option Addr} {n c : Nat} {z : Int} (h : BVa lo hi w neg A n c z) (ha : Ap lo' hi' A n) : BVa lo' hi' w neg A n c z := by
  obtain ⟨xs, h1, h2, h3, h4, _⟩ := h
  exact ⟨xs, h1, h2, h3, h4, ha⟩
theorem BV.apart {w : World} {neg : Bool} {A : Option Addr} {n c : Nat} {z : Int} (h : BV w (.agg #[.bool neg, .slice A n c]) z) (hi : Nat) : Ap w.heap.size hi A n := by
  obtain ⟨neg', A', n', c', e, h0⟩ := h.split hi (Below.refl _ _)
  simp only [Value.agg.injEq, Array.mk.injEq, List.cons.injEq, Value.bool.injEq, Value.slice.injEq, and_true] at e
  obtain ⟨rfl, rfl, rfl, rfl⟩ := e
  exact h0.ap
/-- two stores into a box of two cells make it anew -/
theorem Box.put {w W : World} {p : Nat} {a0 a1 : Value} (h : Box w W p a0 a1) (u v : Value) : Box w ((W.setCell ⟨p, 0, none⟩ u).setCell ⟨p, 1, none⟩ v) p u v := by
  have e1 : (W.setCell ⟨p, 0, none⟩ u).cell? ⟨p, 1, none⟩ = some a1 := (World.cell?_setCell_other _ _ _ _ (by simp)).trans h.c1
  refine ⟨h.ge, by simpa using h.lt, ?_, World.cell?_setCell_same _ _ _ e1, ?_, ?_⟩
  · exact (World.cell?_setCell_other _ _ _ _ (by simp)).trans (World.cell?_setCell_same _ _ _ h.c0)
  · rw [World.frozen?_setCell, World.frozen?_setCell]; exact h.f0
  · rw [World.frozen?_setCell, World.frozen?_setCell]; exact h.f1
theorem Box.two {w W : World} {p : Nat} {a0 a1 : Value} (h : Box w W p a0 a1) {g i j : Nat} (hg : ¬ p = g) (u v : Value) : Box w ((W.setCell ⟨g, i, none⟩ u).setCell ⟨g, j, none⟩ v) p a0 a1 := (h.set hg u).set hg v
theorem BVa.two {lo hi : Nat} {w : World} {neg : Bool} {A : Option Addr} {n c : Nat} {z : Int} (h : BVa lo hi w neg A n c z) {p i j : Nat} (h1 : lo ≤ p) (h2 : p < hi) (u v : Value) : BVa lo hi ((w.setCell ⟨p, i, none⟩ u).setCell ⟨p, j, none⟩ v) neg A n c z := (h.set (p := ⟨p, i, none⟩) h1 h2 u).set (p := ⟨p, j, none⟩) h1 h2 v
theorem Box.drew {w W : World} {p : Nat} {a0 a1 : Value} (h : Box w W p a0 a1) : Box w W.drew p a0 a1 := h.below ⟨rfl, rfl, rfl, Nat.le_refl _, fun _ _ => rfl⟩

theorem gcd_tmod (x y : Int) : Int.gcd y (x.tmod y) = Int.gcd x y := by
  unfold Int.gcd
  rw [Int.natAbs_tmod, Nat.gcd_comm, ← Nat.gcd_rec, Nat.gcd_comm]

end Go.Proofs.YtjeaakkbkjhldaaGreatDoor

set_option linter.unusedVariables false
set_option linter.unusedSimpArgs false
namespace Go.Proofs.YtjeaakkbkjhldaaGreatDoor
open Go.RowKit

def GcdRes (lo' hi' : Nat) (w : World) (x y : Int) (en : Ending) (w' : World) : Prop := ∃ A n c, en = .returned (.agg #[.bool false, .slice A n c]) ∧ BVa lo' hi' w' false A n c (Int.gcd x y) ∧ Below w.heap.size w w'

set_option maxHeartbeats 4000000 in
set_option maxRecDepth 100000 in
theorem gcd_calls {w : World} {lo' hi' : Nat} {neg neg2 : Bool} {A1 A2 : Option Addr} {n1 c1 n2 c2 : Nat} {x y : Int} {k : Nat} (hx : BVa lo' hi' w neg A1 n1 c1 x) (hy : BVa lo' hi' w neg2 A2 n2 c2 y) (hh : hi' ≤ w.heap.size) (sx : Sm k x) (sy : Sm k y) (hk : k ≤ 137438953472) :
    Calls Tryz.prog 97 #[.agg #[.bool neg, .slice A1 n1 c1], .agg #[.bool neg2, .slice A2 n2 c2]] w (GcdRes lo' hi' w x y) := by
  have HA := Shut.mk (And.intro hx.ap hy.ap)
  have hx0 := hx.re (hx.bv.apart (w.heap.size + 1 + 1 + 1))
  have hy0 := hy.re (hy.bv.apart (w.heap.size + 1 + 1 + 1))
  obtain ⟨hbW, ba, bb, br⟩ := box3_facts w 24 24 24 (.bool neg) (.slice A1 n1 c1) (.bool neg2) (.slice A2 n2 c2) (.bool false) (.slice none 0 0)
  have hx1 := hx0.below hbW
  have hy1 := hy0.below hbW
  clear hx hy hx0 hy0
  go_enter Tryz.func97, Tryz.ntmps97
  go_wp2_with fail
  change Code.wp _ _ _ _ (box3 w 24 24 24 (.bool neg) (.slice A1 n1 c1) (.bool neg2) (.slice A2 n2 c2) (.bool false) (.slice none 0 0))
  generalize box3 w 24 24 24 (.bool neg) (.slice A1 n1 c1) (.bool neg2) (.slice A2 n2 c2) (.bool false) (.slice none 0 0) = W at *
  have o1 : w.heap.size < w.heap.size + 1 := by omega
  have o2 : w.heap.size + 1 < w.heap.size + 1 + 1 := by omega
  have o3 : w.heap.size + 1 + 1 < w.heap.size + 1 + 1 + 1 := by omega
  have o4 : w.heap.size + 1 + 1 + 1 ≤ w.heap.size + 1 + 1 + 1 := by omega
  obtain ⟨hi, hhi0, o5⟩ : ∃ hi, w.heap.size + 1 + 1 + 1 = hi ∧ hi ≤ w.heap.size + 1 + 1 + 1 := ⟨_, rfl, Nat.le_refl _⟩
  rw [hhi0] at hx1 hy1 o3
  clear hhi0 o4
  generalize w.heap.size + 1 + 1 = r at *
  generalize w.heap.size + 1 = q at *
  generalize hp : w.heap.size = p at ba o1 hx1 hy1 ⊢
  clear hp
  have d1 : ¬ p = q := by omega
  have d2 : ¬ q = p := by omega
  have d3 : ¬ r = p := by omega
  have d4 : ¬ r = q := by omega
  go_wp2_with fail
  go_loopg [] (y.natAbs) (fun m wr => ∃ (x' y' : Int) (neg : Bool) (A1 : Option Addr) (n1 c1 : Nat) (neg2 : Bool) (A2 : Option Addr) (n2 c2 : Nat), Shut (Int.gcd x' y' = Int.gcd x y ∧ y'.natAbs = m ∧ Sm k x' ∧ Sm k y') ∧ Shut (Ap lo' hi' A1 n1 ∧ Ap lo' hi' A2 n2) ∧ Shut (Below w.heap.size w wr) ∧ BVa p hi wr neg A1 n1 c1 x' ∧ BVa p hi wr neg2 A2 n2 c2 y' ∧ Box w wr p (.bool neg) (.slice A1 n1 c1) ∧ Box w wr q (.bool neg2) (.slice A2 n2 c2) ∧ Box w wr r (.bool false) (.slice none 0 0))
  case atStart => exact ⟨x, y, neg, A1, n1, c1, neg2, A2, n2, c2, ⟨rfl, rfl, sx, sy⟩, HA, ⟨hbW⟩, hx1, hy1, ba, bb, br⟩
  case round =>
    clear ba bb br hbW hx1 hy1 HA
    obtain ⟨x', y', neg, A1, n1, c1, neg2, A2, n2, c2, HI, HA, HB, hx1, hy1, ba, bb, br⟩ := hrel
    have l2 := bb.c0
    have l3 := bb.c1
    go_wp2_with fail
    refine (zero_calls hy1.bv).mono ?_
    rintro e w1 ⟨rfl, hb1⟩
    replace HB := Shut.mk (bthen' HB.out (HB.out.size) hb1)
    replace hx1 := hx1.below hb1
    replace hy1 := hy1.below hb1
    replace ba := ba.below hb1
    replace bb := bb.below hb1
    replace br := br.below hb1
    clear hb1 l2 l3
    by_cases h0 : y' = 0
    · have l0 := ba.c0
      have l1 := ba.c1
      have f0 := ba.f0
      have f1 := ba.f1
      have l4 := br.c0
      have l5 := br.c1
      have f4 := br.f0
      have f5 := br.f1
      have hd : decide (y' = 0) = true := by simp [h0]
      have HG : Shut ((x'.natAbs : Int) = Int.gcd x y) := ⟨by rw [← HI.out.1, h0, Int.gcd_zero_right]⟩
      have HX := Shut.mk hx1
      have HP := Shut.mk ba.ge
      have HR := Shut.mk br.ge
      clear ba bb br hx1 hy1
      go_wp2
      refine bodyPost_ret (v := .agg #[.bool false, .slice A1 n1 c1]) (by simp [results, Tryz.results97, go_sem, l0, l1, l4, l5, d1, d2, d3, d4]) rfl ?_
      refine ⟨_, _, _, rfl, ?_, below_two (bset HB.out HP.out _) HR.out _ _⟩
      rw [← HG.out]
      exact (((HX.out.set (p := ⟨p, 0, none⟩) (Nat.le_refl _) (by show p < hi; omega) _).abs).two (p := r) (by omega) o3 _ _).re HA.out.1
    · have hd : decide (y' = 0) = false := by simp [h0]
      have l0 := ba.c0
      have l1 := ba.c1
      have l2 := bb.c0
      have l3 := bb.c1
      go_wp2_with fail
      refine (Quo_calls hx1.bv hy1.bv h0).mono ?_
      rintro e w2 ⟨vq, vr, rfl, hvq, hvr, hb2⟩
      have hlt : ((x'.tmod y').natAbs : Int) < y'.natAbs := by
        rw [Int.natAbs_tmod]
        have : x'.natAbs % y'.natAbs < y'.natAbs := Nat.mod_lt _ (by omega)
        omega
      have sq : Sm k (x'.tdiv y') := HI.out.2.2.1.le (by rw [Int.natAbs_tdiv]; exact Nat.div_le_self _ _)
      have sr : Sm k (x'.tmod y') := HI.out.2.2.2.le (by omega)
      have hhi : hi ≤ w1.heap.size := by have := br.lt; omega
      obtain ⟨ng, Aq, nq, cq, rfl, hq, _⟩ := hvq.split p hhi sq hk
      obtain ⟨ng2, Ar, nr, cr, rfl, hr, har⟩ := hvr.split p hhi sr hk
      have HA2 : Shut (Ap lo' hi' Ar nr) := ⟨fun ad e _ => .inr (by have := har ad e; have := HB.out.size; omega)⟩
      clear har
      have HM : Shut ((x'.tmod y').natAbs < gk) := ⟨by have := HI.out.2.1; omega⟩
      have HI2 : Shut (Int.gcd y' (x'.tmod y') = Int.gcd x y ∧ Sm k y' ∧ Sm k (x'.tmod y')) := ⟨by rw [gcd_tmod]; exact HI.out.1, HI.out.2.2.2, sr⟩
      clear hvq hvr hlt sq sr hq hx1 HI l0 l1 l2 l3
      replace HB := Shut.mk (bthen' HB.out HB.out.size hb2)
      replace hy1 := hy1.below hb2
      replace ba := ba.below hb2
      replace bb := bb.below hb2
      replace br := br.below hb2
      clear hb2
      generalize x'.tmod y' = z at *
      go_wp2_with fail
      change Code.wp _ _ _ _ (box2 w2 24 24 (.bool ng) (.slice Aq nq cq) (.bool ng2) (.slice Ar nr cr))
      obtain ⟨hb3, _, bg⟩ := box2_facts w2 24 24 (.bool ng) (.slice Aq nq cq) (.bool ng2) (.slice Ar nr cr)
      generalize box2 w2 24 24 (.bool ng) (.slice Aq nq cq) (.bool ng2) (.slice Ar nr cr) = W3 at *
      replace HB := Shut.mk (bthen' HB.out HB.out.size hb3)
      replace hy1 := hy1.below hb3
      replace hr := hr.below hb3
      have d5 : ¬ w2.heap.size + 1 = p := by have := ba.lt; omega
      have d6 : ¬ w2.heap.size + 1 = q := by have := bb.lt; omega
      replace ba := ba.below hb3
      replace bb := bb.below hb3
      replace br := br.below hb3
      generalize w2.heap.size + 1 = g at *
      clear hb3
      have l0 := ba.c0
      have l1 := ba.c1
      have l2 := bb.c0
      have l3 := bb.c1
      have l4 := bg.c0
      have l5 := bg.c1
      have f0 := ba.f0
      have f1 := ba.f1
      have f2 := bb.f0
      have f3 := bb.f1
      have hpe : p ≤ q := by omega
      have hph : p < hi := by omega
      have hqh : q < hi := by omega
      go_region_with (fail)
      all_goals
        clear l0 l1 l2 l3 l4 l5 f0 f1 f2 f3 d5 d6 bg
        go_wp2
        go_roundg (z.natAbs)
        case measure => exact HM.out
        case rel => exact ⟨y', z, neg2, A2, n2, c2, ng2, Ar, nr, cr, ⟨HI2.out.1, rfl, HI2.out.2⟩, ⟨HA.out.2, HA2.out⟩, ⟨(below_two (below_two HB.out ba.ge _ _) bb.ge _ _).drew⟩, ((hy1.two (Nat.le_refl _) hph _ _).two hpe hqh _ _).drew, ((hr.two (Nat.le_refl _) hph _ _).two hpe hqh _ _).drew, ((ba.put _ _).two d1 _ _).drew, ((bb.two d2 _ _).put _ _).drew, ((br.two d3 _ _).two d4 _ _).drew⟩

end Go.Proofs.YtjeaakkbkjhldaaGreatDoor

set_option linter.unusedVariables false
set_option linter.unusedSimpArgs false
namespace Go.Proofs.YtjeaakkbkjhldaaGreatDoor
open Go.RowKit

/-- the fraction of two numbers; a denominator 0 counts as 1 -/
def fr (n d : Int) : Rat := Rat.divInt n (if d = 0 then 1 else d)
/-- v is a fraction (api.Rat) that is handed in -/
def RV (w : World) (v : Value) (n d : Int) : Prop := ∃ neg A n1 c neg2 A2 n2 c2, v = .agg #[.bool neg, .slice A n1 c, .bool neg2, .slice A2 n2 c2] ∧ BV w (.agg #[.bool neg, .slice A n1 c]) n ∧ BV w (.agg #[.bool neg2, .slice A2 n2 c2]) d
/-- v is a fraction in lowest terms, its numbers in normal form, in blocks from B on -/
def NRV (B : Nat) (w : World) (v : Value) (q : Rat) : Prop := ∃ neg A n1 c neg2 A2 n2 c2, v = .agg #[.bool neg, .slice A n1 c, .bool neg2, .slice A2 n2 c2] ∧ NBV B w (.agg #[.bool neg, .slice A n1 c]) q.num ∧ NBV B w (.agg #[.bool neg2, .slice A2 n2 c2]) (q.den : Int)
/-- a fraction whose numbers have at most k binary digits -/
def SmR (k : Nat) (q : Rat) : Prop := Sm k q.num ∧ Sm k (q.den : Int)

theorem RV.below {w w1 : World} {v : Value} {n d : Int} (h : RV w v n d) (hb : Below w.heap.size w w1) : RV w1 v n d := by
  obtain ⟨_, _, _, _, _, _, _, _, rfl, h1, h2⟩ := h
  exact ⟨_, _, _, _, _, _, _, _, rfl, h1.below hb, h2.below hb⟩
theorem NRV.below {B : Nat} {w w1 : World} {v : Value} {q : Rat} (h : NRV B w v q) (hb : Below w.heap.size w w1) : NRV B w1 v q := by
  obtain ⟨_, _, _, _, _, _, _, _, rfl, h1, h2⟩ := h
  exact ⟨_, _, _, _, _, _, _, _, rfl, h1.below hb, h2.below hb⟩
theorem NRV.mono {B B' : Nat} {w : World} {v : Value} {q : Rat} (h : NRV B w v q) (hB : B' ≤ B) : NRV B' w v q := by
  obtain ⟨_, _, _, _, _, _, _, _, rfl, h1, h2⟩ := h
  exact ⟨_, _, _, _, _, _, _, _, rfl, h1.mono hB, h2.mono hB⟩
theorem NRV.rv {B : Nat} {w : World} {v : Value} {q : Rat} (h : NRV B w v q) {k : Nat} (hq : SmR k q) (hk : k ≤ 137438953472) : RV w v q.num q.den := by
  obtain ⟨_, _, _, _, _, _, _, _, rfl, h1, h2⟩ := h
  exact ⟨_, _, _, _, _, _, _, _, rfl, h1.bv hq.1 hk, h2.bv hq.2 hk⟩
theorem NBV.four {B : Nat} {w : World} {v : Value} {z : Int} (h : NBV B w v z) {g : Nat} (hg : g < B) (a b c d : Value) : NBV B ((((w.setCell ⟨g, 0, none⟩ a).setCell ⟨g, 1, none⟩ b).setCell ⟨g, 2, none⟩ c).setCell ⟨g, 3, none⟩ d) v z := (h.two hg a b).two hg c d
theorem below_four {B : Nat} {w0 w : World} (h : Below B w0 w) {g : Nat} (hg : B ≤ g) (a b c d : Value) : Below B w0 ((((w.setCell ⟨g, 0, none⟩ a).setCell ⟨g, 1, none⟩ b).setCell ⟨g, 2, none⟩ c).setCell ⟨g, 3, none⟩ d) := below_two (below_two h hg a b) hg c d
theorem NBV.shape {B : Nat} {w : World} {v : Value} {z : Int} (h : NBV B w v z) : ∃ neg A n c, v = .agg #[.bool neg, .slice A n c] := by
  obtain ⟨A, n, c, xs, rfl, _⟩ := h
  exact ⟨_, _, _, _, rfl⟩
theorem fr_self (q : Rat) : fr q.num q.den = q := by
  unfold fr
  rw [if_neg (by have := q.den_nz; omega)]
  exact Rat.num_divInt_den q
theorem fr_num (n d : Int) : (fr n d).num.natAbs ≤ n.natAbs := by
  unfold fr
  rw [Rat.num_divInt]
  generalize (if d = 0 then 1 else d) = d'
  refine Nat.le_trans (Int.natAbs_ediv_le_natAbs _ _) ?_
  rw [Int.natAbs_mul]
  have : d'.sign.natAbs ≤ 1 := by rw [Int.natAbs_sign]; split <;> omega
  calc d'.sign.natAbs * n.natAbs ≤ 1 * n.natAbs := Nat.mul_le_mul_right _ this
    _ = n.natAbs := Nat.one_mul _
theorem fr_den (n d : Int) : (fr n d).den ≤ max d.natAbs 1 := by
  unfold fr
  rw [Rat.den_divInt]
  by_cases h : d = 0
  · simp [h]
  · simp only [if_neg h]
    refine Nat.le_trans (Nat.div_le_self _ _) ?_
    omega
theorem Sm.of_le {k : Nat} {z : Int} (h : z.natAbs ≤ 1) (hk : 1 ≤ k) : Sm k z := by
  have : (2 : Int) ^ 1 ≤ 2 ^ k := pow_le_pow' (by omega) hk
  unfold Sm; omega
theorem SmR.fr {k : Nat} {n d : Int} (hn : Sm k n) (hd : Sm k d) (hk : 1 ≤ k) : SmR k (fr n d) := by
  refine ⟨hn.le (fr_num n d), ?_⟩
  have h := fr_den n d
  have h1 : Sm k 1 := Sm.of_le (by decide) hk
  unfold Sm at *
  simp only [Int.natAbs_natCast]
  simp at h1
  omega
theorem SmR.mono {k k' : Nat} {q : Rat} (h : SmR k q) (hk : k ≤ k') : SmR k' q := ⟨h.1.mono hk, h.2.mono hk⟩
theorem SmR.neg {k : Nat} {q : Rat} (h : SmR k q) : SmR k (-q) := ⟨by rw [Rat.neg_num]; exact h.1.neg, by rw [Rat.neg_den]; exact h.2⟩

/-- the numbers of a fraction, above a denominator that is above zero -/
theorem fr_pos {n d : Int} (hd : 0 < d) (hn : n ≠ 0) : n.tdiv (Int.gcd n d) = (fr n d).num ∧ d.tdiv (Int.gcd n d) = ((fr n d).den : Int) := by
  have e : (if d = 0 then 1 else d) = d := if_neg (by omega)
  unfold fr
  rw [e, Rat.num_divInt, Rat.den_divInt, if_neg (by omega), Int.gcd_comm d n, Int.sign_eq_one_of_pos hd, Int.one_mul]
  refine ⟨?_, ?_⟩
  · exact Int.tdiv_eq_ediv_of_dvd (Int.gcd_dvd_left ..)
  · rw [Int.tdiv_eq_ediv_of_dvd (Int.gcd_dvd_right ..), Int.natCast_ediv]
    congr 1; omega
theorem fr_zero (d : Int) : fr 0 d = 0 := by unfold fr; exact Rat.zero_divInt _
theorem fr_neg (n d : Int) (hd : d ≠ 0) : fr (-n) (-d) = fr n d := by
  unfold fr
  rw [if_neg (by omega), if_neg hd, Rat.neg_divInt_neg]
theorem fr_den0 (n : Int) : fr n 0 = fr n 1 := by unfold fr; simp

/-- a box of four cells at p, made since w -/
structure Box4 (w W : World) (p : Nat) (a0 a1 a2 a3 : Value) : Prop where
  ge : w.heap.size ≤ p
  lt : p < W.heap.size
  c0 : W.cell? ⟨p, 0, none⟩ = some a0
  c1 : W.cell? ⟨p, 1, none⟩ = some a1
  c2 : W.cell? ⟨p, 2, none⟩ = some a2
  c3 : W.cell? ⟨p, 3, none⟩ = some a3
  f0 : W.frozen? ⟨p, 0, none⟩ = false
  f1 : W.frozen? ⟨p, 1, none⟩ = false
  f2 : W.frozen? ⟨p, 2, none⟩ = false
  f3 : W.frozen? ⟨p, 3, none⟩ = false
theorem Box4.below {w W W1 : World} {p : Nat} {a0 a1 a2 a3 : Value} (h : Box4 w W p a0 a1 a2 a3) (hb : Below W.heap.size W W1) : Box4 w W1 p a0 a1 a2 a3 :=
  ⟨h.ge, Nat.lt_of_lt_of_le h.lt hb.size, old_cell hb h.c0, old_cell hb h.c1, old_cell hb h.c2, old_cell hb h.c3, (hb.frozen (p := ⟨p, 0, none⟩) h.lt).trans h.f0, (hb.frozen (p := ⟨p, 1, none⟩) h.lt).trans h.f1, (hb.frozen (p := ⟨p, 2, none⟩) h.lt).trans h.f2, (hb.frozen (p := ⟨p, 3, none⟩) h.lt).trans h.f3⟩
theorem Box4.drew {w W : World} {p : Nat} {a0 a1 a2 a3 : Value} (h : Box4 w W p a0 a1 a2 a3) : Box4 w W.drew p a0 a1 a2 a3 := h.below ⟨rfl, rfl, rfl, Nat.le_refl _, fun _ _ => rfl⟩
theorem Box4.new (w0 w : World) (T : Nat) (a0 a1 a2 a3 : Value) (h : w0.heap.size ≤ w.heap.size) : Box4 w0 (w.alloc (.cells #[a0, a1, a2, a3] T)) w.heap.size a0 a1 a2 a3 := by
  have hb : (w.alloc (.cells #[a0, a1, a2, a3] T)).heap[w.heap.size]? = some (.cells #[a0, a1, a2, a3] T) := heap_alloc_new w _
  exact ⟨h, by simp, by rw [cell_of_row _ _ _ _ _ _ hb]; rfl, by rw [cell_of_row _ _ _ _ _ _ hb]; rfl, by rw [cell_of_row _ _ _ _ _ _ hb]; rfl, by rw [cell_of_row _ _ _ _ _ _ hb]; rfl, frozen_of_row _ _ _ _ _ hb, frozen_of_row _ _ _ _ _ hb, frozen_of_row _ _ _ _ _ hb, frozen_of_row _ _ _ _ _ hb⟩
theorem Box4.set {w W : World} {p : Nat} {a0 a1 a2 a3 : Value} (h : Box4 w W p a0 a1 a2 a3) {g j : Nat} (hg : ¬ p = g) (u : Value) : Box4 w (W.setCell ⟨g, j, none⟩ u) p a0 a1 a2 a3 := by
  have hb : (W.setCell ⟨g, j, none⟩ u).heap[p]? = W.heap[p]? := heap_setCell_other W ⟨g, j, none⟩ p u hg
  exact ⟨h.ge, by simpa using h.lt, (World.cell?_of_block (w := W) hb).trans h.c0, (World.cell?_of_block (w := W) hb).trans h.c1, (World.cell?_of_block (w := W) hb).trans h.c2, (World.cell?_of_block (w := W) hb).trans h.c3, (World.frozen?_of_block (w := W) hb).trans h.f0, (World.frozen?_of_block (w := W) hb).trans h.f1, (World.frozen?_of_block (w := W) hb).trans h.f2, (World.frozen?_of_block (w := W) hb).trans h.f3⟩
theorem Box4.two {w W : World} {p : Nat} {a0 a1 a2 a3 : Value} (h : Box4 w W p a0 a1 a2 a3) {g i j : Nat} (hg : ¬ p = g) (u v : Value) : Box4 w ((W.setCell ⟨g, i, none⟩ u).setCell ⟨g, j, none⟩ v) p a0 a1 a2 a3 := (h.set hg u).set hg v

end Go.Proofs.YtjeaakkbkjhldaaGreatDoor

set_option linter.unusedVariables false
set_option linter.unusedSimpArgs false
namespace Go.Proofs.YtjeaakkbkjhldaaGreatDoor
open Go.RowKit

def boxM (w : World) (T T' T'' : Nat) (a0 a1 b0 b1 r0 r1 r2 r3 : Value) : World := ((w.alloc (.cells #[a0, a1] T)).alloc (.cells #[b0, b1] T')).alloc (.cells #[r0, r1, r2, r3] T'')
theorem boxM_facts (w : World) (T T' T'' : Nat) (a0 a1 b0 b1 r0 r1 r2 r3 : Value) : Below w.heap.size w (boxM w T T' T'' a0 a1 b0 b1 r0 r1 r2 r3) ∧ Box w (boxM w T T' T'' a0 a1 b0 b1 r0 r1 r2 r3) w.heap.size a0 a1 ∧ Box w (boxM w T T' T'' a0 a1 b0 b1 r0 r1 r2 r3) (w.heap.size + 1) b0 b1 ∧ Box4 w (boxM w T T' T'' a0 a1 b0 b1 r0 r1 r2 r3) (w.heap.size + 1 + 1) r0 r1 r2 r3 := by
  obtain ⟨h1, h2, h3⟩ := box2_facts w T T' a0 a1 b0 b1
  refine ⟨alloc3_below _ _ _ _, h2.below (alloc_below _ _), h3.below (alloc_below _ _), ?_⟩
  have := Box4.new w (box2 w T T' a0 a1 b0 b1) T'' r0 r1 r2 r3 h1.size
  have e : (box2 w T T' a0 a1 b0 b1).heap.size = w.heap.size + 1 + 1 := by unfold box2; rw [World.size_alloc, World.size_alloc]
  rw [e] at this; exact this

theorem cmpI_lt0 (d : Int) : decide (cmpI d 0 < 0) = decide (d < 0) := by
  unfold cmpI; simp only [decide_eq_decide]; split <;> (try split) <;> omega

def RatRes (w : World) (q : Rat) (en : Ending) (w' : World) : Prop := ∃ v, en = .returned v ∧ NRV w.heap.size w' v q ∧ Below w.heap.size w w'

set_option maxHeartbeats 4000000 in
set_option maxRecDepth 100000 in
theorem rmade_calls {w : World} {v v' : Value} {n d : Int} {k : Nat} (hx : BV w v n) (hy : BV w v' d) (sx : Sm k n) (sy : Sm k d) (hk : k ≤ 137438953472) (hk1 : 1 ≤ k) :
    Calls Tryz.prog 53 #[v, v'] w (RatRes w (fr n d)) := by
  obtain ⟨neg, A1, n1, c1, rfl, hx0⟩ := hx.split (w.heap.size + 1 + 1 + 1) (Below.refl _ _)
  obtain ⟨neg2, A2, n2, c2, rfl, hy0⟩ := hy.split (w.heap.size + 1 + 1 + 1) (Below.refl _ _)
  obtain ⟨hbW, ba, bb, br⟩ := boxM_facts w 24 24 26 (.bool neg) (.slice A1 n1 c1) (.bool neg2) (.slice A2 n2 c2) (.bool false) (.slice none 0 0) (.bool false) (.slice none 0 0)
  have hx1 := hx0.below hbW
  have hy1 := hy0.below hbW
  clear hx hy hx0 hy0
  go_enter Tryz.func53, Tryz.ntmps53
  go_wp2_with fail
  change Calls _ _ _ (boxM w 24 24 26 (.bool neg) (.slice A1 n1 c1) (.bool neg2) (.slice A2 n2 c2) (.bool false) (.slice none 0 0) (.bool false) (.slice none 0 0)) _
  generalize boxM w 24 24 26 (.bool neg) (.slice A1 n1 c1) (.bool neg2) (.slice A2 n2 c2) (.bool false) (.slice none 0 0) (.bool false) (.slice none 0 0) = W at *
  have o1 : w.heap.size < w.heap.size + 1 := by omega
  have o2 : w.heap.size + 1 < w.heap.size + 1 + 1 := by omega
  have o3 : w.heap.size + 1 + 1 < w.heap.size + 1 + 1 + 1 := by omega
  obtain ⟨hi, hhi0, o5⟩ : ∃ hi, w.heap.size + 1 + 1 + 1 = hi ∧ hi ≤ w.heap.size + 1 + 1 + 1 := ⟨_, rfl, Nat.le_refl _⟩
  rw [hhi0] at hx1 hy1 o3
  clear hhi0
  generalize w.heap.size + 1 + 1 = r at *
  generalize w.heap.size + 1 = q at *
  generalize hp : w.heap.size = p at ba o1 hx1 hy1 ⊢
  clear hp
  have d1 : ¬ p = q := by omega
  have d2 : ¬ q = p := by omega
  have d3 : ¬ r = p := by omega
  have d4 : ¬ r = q := by omega
  have hpe : p ≤ q := by omega
  have hph : p < hi := by omega
  have hqh : q < hi := by omega
  obtain ⟨d', hd'⟩ : ∃ d' : Int, d' = if d = 0 then 1 else d := ⟨_, rfl⟩
  have HD := Shut.mk hd'
  have sd : Sm k d' := by rw [hd']; split; exact Sm.of_le (by decide) hk1; exact sy
  have nd : Shut (d' ≠ 0) := ⟨by rw [hd']; split <;> omega⟩
  have HF : Shut (fr n d = fr n d') := ⟨by rw [hd']; unfold fr; split <;> simp_all⟩
  clear hd'
  refine (zero_calls hy1.bv).mono ?_
  rintro e w1 ⟨rfl, hb1⟩
  replace hbW := bthen hbW hb1
  (replace hx1 := hx1.below hb1; replace hy1 := hy1.below hb1; replace ba := ba.below hb1; replace bb := bb.below hb1; replace br := br.below hb1)
  clear hb1
  go_upto_if 7 with fail
  go_cut [] (fun wc => ∃ (neg2 : Bool) (A2 : Option Addr) (n2 c2 : Nat), Shut (Below w.heap.size w wc) ∧ BVa p hi wc neg A1 n1 c1 n ∧ BVa p hi wc neg2 A2 n2 c2 d' ∧ Box w wc p (.bool neg) (.slice A1 n1 c1) ∧ Box w wc q (.bool neg2) (.slice A2 n2 c2) ∧ Box4 w wc r (.bool false) (.slice none 0 0) (.bool false) (.slice none 0 0))
  case first =>
    by_cases h0 : d = 0
    · have hd : decide (d = 0) = true := by simp [h0]
      have HE : Shut (1 = d') := ⟨by rw [HD.out, if_pos h0]⟩
      clear sy HF
      go_wp2_with fail
      refine (Of_calls (by omega) (by omega)).mono ?_
      rintro e w2 ⟨v, rfl, hv, hb2⟩
      rw [HE.out] at hv
      obtain ⟨neg3, A3, n3, c3, rfl, hv2, _⟩ := hv.split (hi := hi) p (by have := br.lt; omega) sd hk
      replace hbW := bthen hbW hb2
      (replace hx1 := hx1.below hb2; replace ba := ba.below hb2; replace bb := bb.below hb2; replace br := br.below hb2)
      clear hb2 hv
      have l2 := bb.c0
      have l3 := bb.c1
      have f2 := bb.f0
      have f3 := bb.f1
      have HW := Shut.mk hbW
      clear hbW hy1
      go_wp2
      go_meet
      case rel => exact ⟨_, _, _, _, ⟨below_two HW.out bb.ge _ _⟩, hx1.two hpe hqh _ _, hv2.two hpe hqh _ _, ba.two d1 _ _, bb.put _ _, br.two d4 _ _⟩
    · have hd : decide (d = 0) = false := by simp [h0]
      have HE : Shut (d = d') := ⟨by rw [HD.out, if_neg h0]⟩
      clear sy HF
      have HW := Shut.mk hbW
      clear hbW
      rw [HE.out] at hy1
      go_wp2
      go_meet
      case rel => exact ⟨_, _, _, _, HW, hx1, hy1, ba, bb, br⟩
  case rest =>
    clear hx1 hy1 ba bb br hbW
    obtain ⟨neg2, A2, n2, c2, hbW, hx1, hy1, ba, bb, br⟩ := hcut
    go_upto_region 3 with fail
    go_cut [12] (fun s12 wc => s12 = .bool (decide (d' < 0)) ∧ Shut (Below w.heap.size w wc) ∧ BVa p hi wc neg A1 n1 c1 n ∧ BVa p hi wc neg2 A2 n2 c2 d' ∧ Box w wc p (.bool neg) (.slice A1 n1 c1) ∧ Box w wc q (.bool neg2) (.slice A2 n2 c2) ∧ Box4 w wc r (.bool false) (.slice none 0 0) (.bool false) (.slice none 0 0))
    case first =>
      have l2 := bb.c0
      have l3 := bb.c1
      go_region_with (first
        | (go_at_call 45; refine (Of_calls (by omega) (by omega)).mono ?_; rintro e w2 ⟨v, rfl, hv, hb2⟩; (try replace hb2 := undrew hb2); (replace hx1 := hx1.below hb2; replace hy1 := hy1.below hb2; replace ba := ba.below hb2; replace bb := bb.below hb2; replace br := br.below hb2; replace l2 := old_cell hb2 l2; replace l3 := old_cell hb2 l3); replace hbW := Shut.mk (bthen' hbW.out hbW.out.size hb2); clear hb2)
        | (go_at_call 51; refine (Cmp_calls hy1.bv (hv.bv (Sm.zero 1) (by omega))).mono ?_; rintro e w3 ⟨rfl, hb3⟩; (try replace hb3 := undrew hb3); (replace hx1 := hx1.below hb3; replace hy1 := hy1.below hb3; replace ba := ba.below hb3; replace bb := bb.below hb3; replace br := br.below hb3; replace l2 := old_cell hb3 l2; replace l3 := old_cell hb3 l3); replace hbW := Shut.mk (bthen' hbW.out hbW.out.size hb3); clear hb3))
      all_goals
        clear l2 l3 hv
        go_wp2_with fail
        go_meet
        case rel => exact ⟨congrArg Value.bool (cmpI_lt0 d'), hbW, hx1, hy1, ba, bb, br⟩
    case rest =>
      clear hx1 hy1 ba bb br hbW
      obtain ⟨rfl, hbW, hx1, hy1, ba, bb, br⟩ := hcut
      obtain ⟨n', dd, HN, sn, sd2, p2, HF2⟩ : ∃ n' dd : Int, Shut ((d' < 0 → n' = -n ∧ dd = -d') ∧ (¬ d' < 0 → n' = n ∧ dd = d')) ∧ Sm k n' ∧ Sm k dd ∧ 0 < dd ∧ Shut (fr n d = fr n' dd) := by
        by_cases h : d' < 0
        · exact ⟨-n, -d', ⟨fun _ => ⟨rfl, rfl⟩, fun hn => absurd h hn⟩, sx.neg, sd.neg, by omega, ⟨by rw [HF.out, fr_neg n d' nd.out]⟩⟩
        · exact ⟨n, d', ⟨fun hn => absurd hn h, fun _ => ⟨rfl, rfl⟩⟩, sx, sd, by have := nd.out; omega, HF⟩
      clear HF HD sy
      go_upto_if 12 with fail
      go_cut [] (fun wc => ∃ (neg : Bool) (A1 : Option Addr) (n1 c1 : Nat) (neg2 : Bool) (A2 : Option Addr) (n2 c2 : Nat), Shut (Below w.heap.size w wc) ∧ BVa p hi wc neg A1 n1 c1 n' ∧ BVa p hi wc neg2 A2 n2 c2 dd ∧ Box w wc p (.bool neg) (.slice A1 n1 c1) ∧ Box w wc q (.bool neg2) (.slice A2 n2 c2) ∧ Box4 w wc r (.bool false) (.slice none 0 0) (.bool false) (.slice none 0 0))
      case first =>
        by_cases h0 : d' < 0
        · have hd : decide (d' < 0) = true := by simp [h0]
          have HE := Shut.mk (HN.out.1 h0)
          have sn' : Sm k (-n) := sx.neg
          have sd' : Sm k (-d') := sd.neg
          have l0 := ba.c0
          have l1 := ba.c1
          have l2 := bb.c0
          have l3 := bb.c1
          have f0 := ba.f0
          have f1 := ba.f1
          have f2 := bb.f0
          have f3 := bb.f1
          go_upto_region 4 with fail
          replace hx1 := hx1.drew
          replace hy1 := hy1.drew
          replace ba := ba.drew
          replace bb := bb.drew
          replace br := br.drew
          replace hbW := Shut.mk hbW.out.drew
          go_region_with (first
            | (go_at_call 56; (first
              | (refine (Neg_calls hx1.bv).mono ?_; rintro e w5 ⟨v5, rfl, hv5, hb5⟩; obtain ⟨nx, Ax, mx, cx, rfl, hux, _⟩ := hv5.split (hi := hi) p (by have := br.lt; omega) sn' hk; replace hbW := Shut.mk (bthen' hbW.out hbW.out.size hb5); ((try replace hx1 := hx1.below hb5); (try replace hy1 := hy1.below hb5); (try replace hux := hux.below hb5); (try replace huy := huy.below hb5); replace ba := ba.below hb5; replace bb := bb.below hb5; replace br := br.below hb5); clear hx1 hv5 hb5; replace l0 := ba.c0; replace l1 := ba.c1; replace l2 := bb.c0; replace l3 := bb.c1; replace f0 := ba.f0; replace f1 := ba.f1; replace f2 := bb.f0; replace f3 := bb.f1)
              | (refine (Neg_calls hy1.bv).mono ?_; rintro e w5 ⟨v5, rfl, hv5, hb5⟩; obtain ⟨ny, Ay, my, cy, rfl, huy, _⟩ := hv5.split (hi := hi) p (by have := br.lt; omega) sd' hk; replace hbW := Shut.mk (bthen' hbW.out hbW.out.size hb5); ((try replace hx1 := hx1.below hb5); (try replace hy1 := hy1.below hb5); (try replace hux := hux.below hb5); (try replace huy := huy.below hb5); replace ba := ba.below hb5; replace bb := bb.below hb5; replace br := br.below hb5); clear hy1 hv5 hb5; replace l0 := ba.c0; replace l1 := ba.c1; replace l2 := bb.c0; replace l3 := bb.c1; replace f0 := ba.f0; replace f1 := ba.f1; replace f2 := bb.f0; replace f3 := bb.f1))))
          all_goals
            clear l0 l1 l2 l3 f0 f1 f2 f3
            rw [← HE.out.1] at hux
            rw [← HE.out.2] at huy
            go_wp2_with fail
            go_meet
            case rel => exact ⟨_, _, _, _, _, _, _, _, ⟨below_two (below_two hbW.out ba.ge _ _) bb.ge _ _⟩, (hux.two (Nat.le_refl _) hph _ _).two hpe hqh _ _, (huy.two (Nat.le_refl _) hph _ _).two hpe hqh _ _, (ba.put _ _).two d1 _ _, (bb.two d2 _ _).put _ _, (br.two d3 _ _).two d4 _ _⟩
        · have hd : decide (d' < 0) = false := by simp [h0]
          have HE := Shut.mk (HN.out.2 h0)
          rw [← HE.out.1] at hx1
          rw [← HE.out.2] at hy1
          go_wp2
          go_meet
          case rel => exact ⟨_, _, _, _, _, _, _, _, hbW, hx1, hy1, ba, bb, br⟩
      case rest =>
        clear hx1 hy1 ba bb br hbW sx sd HN nd
        obtain ⟨neg, A1, n1, c1, neg2, A2, n2, c2, hbW, hx1, hy1, ba, bb, br⟩ := hcut
        have l0 := ba.c0
        have l1 := ba.c1
        go_wp2_with fail
        refine (zero_calls hx1.bv).mono ?_
        rintro e w3 ⟨rfl, hb3⟩
        replace hbW := Shut.mk (bthen' hbW.out hbW.out.size hb3)
        (replace hx1 := hx1.below hb3; replace hy1 := hy1.below hb3; replace ba := ba.below hb3; replace bb := bb.below hb3; replace br := br.below hb3)
        clear hb3 l0 l1
        by_cases h0 : n' = 0
        · have hd : decide (n' = 0) = true := by simp [h0]
          have HZ : Shut (fr n' dd = 0) := ⟨by rw [h0, fr_zero]⟩
          go_wp2_with fail
          refine (Of_calls (by omega) (by omega)).mono ?_
          rintro e w4 ⟨v, rfl, hv, hb4⟩
          have HSZ := Shut.mk br.lt
          have HS2 := Shut.mk hbW.out.size
          replace hbW := Shut.mk (bthen' hbW.out hbW.out.size hb4)
          (replace br := br.below hb4)
          clear hb4 hx1 hy1 ba bb
          have HV := Shut.mk hv
          obtain ⟨neg3, A3, n3, c3, rfl⟩ := hv.shape
          have r0 := br.c0
          have r1 := br.c1
          have r2 := br.c2
          have r3 := br.c3
          have g0 := br.f0
          have g1 := br.f1
          have g2 := br.f2
          have g3 := br.f3
          have HR := Shut.mk br.ge
          clear br hv
          go_wp2
          refine bodyPost_ret (v := .agg #[.bool false, .slice none 0 0, .bool neg3, .slice A3 n3 c3]) (by simp [results, Tryz.results53, go_sem, r0, r1, r2, r3]) rfl ?_
          rw [HF2.out, HZ.out]
          exact ⟨_, rfl, ⟨_, _, _, _, _, _, _, _, rfl, NBV.nil _ _, (HV.out.four HSZ.out _ _ _ _).mono HS2.out⟩, below_four hbW.out HR.out _ _ _ _⟩
        · have hd : decide (n' = 0) = false := by simp [h0]
          have l0 := ba.c0
          have l1 := ba.c1
          have l2 := bb.c0
          have l3 := bb.c1
          have sG : Sm k (Int.gcd n' dd) := sn.le (by simp only [Int.natAbs_natCast]; exact Nat.le_of_dvd (by omega) (Nat.gcd_dvd_left ..))
          have G0 : ((Int.gcd n' dd : Nat) : Int) ≠ 0 := by
            intro e
            have e2 : Int.gcd n' dd = 0 := by omega
            exact h0 (Int.gcd_eq_zero_iff.1 e2).1
          have HQ1 := Shut.mk (fr_pos p2 h0).1
          have HQ2 := Shut.mk (fr_pos p2 h0).2
          go_wp2_with fail
          refine (gcd_calls (lo' := p) (hi' := hi) hx1 hy1 (by have := br.lt; omega) sn sd2 hk).mono ?_
          rintro e w4 ⟨A3, n3, c3, rfl, hg, hb4⟩
          replace hbW := Shut.mk (bthen' hbW.out hbW.out.size hb4)
          (replace hx1 := hx1.below hb4; replace hy1 := hy1.below hb4; replace ba := ba.below hb4; replace bb := bb.below hb4; replace br := br.below hb4)
          clear hb4 l0 l1 l2 l3
          generalize ((Int.gcd n' dd : Nat) : Int) = G at *
          go_upto_region 8 with fail
          change Code.wp _ _ _ _ (box1 w4 24 (.bool false) (.slice A3 n3 c3))
          obtain ⟨hb5, bs⟩ := box1_facts w4 24 (.bool false) (.slice A3 n3 c3)
          have d5 : ¬ w4.heap.size = p := by have := ba.lt; omega
          have d6 : ¬ w4.heap.size = q := by have := bb.lt; omega
          replace hbW := Shut.mk (bthen' hbW.out hbW.out.size hb5)
          (replace hx1 := hx1.below hb5; replace hy1 := hy1.below hb5; replace ba := ba.below hb5; replace bb := bb.below hb5; replace br := br.below hb5; replace hg := hg.below hb5)
          generalize box1 w4 24 (.bool false) (.slice A3 n3 c3) = W5 at *
          generalize w4.heap.size = s at *
          clear hb5
          have l0 := ba.c0
          have l1 := ba.c1
          have l4 := bs.c0
          have l5 := bs.c1
          go_wp2_with fail
          refine (Quo_calls hx1.bv hg.bv G0).mono ?_
          rintro e w6 ⟨vq, vr, rfl, hvq, hvr, hb6⟩
          rw [HQ1.out] at hvq
          have HL6 : Shut (p < W5.heap.size ∧ q < W5.heap.size ∧ r < W5.heap.size ∧ w.heap.size ≤ W5.heap.size) := ⟨ba.lt, bb.lt, br.lt, hbW.out.size⟩
          replace hbW := Shut.mk (bthen' hbW.out hbW.out.size hb6)
          (replace hy1 := hy1.below hb6; replace ba := ba.below hb6; replace bb := bb.below hb6; replace br := br.below hb6; replace hg := hg.below hb6; replace bs := bs.below hb6)
          clear hb6 hvr hx1 l0 l1 l4 l5
          have HV6 := Shut.mk hvq
          obtain ⟨neg3, A4, n4, c4, rfl⟩ := hvq.shape
          have l0 := ba.c0
          have l1 := ba.c1
          have l2 := bb.c0
          have l3 := bb.c1
          have l4 := bs.c0
          have l5 := bs.c1
          have f0 := ba.f0
          have f1 := ba.f1
          clear hvq
          go_wp2_with fail
          change Calls _ _ _ ((w6.setCell ⟨p, 0, none⟩ (.bool neg3)).setCell ⟨p, 1, none⟩ (.slice A4 n4 c4)) _
          clear l0 l1 l2 l3 l4 l5 f0 f1
          have HL7 := Shut.mk (show p < w6.heap.size ∧ q < w6.heap.size ∧ r < w6.heap.size ∧ w.heap.size ≤ w6.heap.size from ⟨ba.lt, bb.lt, br.lt, hbW.out.size⟩)
          replace hy1 := hy1.two (i := 0) (j := 1) (Nat.le_refl _) hph (.bool neg3) (.slice A4 n4 c4)
          replace hg := hg.two (i := 0) (j := 1) (Nat.le_refl _) hph (.bool neg3) (.slice A4 n4 c4)
          replace hbW := Shut.mk (below_two hbW.out ba.ge (i := 0) (j := 1) (.bool neg3) (.slice A4 n4 c4))
          replace bb := bb.two d2 (i := 0) (j := 1) (.bool neg3) (.slice A4 n4 c4)
          replace br := br.two d3 (i := 0) (j := 1) (.bool neg3) (.slice A4 n4 c4)
          replace ba := ba.put (.bool neg3) (.slice A4 n4 c4)
          replace HV6 := Shut.mk (HV6.out.two HL6.out.1 (i := 0) (j := 1) (.bool neg3) (.slice A4 n4 c4))
          have HSZ : Shut (w6.heap.size ≤ ((w6.setCell ⟨p, 0, none⟩ (.bool neg3)).setCell ⟨p, 1, none⟩ (.slice A4 n4 c4)).heap.size) := ⟨by simp⟩
          generalize (w6.setCell ⟨p, 0, none⟩ (.bool neg3)).setCell ⟨p, 1, none⟩ (.slice A4 n4 c4) = W7 at *
          refine (Quo_calls hy1.bv hg.bv G0).mono ?_
          rintro e w8 ⟨vq2, vr2, rfl, hvq2, hvr2, hb8⟩
          rw [HQ2.out] at hvq2
          replace hbW := Shut.mk (bthen' hbW.out hbW.out.size hb8)
          replace HV6 := Shut.mk (HV6.out.below hb8)
          (replace ba := ba.below hb8; replace bb := bb.below hb8; replace br := br.below hb8)
          have HV8 := Shut.mk hvq2
          obtain ⟨neg5, A5, n5, c5, rfl⟩ := hvq2.shape
          clear hb8 hvr2 hvq2 hy1 hg bs
          have l0 := ba.c0
          have l1 := ba.c1
          have l2 := bb.c0
          have l3 := bb.c1
          have f2 := bb.f0
          have f3 := bb.f1
          have r0 := br.c0
          have r1 := br.c1
          have r2 := br.c2
          have r3 := br.c3
          have g0 := br.f0
          have g1 := br.f1
          have g2 := br.f2
          have g3 := br.f3
          have HB := Shut.mk (And.intro bb.ge br.ge)
          clear ba bb br
          go_wp2
          refine bodyPost_ret (v := .agg #[.bool neg3, .slice A4 n4 c4, .bool neg5, .slice A5 n5 c5]) (by simp [results, Tryz.results53, go_sem, r0, r1, r2, r3, d1, d2, d3, d4]) rfl ?_
          rw [HF2.out]
          have z1 := HL6.out
          have z2 := HL7.out
          have z3 := HSZ.out
          exact ⟨_, rfl, ⟨_, _, _, _, _, _, _, _, rfl, ((HV6.out.two z1.2.1 _ _).four z1.2.2.1 _ _ _ _).mono z1.2.2.2, ((HV8.out.two (by omega) _ _).four (by omega) _ _ _ _).mono (by omega)⟩, below_four (below_two hbW.out HB.out.1 _ _) HB.out.2 _ _ _ _⟩

end Go.Proofs.YtjeaakkbkjhldaaGreatDoor
