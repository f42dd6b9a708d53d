import Derived.Test.YtjeaakkbkjhldaaGreatDoorK13
set_option linter.unusedVariables false
set_option linter.unusedSimpArgs false
namespace Go.Proofs.YtjeaakkbkjhldaaGreatDoor
open Go.RowKit

/-! ### Quo -/
def IQuoRes (w : World) (x y : Int) (en : Ending) (w' : World) : Prop := ∃ q r, en = .returned (.tuple #[q, r]) ∧ IV w' q (x.tdiv y) ∧ IV w' r (x.tmod y) ∧ Below w.heap.size w w'
theorem tdiv_nat (x y : Int) : ((x.tdiv y).natAbs : Int) = (x.natAbs : Int) / (y.natAbs : Int) := by rw [Int.natAbs_tdiv]; rfl
theorem tmod_nat (x y : Int) : ((x.tmod y).natAbs : Int) = (x.natAbs : Int) % (y.natAbs : Int) := by rw [Int.natAbs_tmod]; rfl
theorem tdiv_sign {x y : Int} (hy : y ≠ 0) : decide (x.tdiv y < 0) = ((decide (x < 0) != decide (y < 0)) && decide (0 < (x.natAbs : Int) / (y.natAbs : Int))) := by
  have h := tdiv_nat x y
  have h0 : 0 ≤ (x.natAbs : Int) / (y.natAbs : Int) := Int.ediv_nonneg (by omega) (by omega)
  by_cases hx : x < 0 <;> by_cases hy0 : y < 0
  · have : 0 ≤ x.tdiv y := by rw [← Int.neg_tdiv_neg]; exact Int.tdiv_nonneg (by omega) (by omega)
    simp [hx, hy0]; omega
  · have : x.tdiv y ≤ 0 := by
      have := Int.tdiv_nonneg (a := -x) (b := y) (by omega) (by omega)
      rw [Int.neg_tdiv] at this; omega
    simp [hx, hy0]; omega
  · have : x.tdiv y ≤ 0 := by
      have := Int.tdiv_nonneg (a := x) (b := -y) (by omega) (by omega)
      rw [Int.tdiv_neg] at this; omega
    simp [hx, hy0]; omega
  · have : 0 ≤ x.tdiv y := Int.tdiv_nonneg (by omega) (by omega)
    simp [hx, hy0]; omega
theorem tmod_sign {x y : Int} : decide (x.tmod y < 0) = (decide (x < 0) && decide (0 < (x.natAbs : Int) % (y.natAbs : Int))) := by
  have h := tmod_nat x y
  have h0 : 0 ≤ (x.natAbs : Int) % (y.natAbs : Int) := by omega
  by_cases hx : x < 0
  · have : x.tmod y ≤ 0 := by
      have := Int.tmod_nonneg (a := -x) y (by omega)
      rw [Int.neg_tmod] at this; omega
    simp [hx]; omega
  · have : 0 ≤ x.tmod y := Int.tmod_nonneg y (by omega)
    simp [hx]; omega

set_option maxHeartbeats 8000000 in
set_option maxRecDepth 100000 in
theorem IQuo_calls {w : World} {v v' : Value} {x y : Int} {k : Nat} (h : IV w v x) (h' : IV w v' y) (sx : Sm k x) (sy : Sm k y) (hk : k ≤ 137438953472) (hy : y ≠ 0) :
    Calls Tryz.prog 63 #[v, v'] w (IQuoRes w x y) := by
  obtain ⟨A, n, c, rfl, hnv, _, _, _⟩ := h.parts sx hk
  obtain ⟨A2, n2, c2, rfl, hnv2, _, _, _⟩ := h'.parts sy hk
  clear h h'
  have HS := Shut.mk (And.intro (tdiv_sign (x := x) hy) (tmod_sign (x := x) (y := y)))
  obtain ⟨hbW, ba, bb, br, bs⟩ := box4_facts w 32 32 32 32 (.bool (decide (x < 0))) (.slice A n c) (.bool (decide (y < 0))) (.slice A2 n2 c2) (.bool false) (.slice none 0 0) (.bool false) (.slice none 0 0)
  have hquo := fun (W : World) (a : NV W (.slice A n c) (x.natAbs : Int)) (b : NV W (.slice A2 n2 c2) (y.natAbs : Int)) => quo16_calls a b sx.abs sy.abs hk (by omega)
  generalize decide (x < 0) = b1 at *
  generalize decide (y < 0) = b2 at *
  go_enter Tryz.func63, Tryz.ntmps63
  go_upto_region 1 with fail
  change Code.wp _ _ _ _ (box4 w 32 32 32 32 (.bool b1) (.slice A n c) (.bool b2) (.slice A2 n2 c2) (.bool false) (.slice none 0 0) (.bool false) (.slice none 0 0))
  replace hnv := hnv.below hbW
  replace hnv2 := hnv2.below hbW
  obtain ⟨ni1, ni2⟩ := box4_noint w 32 32 32 32 b1 A n c b2 A2 n2 c2 false none 0 0 false none 0 0
  generalize box4 w 32 32 32 32 (.bool b1) (.slice A n c) (.bool b2) (.slice A2 n2 c2) (.bool false) (.slice none 0 0) (.bool false) (.slice none 0 0) = W at *
  have o1 : w.heap.size < w.heap.size + 1 := by omega
  have o2 : w.heap.size + 1 < w.heap.size + 1 + 1 := by omega
  have o3 : w.heap.size + 1 + 1 < w.heap.size + 1 + 1 + 1 := by omega
  generalize w.heap.size + 1 + 1 + 1 = s at *
  generalize w.heap.size + 1 + 1 = r at *
  generalize w.heap.size + 1 = q at *
  generalize hp : w.heap.size = p at ba o1 ⊢
  subst hp
  have d5 : ¬ r = s := by omega
  have l1 := ba.c1
  have l3 := bb.c1
  go_wp2_with fail
  refine (hquo _ hnv hnv2).mono ?_
  rintro e w2 ⟨Q, R, rfl, hq, hr, hb2⟩
  replace hbW := bthen hbW hb2
  have NI := Shut.mk (And.intro (ni1.below br.lt hb2) (ni2.below bs.lt hb2))
  (replace ba := ba.below hb2; replace bb := bb.below hb2; replace br := br.below hb2; replace bs := bs.below hb2)
  clear ni1 ni2
  clear hb2 hquo hnv hnv2 l1 l3
  obtain ⟨Aq, nq, cq, rfl⟩ := hq.slice
  obtain ⟨Ar, nr, cr, rfl⟩ := hr.slice
  obtain ⟨hq0, hq1, hq2⟩ := hq.pos
  obtain ⟨hr0, hr1, hr2⟩ := hr.pos
  have HQ := Shut.mk hq
  have HR := Shut.mk hr
  have HB := Shut.mk hbW
  have HG := Shut.mk (And.intro br.ge bs.ge)
  have hQ0 : 0 ≤ (x.natAbs : Int) / (y.natAbs : Int) := Int.ediv_nonneg (by omega) (by omega)
  have hR0 : 0 ≤ (x.natAbs : Int) % (y.natAbs : Int) := Int.emod_nonneg _ (by omega)
  obtain ⟨z1, z2, HZ, e1, e2⟩ : ∃ z1 z2 : Bool, Shut (z1 = decide (x.tdiv y < 0) ∧ z2 = decide (x.tmod y < 0)) ∧ z1 = ((b1 != b2) && decide (0 < nq)) ∧ z2 = (b1 && decide (0 < nr)) := by
    refine ⟨_, _, ⟨⟨?_, ?_⟩⟩, rfl, rfl⟩
    · rw [HS.out.1]; congr 1; rw [decide_eq_decide]; omega
    · rw [HS.out.2]; congr 1; rw [decide_eq_decide]; omega
  have l0 := ba.c0
  have l2 := bb.c0
  have r0 := br.c0
  have r1 := br.c1
  have g0 := br.f0
  have g1 := br.f1
  have s0 := bs.c0
  have s1 := bs.c1
  have t0 := bs.f0
  have t1 := bs.f1
  clear hq hr hbW ba bb br bs hQ0 hR0 hq0 hr0 HS
  have hfin : ∀ W', W' = ((((w2.setCell ⟨r, 0, none⟩ (.bool z1)).setCell ⟨r, 1, none⟩ (.slice Aq nq cq)).setCell ⟨s, 0, none⟩ (.bool z2)).setCell ⟨s, 1, none⟩ (.slice Ar nr cr)) → IQuoRes w x y (.returned (.tuple #[.agg #[.bool z1, .slice Aq nq cq], .agg #[.bool z2, .slice Ar nr cr]])) W' := by
    rintro W' rfl
    have n2 := NI.out.2.put2 r 0 1 z1 Aq nq cq
    refine ⟨_, _, rfl, iv_mk ?_ HZ.out.1, iv_mk ?_ HZ.out.2, below_two (below_two HB.out HG.out.1 _ _) HG.out.2 _ _⟩
    · rw [tdiv_nat]; exact (HQ.out.put2 NI.out.1 0 1 z1 Aq nq cq).put2 n2 0 1 z2 Ar nr cr
    · rw [tmod_nat]; exact (HR.out.put2 NI.out.1 0 1 z1 Aq nq cq).put2 n2 0 1 z2 Ar nr cr
  have hfin := Shut.mk hfin
  clear HZ NI HQ HR HB HG
  have hcs : (nq = 0 ∨ 0 < nq) ∧ (nr = 0 ∨ 0 < nr) := ⟨by omega, by omega⟩
  obtain ⟨hcq, hcr⟩ := hcs
  cases b1 <;> cases b2
  · rcases hcq with rfl | hq3
    · rcases hcr with rfl | hr3
      · obtain rfl : z1 = false := by rw [e1]; simp
        obtain rfl : z2 = false := by rw [e2]; simp
        clear e1 e2
        go_wp2
        refine bodyPost_ret (v := .tuple #[.agg #[.bool false, .slice Aq 0 cq], .agg #[.bool false, .slice Ar 0 cr]]) (by simp [results, Tryz.results63, go_sem, r0, r1, s0, s1, d5]) rfl ?_
        exact hfin.out _ rfl
      · obtain rfl : z1 = false := by rw [e1]; simp
        obtain rfl : z2 = false := by rw [e2]; simp
        clear e1 e2
        go_wp2
        refine bodyPost_ret (v := .tuple #[.agg #[.bool false, .slice Aq 0 cq], .agg #[.bool false, .slice Ar nr cr]]) (by simp [results, Tryz.results63, go_sem, r0, r1, s0, s1, d5]) rfl ?_
        exact hfin.out _ rfl
    · rcases hcr with rfl | hr3
      · obtain rfl : z1 = false := by rw [e1]; simp
        obtain rfl : z2 = false := by rw [e2]; simp
        clear e1 e2
        go_wp2
        refine bodyPost_ret (v := .tuple #[.agg #[.bool false, .slice Aq nq cq], .agg #[.bool false, .slice Ar 0 cr]]) (by simp [results, Tryz.results63, go_sem, r0, r1, s0, s1, d5]) rfl ?_
        exact hfin.out _ rfl
      · obtain rfl : z1 = false := by rw [e1]; simp
        obtain rfl : z2 = false := by rw [e2]; simp
        clear e1 e2
        go_wp2
        refine bodyPost_ret (v := .tuple #[.agg #[.bool false, .slice Aq nq cq], .agg #[.bool false, .slice Ar nr cr]]) (by simp [results, Tryz.results63, go_sem, r0, r1, s0, s1, d5]) rfl ?_
        exact hfin.out _ rfl
  · rcases hcq with rfl | hq3
    · rcases hcr with rfl | hr3
      · obtain rfl : z1 = false := by rw [e1]; simp
        obtain rfl : z2 = false := by rw [e2]; simp
        clear e1 e2
        go_wp2
        refine bodyPost_ret (v := .tuple #[.agg #[.bool false, .slice Aq 0 cq], .agg #[.bool false, .slice Ar 0 cr]]) (by simp [results, Tryz.results63, go_sem, r0, r1, s0, s1, d5]) rfl ?_
        exact hfin.out _ rfl
      · obtain rfl : z1 = false := by rw [e1]; simp
        obtain rfl : z2 = false := by rw [e2]; simp
        clear e1 e2
        go_wp2
        refine bodyPost_ret (v := .tuple #[.agg #[.bool false, .slice Aq 0 cq], .agg #[.bool false, .slice Ar nr cr]]) (by simp [results, Tryz.results63, go_sem, r0, r1, s0, s1, d5]) rfl ?_
        exact hfin.out _ rfl
    · rcases hcr with rfl | hr3
      · obtain rfl : z1 = true := by rw [e1]; simp [hq3]
        obtain rfl : z2 = false := by rw [e2]; simp
        clear e1 e2
        go_wp2
        refine bodyPost_ret (v := .tuple #[.agg #[.bool true, .slice Aq nq cq], .agg #[.bool false, .slice Ar 0 cr]]) (by simp [results, Tryz.results63, go_sem, r0, r1, s0, s1, d5]) rfl ?_
        exact hfin.out _ rfl
      · obtain rfl : z1 = true := by rw [e1]; simp [hq3]
        obtain rfl : z2 = false := by rw [e2]; simp
        clear e1 e2
        go_wp2
        refine bodyPost_ret (v := .tuple #[.agg #[.bool true, .slice Aq nq cq], .agg #[.bool false, .slice Ar nr cr]]) (by simp [results, Tryz.results63, go_sem, r0, r1, s0, s1, d5]) rfl ?_
        exact hfin.out _ rfl
  · rcases hcq with rfl | hq3
    · rcases hcr with rfl | hr3
      · obtain rfl : z1 = false := by rw [e1]; simp
        obtain rfl : z2 = false := by rw [e2]; simp
        clear e1 e2
        go_wp2
        refine bodyPost_ret (v := .tuple #[.agg #[.bool false, .slice Aq 0 cq], .agg #[.bool false, .slice Ar 0 cr]]) (by simp [results, Tryz.results63, go_sem, r0, r1, s0, s1, d5]) rfl ?_
        exact hfin.out _ rfl
      · obtain rfl : z1 = false := by rw [e1]; simp
        obtain rfl : z2 = true := by rw [e2]; simp [hr3]
        clear e1 e2
        go_wp2
        refine bodyPost_ret (v := .tuple #[.agg #[.bool false, .slice Aq 0 cq], .agg #[.bool true, .slice Ar nr cr]]) (by simp [results, Tryz.results63, go_sem, r0, r1, s0, s1, d5]) rfl ?_
        exact hfin.out _ rfl
    · rcases hcr with rfl | hr3
      · obtain rfl : z1 = true := by rw [e1]; simp [hq3]
        obtain rfl : z2 = false := by rw [e2]; simp
        clear e1 e2
        go_wp2
        refine bodyPost_ret (v := .tuple #[.agg #[.bool true, .slice Aq nq cq], .agg #[.bool false, .slice Ar 0 cr]]) (by simp [results, Tryz.results63, go_sem, r0, r1, s0, s1, d5]) rfl ?_
        exact hfin.out _ rfl
      · obtain rfl : z1 = true := by rw [e1]; simp [hq3]
        obtain rfl : z2 = true := by rw [e2]; simp [hr3]
        clear e1 e2
        go_wp2
        refine bodyPost_ret (v := .tuple #[.agg #[.bool true, .slice Aq nq cq], .agg #[.bool true, .slice Ar nr cr]]) (by simp [results, Tryz.results63, go_sem, r0, r1, s0, s1, d5]) rfl ?_
        exact hfin.out _ rfl
  · rcases hcq with rfl | hq3
    · rcases hcr with rfl | hr3
      · obtain rfl : z1 = false := by rw [e1]; simp
        obtain rfl : z2 = false := by rw [e2]; simp
        clear e1 e2
        go_wp2
        refine bodyPost_ret (v := .tuple #[.agg #[.bool false, .slice Aq 0 cq], .agg #[.bool false, .slice Ar 0 cr]]) (by simp [results, Tryz.results63, go_sem, r0, r1, s0, s1, d5]) rfl ?_
        exact hfin.out _ rfl
      · obtain rfl : z1 = false := by rw [e1]; simp
        obtain rfl : z2 = true := by rw [e2]; simp [hr3]
        clear e1 e2
        go_wp2
        refine bodyPost_ret (v := .tuple #[.agg #[.bool false, .slice Aq 0 cq], .agg #[.bool true, .slice Ar nr cr]]) (by simp [results, Tryz.results63, go_sem, r0, r1, s0, s1, d5]) rfl ?_
        exact hfin.out _ rfl
    · rcases hcr with rfl | hr3
      · obtain rfl : z1 = false := by rw [e1]; simp
        obtain rfl : z2 = false := by rw [e2]; simp
        clear e1 e2
        go_wp2
        refine bodyPost_ret (v := .tuple #[.agg #[.bool false, .slice Aq nq cq], .agg #[.bool false, .slice Ar 0 cr]]) (by simp [results, Tryz.results63, go_sem, r0, r1, s0, s1, d5]) rfl ?_
        exact hfin.out _ rfl
      · obtain rfl : z1 = false := by rw [e1]; simp
        obtain rfl : z2 = true := by rw [e2]; simp [hr3]
        clear e1 e2
        go_wp2
        refine bodyPost_ret (v := .tuple #[.agg #[.bool false, .slice Aq nq cq], .agg #[.bool true, .slice Ar nr cr]]) (by simp [results, Tryz.results63, go_sem, r0, r1, s0, s1, d5]) rfl ?_
        exact hfin.out _ rfl

end Go.Proofs.YtjeaakkbkjhldaaGreatDoor
