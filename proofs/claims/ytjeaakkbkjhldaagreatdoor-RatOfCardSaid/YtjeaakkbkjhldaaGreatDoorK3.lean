import Derived.Test.YtjeaakkbkjhldaaGreatDoorK2
import Derived.Test.YtjeaakkbkjhldaaGreatDoorK1
import Derived.Test.YtjeaakkbkjhldaaGreatDoorShelf
set_option linter.unusedVariables false
set_option linter.unusedSimpArgs false
namespace Go.Proofs.YtjeaakkbkjhldaaGreatDoor
open Go.RowKit

theorem order_b {w : World} {A1 A2 : Option Addr} {n1 c1 n2 c2 : Nat} {xs ys : List Int} (hx : RdS w .u32 A1 n1 c1 xs) (hy : RdS w .u32 A2 n2 c2 ys) (dx : Dgs 4294967296 xs) (dy : Dgs 4294967296 ys) :
    Calls Tryz.prog 96 #[.slice A1 n1 c1, .slice A2 n2 c2] w fun e w' => e = .returned (.int .i64 (cmpI (val 4294967296 xs) (val 4294967296 ys))) ∧ Below w.heap.size w w' :=
  (order_calls hx hy dx dy).mono fun _ _ ⟨h1, N, h2⟩ => ⟨h1, by subst h2; exact ⟨rfl, rfl, rfl, Nat.le_refl _, fun _ _ => rfl⟩⟩

/-! ### Add -/
set_option maxHeartbeats 2000000 in
set_option maxRecDepth 100000 in
theorem Add_same {w : World} {neg : Bool} {A1 A2 : Option Addr} {n1 c1 n2 c2 : Nat} {xs ys : List Int} (hx : RdS w .u32 A1 n1 c1 xs) (hy : RdS w .u32 A2 n2 c2 ys) (dx : Dgs 4294967296 xs) (dy : Dgs 4294967296 ys) (hl : n1 ≤ 4294967296) (hl2 : n2 ≤ 4294967296) :
    Calls Tryz.prog 54 #[.agg #[.bool neg, .slice A1 n1 c1], .agg #[.bool neg, .slice A2 n2 c2]] w (MadeRes w (sg neg (val 4294967296 xs + val 4294967296 ys))) := by
  obtain ⟨hbW, ba, bb, br⟩ := box3_facts w 24 24 24 (.bool neg) (.slice A1 n1 c1) (.bool neg) (.slice A2 n2 c2) (.bool false) (.slice none 0 0)
  have hx1 := hx.below hbW
  have hy1 := hy.below hbW
  go_enter Tryz.func54, Tryz.ntmps54
  go_wp2_with fail
  change Code.wp _ _ _ _ (box3 w 24 24 24 (.bool neg) (.slice A1 n1 c1) (.bool neg) (.slice A2 n2 c2) (.bool false) (.slice none 0 0))
  generalize box3 w 24 24 24 (.bool neg) (.slice A1 n1 c1) (.bool neg) (.slice A2 n2 c2) (.bool false) (.slice none 0 0) = W at *
  have o1 : w.heap.size < w.heap.size + 1 := by omega
  have o2 : w.heap.size + 1 < w.heap.size + 1 + 1 := by omega
  generalize w.heap.size + 1 + 1 = r at *
  generalize w.heap.size + 1 = q at *
  generalize hp : w.heap.size = p at ba o1 ⊢
  clear hp
  have d1 : ¬ p = r := by omega
  have d2 : ¬ q = r := by omega
  have l0 := ba.c0
  have l1 := ba.c1
  have l2 := bb.c0
  have l3 := bb.c1
  go_region_held3 (fun w' => w'.cell? ⟨p, 0, none⟩ = some (.bool neg) ∧ w'.cell? ⟨p, 1, none⟩ = some (.slice A1 n1 c1) ∧ w'.cell? ⟨q, 1, none⟩ = some (.slice A2 n2 c2)) (first | exact ⟨cell_far2 d1 m0, cell_far2 d1 m1, cell_far2 d2 m3⟩ | go_keep)
    (first
      | (go_at_call 99; refine (plus_calls hx1.drew hy1.drew dx dy (by omega) (by omega)).mono ?_; rintro e w1 ⟨g, n, c, os, rfl, hg, own, hd, hv, hn, hb'⟩; have hb := undrew hb'; clear hb'; have HB1 := Shut.mk (bthen hbW hb); have k0 := old_cell hb l0; have k1 := old_cell hb l1; have k2 := old_cell hb l2; have k3 := old_cell hb l3; have BR1 := Shut.mk (br.below hb); have HV1 := Shut.mk hv; clear hv hb)
      | (go_at_call 89; refine (made_calls own.rd hd (by omega)).mono ?_; rintro e w2 ⟨v', rfl, hv2, hb2⟩; have HB2 := Shut.mk (bthen HB1.out hb2); have m0 := old_cell hb2 k0; have m1 := old_cell hb2 k1; have m2 := old_cell hb2 k2; have m3 := old_cell hb2 k3; have br2 := BR1.out.below hb2; have r0 := br2.c0; have r1 := br2.c1; have r2 := br2.f0; have r3 := br2.f1; have HV2 := Shut.mk hv2; obtain ⟨A', n', c', xs', rfl, _⟩ := hv2; clear hb2))
  go_wp2
  refine bodyPost_ret (v := .agg #[.bool (decide (sg neg (val 4294967296 os) < 0)), .slice A' n' c']) (by simp [results, Tryz.results54, go_sem, r0, r1]) rfl ?_
  rw [← HV1.out]
  exact ⟨_, rfl, (HV2.out.two BR1.out.lt _ _).mono HB1.out.size, below_two HB2.out br.ge _ _⟩

set_option maxHeartbeats 2000000 in
set_option maxRecDepth 100000 in
theorem Add_ge {w : World} {neg : Bool} {A1 A2 : Option Addr} {n1 c1 n2 c2 : Nat} {xs ys : List Int} (hx : RdS w .u32 A1 n1 c1 xs) (hy : RdS w .u32 A2 n2 c2 ys) (dx : Dgs 4294967296 xs) (dy : Dgs 4294967296 ys) (hl : n1 ≤ 4294967296) (hl2 : n2 ≤ 4294967296) (hle : val 4294967296 ys ≤ val 4294967296 xs) :
    Calls Tryz.prog 54 #[.agg #[.bool neg, .slice A1 n1 c1], .agg #[.bool !neg, .slice A2 n2 c2]] w (MadeRes w (sg neg (val 4294967296 xs - val 4294967296 ys))) := by
  obtain ⟨hbW, ba, bb, br⟩ := box3_facts w 24 24 24 (.bool neg) (.slice A1 n1 c1) (.bool (!neg)) (.slice A2 n2 c2) (.bool false) (.slice none 0 0)
  have hx1 := hx.below hbW
  have hy1 := hy.below hbW
  obtain ⟨z, hz, hz0⟩ : ∃ z, cmpI (val 4294967296 xs) (val 4294967296 ys) = z ∧ 0 ≤ z := by
    refine ⟨_, rfl, ?_⟩
    unfold cmpI; split <;> (try split) <;> omega
  have HLE := Shut.mk hle
  have HZ := Shut.mk hz
  clear hz hle
  have hnn : (neg == !neg) = false := by cases neg <;> rfl
  go_enter Tryz.func54, Tryz.ntmps54
  go_wp2_with fail
  change Calls _ _ _ (box3 w 24 24 24 (.bool neg) (.slice A1 n1 c1) (.bool (!neg)) (.slice A2 n2 c2) (.bool false) (.slice none 0 0)) _
  generalize box3 w 24 24 24 (.bool neg) (.slice A1 n1 c1) (.bool (!neg)) (.slice A2 n2 c2) (.bool false) (.slice none 0 0) = W at *
  have o1 : w.heap.size < w.heap.size + 1 := by omega
  have o2 : w.heap.size + 1 < w.heap.size + 1 + 1 := by omega
  generalize w.heap.size + 1 + 1 = r at *
  generalize w.heap.size + 1 = q at *
  generalize hp : w.heap.size = p at ba o1 ⊢
  clear hp
  have d1 : ¬ p = r := by omega
  have d2 : ¬ q = r := by omega
  refine (order_b hx1 hy1 dx dy).mono ?_
  rintro e W1 ⟨he, hbo⟩
  rw [HZ.out] at he
  subst he
  replace hx1 := hx1.below hbo
  replace hy1 := hy1.below hbo
  replace ba := ba.below hbo
  replace bb := bb.below hbo
  replace br := br.below hbo
  replace hbW := bthen hbW hbo
  clear hbo
  have j0 := ba.c0
  have j1 := ba.c1
  have j2 := bb.c0
  have j3 := bb.c1
  go_wp2_with fail
  have l0 := ba.c0
  have l1 := ba.c1
  have l2 := bb.c0
  have l3 := bb.c1
  go_region_held3 (fun w' => w'.cell? ⟨p, 0, none⟩ = some (.bool neg) ∧ w'.cell? ⟨p, 1, none⟩ = some (.slice A1 n1 c1) ∧ w'.cell? ⟨q, 1, none⟩ = some (.slice A2 n2 c2)) (first | exact ⟨cell_far2 d1 m0, cell_far2 d1 m1, cell_far2 d2 m3⟩ | go_keep)
    (first
      | (go_at_call 100; refine (minus_calls hx1.drew hy1.drew dx dy (by omega) HLE.out).mono ?_; rintro e w1 ⟨g, n, c, os, rfl, hg, own, hd, hv, hn, hb'⟩; have hb := undrew hb'; clear hb'; have HB1 := Shut.mk (bthen hbW hb); have k0 := old_cell hb l0; have k1 := old_cell hb l1; have k2 := old_cell hb l2; have k3 := old_cell hb l3; have BR1 := Shut.mk (br.below hb); have HV1 := Shut.mk hv; clear hv hb)
      | (go_at_call 89; refine (made_calls own.rd hd (by omega)).mono ?_; rintro e w2 ⟨v', rfl, hv2, hb2⟩; have HB2 := Shut.mk (bthen HB1.out hb2); have m0 := old_cell hb2 k0; have m1 := old_cell hb2 k1; have m2 := old_cell hb2 k2; have m3 := old_cell hb2 k3; have br2 := BR1.out.below hb2; have r0 := br2.c0; have r1 := br2.c1; have r2 := br2.f0; have r3 := br2.f1; have HV2 := Shut.mk hv2; obtain ⟨A', n', c', xs', rfl, _⟩ := hv2; clear hb2))
  go_wp2
  refine bodyPost_ret (v := .agg #[.bool (decide (sg neg (val 4294967296 os) < 0)), .slice A' n' c']) (by simp [results, Tryz.results54, go_sem, r0, r1]) rfl ?_
  rw [← HV1.out]
  exact ⟨_, rfl, (HV2.out.two BR1.out.lt _ _).mono HB1.out.size, below_two HB2.out br.ge _ _⟩

set_option maxHeartbeats 2000000 in
set_option maxRecDepth 100000 in
theorem Add_lt {w : World} {neg : Bool} {A1 A2 : Option Addr} {n1 c1 n2 c2 : Nat} {xs ys : List Int} (hx : RdS w .u32 A1 n1 c1 xs) (hy : RdS w .u32 A2 n2 c2 ys) (dx : Dgs 4294967296 xs) (dy : Dgs 4294967296 ys) (hl : n1 ≤ 4294967296) (hl2 : n2 ≤ 4294967296) (hle : val 4294967296 xs < val 4294967296 ys) :
    Calls Tryz.prog 54 #[.agg #[.bool neg, .slice A1 n1 c1], .agg #[.bool !neg, .slice A2 n2 c2]] w (MadeRes w (sg (!neg) (val 4294967296 ys - val 4294967296 xs))) := by
  obtain ⟨hbW, ba, bb, br⟩ := box3_facts w 24 24 24 (.bool neg) (.slice A1 n1 c1) (.bool (!neg)) (.slice A2 n2 c2) (.bool false) (.slice none 0 0)
  have hx1 := hx.below hbW
  have hy1 := hy.below hbW
  obtain ⟨z, hz, hz0⟩ : ∃ z, cmpI (val 4294967296 xs) (val 4294967296 ys) = z ∧ z < 0 := by
    refine ⟨_, rfl, ?_⟩
    unfold cmpI; split <;> (try split) <;> omega
  have HLE := Shut.mk hle
  have HZ := Shut.mk hz
  clear hz hle
  have hnn : (neg == !neg) = false := by cases neg <;> rfl
  go_enter Tryz.func54, Tryz.ntmps54
  go_wp2_with fail
  change Calls _ _ _ (box3 w 24 24 24 (.bool neg) (.slice A1 n1 c1) (.bool (!neg)) (.slice A2 n2 c2) (.bool false) (.slice none 0 0)) _
  generalize box3 w 24 24 24 (.bool neg) (.slice A1 n1 c1) (.bool (!neg)) (.slice A2 n2 c2) (.bool false) (.slice none 0 0) = W at *
  have o1 : w.heap.size < w.heap.size + 1 := by omega
  have o2 : w.heap.size + 1 < w.heap.size + 1 + 1 := by omega
  generalize w.heap.size + 1 + 1 = r at *
  generalize w.heap.size + 1 = q at *
  generalize hp : w.heap.size = p at ba o1 ⊢
  clear hp
  have d1 : ¬ p = r := by omega
  have d2 : ¬ q = r := by omega
  refine (order_b hx1 hy1 dx dy).mono ?_
  rintro e W1 ⟨he, hbo⟩
  rw [HZ.out] at he
  subst he
  replace hx1 := hx1.below hbo
  replace hy1 := hy1.below hbo
  replace ba := ba.below hbo
  replace bb := bb.below hbo
  replace br := br.below hbo
  replace hbW := bthen hbW hbo
  clear hbo
  have j0 := ba.c0
  have j1 := ba.c1
  have j2 := bb.c0
  have j3 := bb.c1
  go_wp2_with fail
  have l0 := ba.c0
  have l1 := ba.c1
  have l2 := bb.c0
  have l3 := bb.c1
  go_region_held3 (fun w' => w'.cell? ⟨q, 0, none⟩ = some (.bool (!neg)) ∧ w'.cell? ⟨q, 1, none⟩ = some (.slice A2 n2 c2) ∧ w'.cell? ⟨p, 1, none⟩ = some (.slice A1 n1 c1)) (first | exact ⟨cell_far2 d2 m2, cell_far2 d2 m3, cell_far2 d1 m1⟩ | go_keep)
    (first
      | (go_at_call 100; refine (minus_calls hy1.drew hx1.drew dy dx (by omega) (Int.le_of_lt HLE.out)).mono ?_; rintro e w1 ⟨g, n, c, os, rfl, hg, own, hd, hv, hn, hb'⟩; have hb := undrew hb'; clear hb'; have HB1 := Shut.mk (bthen hbW hb); have k0 := old_cell hb l0; have k1 := old_cell hb l1; have k2 := old_cell hb l2; have k3 := old_cell hb l3; have BR1 := Shut.mk (br.below hb); have HV1 := Shut.mk hv; clear hv hb)
      | (go_at_call 89; refine (made_calls own.rd hd (by omega)).mono ?_; rintro e w2 ⟨v', rfl, hv2, hb2⟩; have HB2 := Shut.mk (bthen HB1.out hb2); have m0 := old_cell hb2 k0; have m1 := old_cell hb2 k1; have m2 := old_cell hb2 k2; have m3 := old_cell hb2 k3; have br2 := BR1.out.below hb2; have r0 := br2.c0; have r1 := br2.c1; have r2 := br2.f0; have r3 := br2.f1; have HV2 := Shut.mk hv2; obtain ⟨A', n', c', xs', rfl, _⟩ := hv2; clear hb2))
  go_wp2
  refine bodyPost_ret (v := .agg #[.bool (decide (sg (!neg) (val 4294967296 os) < 0)), .slice A' n' c']) (by simp [results, Tryz.results54, go_sem, r0, r1]) rfl ?_
  rw [← HV1.out]
  exact ⟨_, rfl, (HV2.out.two BR1.out.lt _ _).mono HB1.out.size, below_two HB2.out br.ge _ _⟩

theorem Add_calls {w : World} {v v' : Value} {x y : Int} (hx : BV w v x) (hy : BV w v' y) : Calls Tryz.prog 54 #[v, v'] w (MadeRes w (x + y)) := by
  obtain ⟨neg, A1, n1, c1, xs, rfl, hr, dx, hl, rfl⟩ := hx
  obtain ⟨neg2, A2, n2, c2, ys, rfl, hr2, dy, hl2, rfl⟩ := hy
  by_cases h : neg2 = neg
  · subst h
    have e : sg neg2 (val 4294967296 xs) + sg neg2 (val 4294967296 ys) = sg neg2 (val 4294967296 xs + val 4294967296 ys) := by unfold sg; cases neg2 <;> simp <;> omega
    rw [e]; exact Add_same hr hr2 dx dy hl hl2
  · obtain rfl : neg2 = !neg := by cases neg <;> cases neg2 <;> simp at h ⊢
    by_cases hle : val 4294967296 ys ≤ val 4294967296 xs
    · have e : sg neg (val 4294967296 xs) + sg (!neg) (val 4294967296 ys) = sg neg (val 4294967296 xs - val 4294967296 ys) := by unfold sg; cases neg <;> simp <;> omega
      rw [e]; exact Add_ge hr hr2 dx dy hl hl2 hle
    · have e : sg neg (val 4294967296 xs) + sg (!neg) (val 4294967296 ys) = sg (!neg) (val 4294967296 ys - val 4294967296 xs) := by unfold sg; cases neg <;> simp <;> omega
      rw [e]; exact Add_lt hr hr2 dx dy hl hl2 (by omega)

end Go.Proofs.YtjeaakkbkjhldaaGreatDoor

set_option linter.unusedVariables false
set_option linter.unusedSimpArgs false
namespace Go.Proofs.YtjeaakkbkjhldaaGreatDoor
open Go.RowKit

/-! ### below -/
set_option maxHeartbeats 2000000 in
theorem below_calls {w : World} {v : Value} {z : Int} (h : BV w v z) :
    Calls Tryz.prog 95 #[v] w fun e w' => e = .returned (.bool (decide (z < 0))) ∧ Below w.heap.size w w' := by
  obtain ⟨neg, A, n, c, xs, rfl, hr, dx, hl, rfl⟩ := h
  obtain ⟨m1, xs', hx', dx', hm1, hv1, hn1, hnl1⟩ := nrm_of hr dx
  have HN1 := Shut.mk hnl1
  have HP : Shut (decide (sg neg (val 4294967296 xs) < 0) = (neg && decide (0 < m1))) := ⟨by
    rw [← hv1]
    have hl' := hx'.len
    by_cases h0 : xs' = []
    · subst h0
      have : m1 = 0 := by simpa using hl'.symm
      subst this
      unfold sg; cases neg <;> simp [val]
    · have hp := hn1.val_pos (B := 4294967296) (by omega) dx' h0
      have hpos : 0 < xs'.length := List.length_pos_iff.2 h0
      unfold sg; cases neg <;> simp <;> omega⟩
  rw [HP.out]
  clear hnl1 hv1 HP
  have b1 := hx'.big
  have b2 := hx'.cap
  cases neg with
  | false =>
    go_enter Tryz.func95, Tryz.ntmps95
    go_wp2
    go_ret
    exact ⟨rfl, alloc_below _ _⟩
  | true =>
    go_enter Tryz.func95, Tryz.ntmps95
    go_wp2_with fail
    refine (norm_calls (hr.alloc _)).mono ?_
    rintro e w' ⟨rfl, rfl⟩
    rw [HN1.out]
    go_wp2
    go_ret
    exact ⟨by simp, alloc_below _ _⟩

/-! ### Cmp -/
set_option maxHeartbeats 4000000 in
set_option maxRecDepth 100000 in
theorem Cmp_calls {w : World} {v v' : Value} {x y : Int} (hx : BV w v x) (hy : BV w v' y) :
    Calls Tryz.prog 51 #[v, v'] w fun e w' => e = .returned (.int .i64 (cmpI x y)) ∧ Below w.heap.size w w' := by
  have hx0 := hx
  have hy0 := hy
  obtain ⟨neg, A1, n1, c1, xs, rfl, hr, dx, hl, hzx⟩ := hx0
  obtain ⟨neg2, A2, n2, c2, ys, rfl, hr2, dy, hl2, hzy⟩ := hy0
  have hnx := val_nonneg (by omega) dx
  have hny := val_nonneg (by omega) dy
  have hx1 : x = val 4294967296 xs ∨ x = -val 4294967296 xs := by rw [hzx]; unfold sg; cases neg <;> simp
  have hy1 : y = val 4294967296 ys ∨ y = -val 4294967296 ys := by rw [hzy]; unfold sg; cases neg2 <;> simp
  by_cases h1 : x < 0
  · by_cases h2 : y < 0
    · have e1 : decide (x < 0) = true := by simpa using h1
      have e2 : decide (y < 0) = true := by simpa using h2
      have hc : cmpI x y = cmpI (val 4294967296 ys) (val 4294967296 xs) := by
        unfold cmpI
        repeat' split
        all_goals omega
      have HC := Shut.mk hc
      clear hc hzx hzy hx1 hy1 hnx hny h1 h2
      obtain ⟨hbW, ba, bb⟩ := box2_facts w 24 24 (.bool neg) (.slice A1 n1 c1) (.bool neg2) (.slice A2 n2 c2)
      replace hx := hx.below hbW
      replace hy := hy.below hbW
      replace hr := hr.below hbW
      replace hr2 := hr2.below hbW
      go_enter Tryz.func51, Tryz.ntmps51
      go_wp2_with fail
      change Calls _ _ _ (box2 w 24 24 (.bool neg) (.slice A1 n1 c1) (.bool neg2) (.slice A2 n2 c2)) _
      generalize box2 w 24 24 (.bool neg) (.slice A1 n1 c1) (.bool neg2) (.slice A2 n2 c2) = W at *
      generalize w.heap.size + 1 = q at *
      generalize hp : w.heap.size = p at ba ⊢
      clear hp
      refine (below_calls hx).mono ?_
      rintro e W1 ⟨he, hb⟩
      rw [e1] at he
      subst he
      replace hx := hx.below hb
      replace hy := hy.below hb
      replace hr := hr.below hb
      replace hr2 := hr2.below hb
      replace ba := ba.below hb
      replace bb := bb.below hb
      replace hbW := bthen hbW hb
      clear hb
      have j0 := ba.c0
      have j1 := ba.c1
      have j2 := bb.c0
      have j3 := bb.c1
      go_wp2_with fail
      refine (below_calls hy).mono ?_
      rintro e W1 ⟨he, hb⟩
      rw [e2] at he
      subst he
      replace hx := hx.below hb
      replace hy := hy.below hb
      replace hr := hr.below hb
      replace hr2 := hr2.below hb
      replace ba := ba.below hb
      replace bb := bb.below hb
      replace hbW := bthen hbW hb
      clear hb
      have j0 := ba.c0
      have j1 := ba.c1
      have j2 := bb.c0
      have j3 := bb.c1
      go_wp2_with fail
      refine (order_b hr2 hr dy dx).mono ?_
      rintro e W1 ⟨rfl, hb⟩
      replace hbW := bthen hbW hb
      clear hb
      go_wp2
      go_ret
      exact ⟨by rw [HC.out]; rfl, hbW⟩
    · have e1 : decide (x < 0) = true := by simpa using h1
      have e2 : decide (y < 0) = false := by simpa using h2
      have hc : cmpI x y = -1 := by
        unfold cmpI
        repeat' split
        all_goals omega
      have HC := Shut.mk hc
      clear hc hzx hzy hx1 hy1 hnx hny h1 h2
      obtain ⟨hbW, ba, bb⟩ := box2_facts w 24 24 (.bool neg) (.slice A1 n1 c1) (.bool neg2) (.slice A2 n2 c2)
      replace hx := hx.below hbW
      replace hy := hy.below hbW
      replace hr := hr.below hbW
      replace hr2 := hr2.below hbW
      go_enter Tryz.func51, Tryz.ntmps51
      go_wp2_with fail
      change Calls _ _ _ (box2 w 24 24 (.bool neg) (.slice A1 n1 c1) (.bool neg2) (.slice A2 n2 c2)) _
      generalize box2 w 24 24 (.bool neg) (.slice A1 n1 c1) (.bool neg2) (.slice A2 n2 c2) = W at *
      generalize w.heap.size + 1 = q at *
      generalize hp : w.heap.size = p at ba ⊢
      clear hp
      refine (below_calls hx).mono ?_
      rintro e W1 ⟨he, hb⟩
      rw [e1] at he
      subst he
      replace hx := hx.below hb
      replace hy := hy.below hb
      replace hr := hr.below hb
      replace hr2 := hr2.below hb
      replace ba := ba.below hb
      replace bb := bb.below hb
      replace hbW := bthen hbW hb
      clear hb
      have j0 := ba.c0
      have j1 := ba.c1
      have j2 := bb.c0
      have j3 := bb.c1
      go_wp2_with fail
      refine (below_calls hy).mono ?_
      rintro e W1 ⟨he, hb⟩
      rw [e2] at he
      subst he
      replace hx := hx.below hb
      replace hy := hy.below hb
      replace hr := hr.below hb
      replace hr2 := hr2.below hb
      replace ba := ba.below hb
      replace bb := bb.below hb
      replace hbW := bthen hbW hb
      clear hb
      have j0 := ba.c0
      have j1 := ba.c1
      have j2 := bb.c0
      have j3 := bb.c1
      go_wp2_with fail
      refine (below_calls hx).mono ?_
      rintro e W1 ⟨he, hb⟩
      rw [e1] at he
      subst he
      replace hx := hx.below hb
      replace hy := hy.below hb
      replace hr := hr.below hb
      replace hr2 := hr2.below hb
      replace ba := ba.below hb
      replace bb := bb.below hb
      replace hbW := bthen hbW hb
      clear hb
      have j0 := ba.c0
      have j1 := ba.c1
      have j2 := bb.c0
      have j3 := bb.c1
      go_wp2
      go_ret
      exact ⟨by rw [HC.out]; rfl, hbW⟩
  · by_cases h2 : y < 0
    · have e1 : decide (x < 0) = false := by simpa using h1
      have e2 : decide (y < 0) = true := by simpa using h2
      have hc : cmpI x y = 1 := by
        unfold cmpI
        repeat' split
        all_goals omega
      have HC := Shut.mk hc
      clear hc hzx hzy hx1 hy1 hnx hny h1 h2
      obtain ⟨hbW, ba, bb⟩ := box2_facts w 24 24 (.bool neg) (.slice A1 n1 c1) (.bool neg2) (.slice A2 n2 c2)
      replace hx := hx.below hbW
      replace hy := hy.below hbW
      replace hr := hr.below hbW
      replace hr2 := hr2.below hbW
      go_enter Tryz.func51, Tryz.ntmps51
      go_wp2_with fail
      change Calls _ _ _ (box2 w 24 24 (.bool neg) (.slice A1 n1 c1) (.bool neg2) (.slice A2 n2 c2)) _
      generalize box2 w 24 24 (.bool neg) (.slice A1 n1 c1) (.bool neg2) (.slice A2 n2 c2) = W at *
      generalize w.heap.size + 1 = q at *
      generalize hp : w.heap.size = p at ba ⊢
      clear hp
      refine (below_calls hx).mono ?_
      rintro e W1 ⟨he, hb⟩
      rw [e1] at he
      subst he
      replace hx := hx.below hb
      replace hy := hy.below hb
      replace hr := hr.below hb
      replace hr2 := hr2.below hb
      replace ba := ba.below hb
      replace bb := bb.below hb
      replace hbW := bthen hbW hb
      clear hb
      have j0 := ba.c0
      have j1 := ba.c1
      have j2 := bb.c0
      have j3 := bb.c1
      go_wp2_with fail
      refine (below_calls hx).mono ?_
      rintro e W1 ⟨he, hb⟩
      rw [e1] at he
      subst he
      replace hx := hx.below hb
      replace hy := hy.below hb
      replace hr := hr.below hb
      replace hr2 := hr2.below hb
      replace ba := ba.below hb
      replace bb := bb.below hb
      replace hbW := bthen hbW hb
      clear hb
      have j0 := ba.c0
      have j1 := ba.c1
      have j2 := bb.c0
      have j3 := bb.c1
      go_wp2_with fail
      refine (below_calls hy).mono ?_
      rintro e W1 ⟨he, hb⟩
      rw [e2] at he
      subst he
      replace hx := hx.below hb
      replace hy := hy.below hb
      replace hr := hr.below hb
      replace hr2 := hr2.below hb
      replace ba := ba.below hb
      replace bb := bb.below hb
      replace hbW := bthen hbW hb
      clear hb
      have j0 := ba.c0
      have j1 := ba.c1
      have j2 := bb.c0
      have j3 := bb.c1
      go_wp2
      go_ret
      exact ⟨by rw [HC.out]; rfl, hbW⟩
    · have e1 : decide (x < 0) = false := by simpa using h1
      have e2 : decide (y < 0) = false := by simpa using h2
      have hc : cmpI x y = cmpI (val 4294967296 xs) (val 4294967296 ys) := by
        unfold cmpI
        repeat' split
        all_goals omega
      have HC := Shut.mk hc
      clear hc hzx hzy hx1 hy1 hnx hny h1 h2
      obtain ⟨hbW, ba, bb⟩ := box2_facts w 24 24 (.bool neg) (.slice A1 n1 c1) (.bool neg2) (.slice A2 n2 c2)
      replace hx := hx.below hbW
      replace hy := hy.below hbW
      replace hr := hr.below hbW
      replace hr2 := hr2.below hbW
      go_enter Tryz.func51, Tryz.ntmps51
      go_wp2_with fail
      change Calls _ _ _ (box2 w 24 24 (.bool neg) (.slice A1 n1 c1) (.bool neg2) (.slice A2 n2 c2)) _
      generalize box2 w 24 24 (.bool neg) (.slice A1 n1 c1) (.bool neg2) (.slice A2 n2 c2) = W at *
      generalize w.heap.size + 1 = q at *
      generalize hp : w.heap.size = p at ba ⊢
      clear hp
      refine (below_calls hx).mono ?_
      rintro e W1 ⟨he, hb⟩
      rw [e1] at he
      subst he
      replace hx := hx.below hb
      replace hy := hy.below hb
      replace hr := hr.below hb
      replace hr2 := hr2.below hb
      replace ba := ba.below hb
      replace bb := bb.below hb
      replace hbW := bthen hbW hb
      clear hb
      have j0 := ba.c0
      have j1 := ba.c1
      have j2 := bb.c0
      have j3 := bb.c1
      go_wp2_with fail
      refine (below_calls hx).mono ?_
      rintro e W1 ⟨he, hb⟩
      rw [e1] at he
      subst he
      replace hx := hx.below hb
      replace hy := hy.below hb
      replace hr := hr.below hb
      replace hr2 := hr2.below hb
      replace ba := ba.below hb
      replace bb := bb.below hb
      replace hbW := bthen hbW hb
      clear hb
      have j0 := ba.c0
      have j1 := ba.c1
      have j2 := bb.c0
      have j3 := bb.c1
      go_wp2_with fail
      refine (below_calls hy).mono ?_
      rintro e W1 ⟨he, hb⟩
      rw [e2] at he
      subst he
      replace hx := hx.below hb
      replace hy := hy.below hb
      replace hr := hr.below hb
      replace hr2 := hr2.below hb
      replace ba := ba.below hb
      replace bb := bb.below hb
      replace hbW := bthen hbW hb
      clear hb
      have j0 := ba.c0
      have j1 := ba.c1
      have j2 := bb.c0
      have j3 := bb.c1
      go_wp2_with fail
      refine (order_b hr hr2 dx dy).mono ?_
      rintro e W1 ⟨rfl, hb⟩
      replace hbW := bthen hbW hb
      clear hb
      go_wp2
      go_ret
      exact ⟨by rw [HC.out]; rfl, hbW⟩

end Go.Proofs.YtjeaakkbkjhldaaGreatDoor

set_option linter.unusedVariables false
set_option linter.unusedSimpArgs false
namespace Go.Proofs.YtjeaakkbkjhldaaGreatDoor
open Go.RowKit

/-! ### Bits -/
set_option maxHeartbeats 2000000 in
theorem Bits_calls {w : World} {v : Value} {z : Int} (h : BV w v z) :
    Calls Tryz.prog 106 #[v] w fun e w' => e = .returned (.int .i64 (bl z.natAbs)) ∧ Below w.heap.size w w' := by
  obtain ⟨neg, A, n, c, xs, rfl, hr, dx, hl, rfl⟩ := h
  obtain ⟨m1, xs', hx', dx', hm1, hv1, hn1, hnl1⟩ := nrm_of hr dx
  have HN1 := Shut.mk hnl1
  have hnn := val_nonneg (by omega) dx'
  have HV : Shut ((((sg neg (val 4294967296 xs)).natAbs : Nat) : Int) = val 4294967296 xs') := ⟨by rw [← hv1]; exact natAbs_sg neg hnn⟩
  clear hnl1 hv1 hnn
  generalize (sg neg (val 4294967296 xs)).natAbs = V at *
  have b1 := hx'.big
  have b2 := hx'.cap
  have hlen := Shut.mk hx'.len
  match m1 with
  | 0 =>
    have hV : V = 0 := by
      have : xs' = [] := List.eq_nil_of_length_eq_zero hlen.out
      subst this
      have := HV.out
      simp [val] at this; exact this
    subst hV
    go_enter Tryz.func106, Tryz.ntmps106
    go_wp2_with fail
    refine (norm_calls (hr.alloc _)).mono ?_
    rintro e w' ⟨rfl, rfl⟩
    rw [HN1.out]
    go_wp2
    go_ret
    exact ⟨rfl, alloc_below _ _⟩
  | m + 1 =>
    obtain ⟨ad, rfl, hc⟩ := (hx'.alloc (.cells #[.bool neg, .slice A n c] 24)).cell m (by omega)
    obtain ⟨d0, d1⟩ := dg_lt (by omega) dx' m
    obtain ⟨t, ht⟩ := Int.eq_ofNat_of_zero_le d0
    have HB := Shut.mk (bl_val dx' hn1 hlen.out ht.symm HV.out)
    have ht32 : t < 4294967296 := by omega
    have HT := Shut.mk (bitLen_bl ht32)
    have hbt : bl t ≤ 32 := bl_le (by omega)
    rw [HB.out]
    rw [ht] at hc
    clear d0 d1 ht HB HV
    go_enter Tryz.func106, Tryz.ntmps106
    go_wp2_with fail
    refine (norm_calls (hr.alloc _)).mono ?_
    rintro e w' ⟨rfl, rfl⟩
    rw [HN1.out]
    go_wp2_with fail
    refine (Tryz.bits_Len32 (t : Int) _ (by omega) (by omega)).mono ?_
    rintro e w' ⟨rfl, rfl⟩
    rw [Int.toNat_natCast, HT.out]
    go_wp2
    go_ret
    exact ⟨by simp, alloc_below _ _⟩

/-! ### zero -/
set_option maxHeartbeats 2000000 in
theorem zero_calls {w : World} {v : Value} {z : Int} (h : BV w v z) :
    Calls Tryz.prog 60 #[v] w fun e w' => e = .returned (.bool (decide (z = 0))) ∧ Below w.heap.size w w' := by
  have h0 := h
  obtain ⟨neg, A, n, c, xs, rfl, h1⟩ := h0
  clear h1
  have HZ : Shut (((bl z.natAbs : Int) == 0) = decide (z = 0)) := ⟨by
    by_cases hz : z = 0
    · subst hz; simp [bl_zero]
    · have : bl z.natAbs ≠ 0 := by rw [Ne, bl_eq_zero]; omega
      simp [hz]; omega⟩
  have HZ2 : Shut ((bl z.natAbs == 0) = decide (z = 0)) := ⟨by
    by_cases hz : z = 0
    · subst hz; simp [bl_zero]
    · have : bl z.natAbs ≠ 0 := by rw [Ne, bl_eq_zero]; omega
      simp [hz]; omega⟩
  go_enter Tryz.func60, Tryz.ntmps60
  go_wp2_with fail
  refine (Bits_calls (h.alloc _)).mono ?_
  rintro e w1 ⟨rfl, hb⟩
  replace hb := bthen (alloc_below w _) hb
  go_wp2
  go_ret
  exact ⟨by first | (rw [← HZ.out]; rfl) | (rw [← HZ2.out]; rfl), hb⟩

end Go.Proofs.YtjeaakkbkjhldaaGreatDoor

set_option linter.unusedVariables false
set_option linter.unusedSimpArgs false
namespace Go.Proofs.YtjeaakkbkjhldaaGreatDoor
open Go.RowKit

/-! ### Mul -/
theorem Box.set {w W : World} {p : Nat} {a0 a1 : Value} (h : Box w W p a0 a1) {g j : Nat} (hg : ¬ p = g) (u : Value) : Box w (W.setCell ⟨g, j, none⟩ u) p a0 a1 := by
  have hb : (W.setCell ⟨g, j, none⟩ u).heap[p]? = W.heap[p]? := heap_setCell_other W ⟨g, j, none⟩ p u hg
  exact ⟨h.ge, by simpa using h.lt, (World.cell?_of_block (w := W) hb).trans h.c0, (World.cell?_of_block (w := W) hb).trans h.c1, (World.frozen?_of_block (w := W) hb).trans h.f0, (World.frozen?_of_block (w := W) hb).trans h.f1⟩
theorem Box.only {w W W1 : World} {p g : Nat} {a0 a1 : Value} (h : Box w W p a0 a1) (ho : Only W W1 g) (hg : ¬ p = g) : Box w W1 p a0 a1 := by
  have hb : W1.heap[p]? = W.heap[p]? := ho.block p hg
  exact ⟨h.ge, by rw [ho.size]; exact h.lt, (World.cell?_of_block (w := W) hb).trans h.c0, (World.cell?_of_block (w := W) hb).trans h.c1, (World.frozen?_of_block (w := W) hb).trans h.f0, (World.frozen?_of_block (w := W) hb).trans h.f1⟩

set_option maxHeartbeats 4000000 in
set_option maxRecDepth 100000 in
theorem Mul_raw {w : World} {neg neg2 : Bool} {A1 A2 : Option Addr} {n1 c1 n2 c2 : Nat} {xs ys : List Int} (hx : RdS w .u32 A1 n1 c1 xs) (hy : RdS w .u32 A2 n2 c2 ys) (dx : Dgs 4294967296 xs) (dy : Dgs 4294967296 ys) (hl : n1 ≤ 4294967296) (hl2 : n2 ≤ 4294967296) :
    Calls Tryz.prog 49 #[.agg #[.bool neg, .slice A1 n1 c1], .agg #[.bool neg2, .slice A2 n2 c2]] w (MadeRes w (sg (neg != neg2) (val 4294967296 xs * val 4294967296 ys))) := by
  obtain ⟨hbW, ba, bb, br⟩ := box3_facts w 24 24 24 (.bool neg) (.slice A1 n1 c1) (.bool neg2) (.slice A2 n2 c2) (.bool false) (.slice none 0 0)
  have hx1 := hx.below hbW
  have hy1 := hy.below hbW
  obtain ⟨m1, xs', hx', dx', hm1, hv1, hn1, hnl1⟩ := nrm_of hx1 dx
  obtain ⟨m2, ys', hy', dy', hm2, hv2, hn2, hnl2⟩ := nrm_of hy1 dy
  have HN1 := Shut.mk hnl1
  have HN2 := Shut.mk hnl2
  rw [← hv1, ← hv2]
  clear hnl1 hnl2 hv1 hv2 hn1 hn2
  have b1 := hx'.big
  have b2 := hx'.cap
  have b3 := hy'.big
  have b4 := hy'.cap
  go_enter Tryz.func49, Tryz.ntmps49
  go_wp2_with fail
  change Code.wp _ _ _ _ (box3 w 24 24 24 (.bool neg) (.slice A1 n1 c1) (.bool neg2) (.slice A2 n2 c2) (.bool false) (.slice none 0 0))
  generalize box3 w 24 24 24 (.bool neg) (.slice A1 n1 c1) (.bool neg2) (.slice A2 n2 c2) (.bool false) (.slice none 0 0) = W at *
  generalize w.heap.size + 1 + 1 = r at *
  generalize w.heap.size + 1 = q at *
  generalize hp : w.heap.size = p at ba ⊢
  clear hp
  have l1 := ba.c1
  have l3 := bb.c1
  go_region_held3 (fun w' => w'.cell? ⟨p, 1, none⟩ = some (.slice A1 n1 c1) ∧ w'.cell? ⟨q, 1, none⟩ = some (.slice A2 n2 c2)) (first | go_keep)
    (first
      | (go_at_call 91; (first | (with_reducible refine (norm_calls hx1.drew).mono ?_) | (with_reducible refine (norm_calls hy1.drew).mono ?_)); rintro e w1 ⟨rfl, rfl⟩; (first | rw [HN1.out] | rw [HN2.out])))
  go_wp2_with (at_make; refine wpl_make rfl _ _ 22 rfl 73 .u32 4 Tryz.underlying22 info_u32 .i64 .i64 _ _ (m1 + m2) rfl rfl (by omega) (by omega) (by omega) (by omega) ?_; intro w1 g hg own hb')
  have hb := undrew hb'
  clear hb' l1 l3
  simp only [World.size_drew] at hg
  have ba1 := ba.below hb
  have bb1 := bb.below hb
  have br1 := br.below hb
  have d1 : ¬ p = g := by have := ba.lt; omega
  have d2 : ¬ q = g := by have := bb.lt; omega
  have d3 : ¬ r = g := by have := br.lt; omega
  have HB1 := Shut.mk (bthen hbW hb)
  have hgw : w.heap.size ≤ g := by have := hbW.size; omega
  have hx2 := hx'.below hb
  have hy2 := hy'.below hb
  have HFX : Shut (∀ k ad, A1 = some ad → k < m1 → ad.block ≠ g) := ⟨fun k ad e hk => by
    obtain ⟨ad', e', hc⟩ := hx'.cell k hk
    rw [e] at e'; cases e'
    have := World.block_lt_of_cell? W _ hc
    rw [addr_add_block] at this; omega⟩
  have HFY : Shut (∀ k ad, A2 = some ad → k < m2 → ad.block ≠ g) := ⟨fun k ad e hk => by
    obtain ⟨ad', e', hc⟩ := hy'.cell k hk
    rw [e] at e'; cases e'
    have := World.block_lt_of_cell? W _ hc
    rw [addr_add_block] at this; omega⟩
  clear hx hy hx1 hy1 hb hbW ba bb br
  go_loopw [27] (fun i wr => ∃ (k : Nat) (os : List Int), k ≤ m1 ∧ i = .int .i64 k ∧ Shut (MulInv 4294967296 xs' ys' os k) ∧ OwnS wr .u32 73 g (m1 + m2) (m1 + m2) os ∧ Only w1 wr g) (fun i _ => m1 - (intOf i).toNat)
  case atStart => exact ⟨0, _, Nat.zero_le _, rfl, ⟨MulInv.start (by omega) xs' ys' _⟩, own, Only.refl _ _⟩
  case round =>
    clear own
    obtain ⟨k, os0, hk, rfl, HI, own0, ho0⟩ := hrel
    by_cases hlt : k < m1
    · obtain ⟨ad, rfl, hcell⟩ := hx2.cell k hlt
      have hcell2 := (ho0.cell (a := ad.add k) (by rw [addr_add_block]; exact HFX.out k ad rfl hlt)).trans hcell
      clear hcell
      have r1 := dg_lt (by omega) dx' k
      obtain ⟨wo, rfl⟩ : ∃ wo : World, wo = wr := ⟨_, rfl⟩
      go_wp2
      go_loopw [10, 34] (fun cy j wr => ∃ (l : Nat) (cc : Int) (os : List Int), l ≤ m2 ∧ j = .int .i64 l ∧ cy = .int .u64 cc ∧ Shut (MulRow 4294967296 (dg xs' k) ys' os0 os k l cc) ∧ OwnS wr .u32 73 g (m1 + m2) (m1 + m2) os ∧ Only w1 wr g) (fun _ j _ => m2 - (intOf j).toNat)
      case atStart => exact ⟨0, 0, _, Nat.zero_le _, rfl, rfl, ⟨MulRow.start (by omega) HI.out.dig k⟩, own0, ho0⟩
      case round =>
        clear own0 ho0 hcell2
        obtain ⟨l, cc, os, hl', rfl, rfl, HR, own, ho⟩ := hrel
        have i0 := HR.out.c0
        have i1 := HR.out.c1
        by_cases hlt2 : l < m2
        · obtain ⟨ad2, rfl, hcell3⟩ := hy2.cell l hlt2
          have hcell4 := (ho.cell (a := ad2.add l) (by rw [addr_add_block]; exact HFY.out l ad2 rfl hlt2)).trans hcell3
          clear hcell3
          have r2 := dg_lt (by omega) dy' l
          have r3 := dg_lt (by omega) HR.out.dig (k + l)
          have fz := own.frozen (k + l)
          have fc := own.cell (k + l) (by omega)
          have hmb := mul_bd r1.1 r1.2 r2.1 r2.2
          have m0 := hmb.1
          have m4 : dg xs' k * dg ys' l ≤ 18446744065119617025 := by have := hmb.2; omega
          have HS := Shut.mk (HR.out.step r1.1 r1.2 dy' (by rw [own.len]; omega) rfl rfl rfl)
          clear hmb
          go_wp2
          go_roundw
          case rel => exact ⟨l + 1, _, _, by omega, by go_num, rfl, HS, own.set (k + l) _, ho.set (k + l) _⟩
          case measure => simp [intOf]; omega
        · obtain rfl : l = m2 := by omega
          have fz := own.frozen (k + l)
          have fc := own.cell (k + l) (by omega)
          have HD := Shut.mk (HR.out.done HI.out hy'.len (by rw [own.len]; omega) rfl)
          go_wp2
          go_roundw
          case rel => exact ⟨k + 1, _, by omega, by go_num, HD, own.set (k + l) _, ho.set (k + l) _⟩
          case measure => simp [intOf]; omega
    · obtain rfl : k = m1 := by omega
      have HV : Shut (val 4294967296 os0 = val 4294967296 xs' * val 4294967296 ys') := ⟨by
        have := HI.out.eq
        rw [List.take_of_length_le (by rw [hx'.len]; exact Nat.le_refl _)] at this; exact this⟩
      have HD := Shut.mk HI.out.dig
      have ba2 := ba1.only ho0 d1
      have bb2 := bb1.only ho0 d2
      have br2 := br1.only ho0 d3
      have f0 := ba2.c0
      have f1 := bb2.c0
      have HB2 := Shut.mk (ho0.below HB1.out hgw)
      clear HI ho0 ba1 bb1 br1 ba2 bb2
      go_wp2_with fail
      refine (made_calls own0.rd HD.out (by omega)).mono ?_
      rintro e w2 ⟨v', rfl, hv2, hb2⟩
      rw [HV.out] at hv2
      replace hv2 : NBV wr.heap.size w2 v' (sg (neg != neg2) (val 4294967296 xs' * val 4294967296 ys')) := hv2
      have HB3 := Shut.mk (bthen HB2.out hb2)
      have HL := Shut.mk (show r < wr.heap.size from br2.lt)
      have br3 := br2.below hb2
      have s0 := br3.c0
      have s1 := br3.c1
      have s2 := br3.f0
      have s3 := br3.f1
      have HGE := Shut.mk br3.ge
      have HV2 := Shut.mk hv2
      obtain ⟨A', n', c', xs3, rfl, hrest⟩ := hv2
      clear hrest hb2 br2 br3 own0 f0 f1
      go_wp2
      refine bodyPost_ret (v := .agg #[.bool (decide (sg (neg != neg2) (val 4294967296 xs' * val 4294967296 ys') < 0)), .slice A' n' c']) (by simp [results, Tryz.results49, go_sem, s0, s1]) rfl ?_
      exact ⟨_, rfl, (HV2.out.two HL.out _ _).mono HB2.out.size, below_two HB3.out HGE.out _ _⟩
theorem Mul_calls {w : World} {v v' : Value} {x y : Int} (hx : BV w v x) (hy : BV w v' y) : Calls Tryz.prog 49 #[v, v'] w (MadeRes w (x * y)) := by
  obtain ⟨neg, A1, n1, c1, xs, rfl, hr, dx, hl, rfl⟩ := hx
  obtain ⟨neg2, A2, n2, c2, ys, rfl, hr2, dy, hl2, rfl⟩ := hy
  have e : sg neg (val 4294967296 xs) * sg neg2 (val 4294967296 ys) = sg (neg != neg2) (val 4294967296 xs * val 4294967296 ys) := by unfold sg; cases neg <;> cases neg2 <;> simp [Int.neg_mul, Int.mul_neg]
  rw [e]
  exact Mul_raw hr hr2 dx dy hl hl2

end Go.Proofs.YtjeaakkbkjhldaaGreatDoor

set_option linter.unusedVariables false
set_option linter.unusedSimpArgs false
namespace Go.Proofs.YtjeaakkbkjhldaaGreatDoor
open Go.RowKit

theorem Seg.trans {q q' e e' : Int} {ds xs os os2 : List Int} {j m : Nat} (h : Seg q e ds xs os j m) (h' : Seg q' e' ds os os2 j m) : Seg (q + q') (e + e') ds xs os2 j m :=
  ⟨h'.dig, fun t ht => (h'.same t ht).trans (h.same t ht), by
    have a := h.eq
    have b := h'.eq
    rw [Int.mul_add, Int.add_mul]; omega⟩
def DivRes (w : World) (X Y : Int) (n1 n2 : Nat) (en : Ending) (w' : World) : Prop :=
  ∃ g1 m1 k1 qs g2 m2 k2 os, en = .returned (.tuple #[.slice (some ⟨g1, 0, none⟩) m1 k1, .slice (some ⟨g2, 0, none⟩) m2 k2]) ∧ w.heap.size ≤ g1 ∧ w.heap.size ≤ g2 ∧ OwnS w' .u32 73 g1 m1 k1 qs ∧ OwnS w' .u32 73 g2 m2 k2 os ∧
    Dgs 4294967296 qs ∧ Dgs 4294967296 os ∧ val 4294967296 qs = X / Y ∧ val 4294967296 os = X % Y ∧ m1 ≤ n1 + 1 ∧ m2 ≤ n2 ∧ Below w.heap.size w w'

set_option maxHeartbeats 4000000 in
set_option maxRecDepth 100000 in
theorem divide_calls {w : World} {A1 A2 : Option Addr} {n1 c1 m c2 : Nat} {xs ys : List Int} (hx : RdS w .u32 A1 n1 c1 xs) (hy : RdS w .u32 A2 (m + 1) c2 ys) (dx : Dgs 4294967296 xs) (dy : Dgs 4294967296 ys) (ny : Nrm ys) (h12 : m + 1 ≤ n1) (hl : n1 ≤ 4294967296) :
    Calls Tryz.prog 136 #[.slice A1 n1 c1, .slice A2 (m + 1) c2] w (DivRes w (val 4294967296 xs) (val 4294967296 ys) n1 (m + 1)) := by
  have b1 := hx.big
  have b2 := hx.cap
  have b3 := hy.big
  have b4 := hy.cap
  obtain ⟨d0, d1⟩ := dg_lt (by omega) dy m
  obtain ⟨t, ht⟩ := Int.eq_ofNat_of_zero_le d0
  have hlen := hy.len
  have ht0 : t ≠ 0 := by
    intro e
    have := ny (by intro e; subst e; simp at hlen)
    rw [hlen, Nat.add_sub_cancel, ht, e] at this
    exact this rfl
  have ht32 : t < 4294967296 := by omega
  have HT := Shut.mk (bitLen_bl ht32)
  obtain ⟨t1, t2, t3⟩ := bl_bounds ht0
  have hbt : bl t ≤ 32 := bl_le (by omega)
  obtain ⟨ad, rfl, hc⟩ := hy.cell m (by omega)
  rw [ht] at hc
  clear t2 ht0
  go_enter Tryz.func136, Tryz.ntmps136
  go_wp2_with fail
  refine (Tryz.bits_LeadingZeros32 (t : Int) _ (by omega) (by omega)).mono ?_
  rintro e w' ⟨rfl, hw⟩
  obtain rfl := hw.symm
  rw [Int.toNat_natCast, HT.out, show (32 - (bl t : Int)) = ((32 - bl t : Nat) : Int) from by omega]
  have hb32 : 32 - bl t < 32 := by omega
  have HTB : Shut (((t : Int) + 1) * 2 ^ (32 - bl t) ≤ 4294967296) := ⟨by
    have h1 : ((t : Int) + 1) ≤ 2 ^ bl t := by
      have e : ((2 ^ bl t : Nat) : Int) = (2 : Int) ^ bl t := by rw [Int.natCast_pow]; rfl
      omega
    have h2 : ((t : Int) + 1) * 2 ^ (32 - bl t) ≤ 2 ^ bl t * 2 ^ (32 - bl t) := Int.mul_le_mul_of_nonneg_right h1 (Int.le_of_lt (Int.pow_pos (by omega)))
    rw [← Int.pow_add, show bl t + (32 - bl t) = 32 by omega] at h2
    exact h2⟩
  generalize 32 - bl t = b at *
  clear HT hbt t1 t3
  go_wp2_with fail
  refine (shifted_calls hx dx (by omega) hb32).mono ?_
  rintro e w1 ⟨g1, rs0, rfl, hg1, own1, dr0, hv1, hb1⟩
  have HV1 := Shut.mk hv1
  clear hv1
  go_wp2_with fail
  refine (shifted_calls (hy.below hb1) dy (by omega) hb32).mono ?_
  rintro e w2 ⟨g2, ds, rfl, hg2, own2, dd, hv2, hb2⟩
  have own1' := own1.below hb2
  have hg2' : g1 < g2 := by have := own1.lt; omega
  have hg3 := own1'.lt
  have HB2 := Shut.mk (bthen hb1 hb2)
  have hsz2 := own2.lt
  clear own1 hb1 hb2 hc
  -- the divisor, moved up, has as many digits as it had
  obtain ⟨hp0, hp1⟩ := pow31 hb32
  have HD : Shut (val 4294967296 ds < 4294967296 ^ (m + 1) ∧ 4294967296 ^ m ≤ val 4294967296 ys ∧ val 4294967296 ys ≤ val 4294967296 ds) := ⟨by
    have e : ys = ys.take (m + 1) := by rw [List.take_of_length_le (by omega)]
    have e2 : val 4294967296 ys = val 4294967296 (ys.take m) + 4294967296 ^ m * dg ys m := by
      conv => lhs; rw [e]
      rw [val_take_succ]
    have l1 := val_lt (by omega) (dy.take m)
    rw [List.length_take, Nat.min_eq_left (by omega)] at l1
    have l2 : val 4294967296 ys + 1 ≤ 4294967296 ^ m * ((t : Int) + 1) := by rw [e2, ht, Int.mul_add, Int.mul_one]; omega
    have l3 : (val 4294967296 ys + 1) * 2 ^ b ≤ 4294967296 ^ m * ((t : Int) + 1) * 2 ^ b := Int.mul_le_mul_of_nonneg_right l2 (Int.le_of_lt hp0)
    have l4 : 4294967296 ^ m * ((t : Int) + 1) * 2 ^ b ≤ 4294967296 ^ m * 4294967296 := by
      rw [Int.mul_assoc]
      exact Int.mul_le_mul_of_nonneg_left HTB.out (Int.le_of_lt (pow_pos' (by omega) m))
    have l5 := ny.val_ge (by omega) dy (by intro e; subst e; simp at hlen)
    rw [hlen, Nat.add_sub_cancel] at l5
    have l6 : 0 ≤ val 4294967296 ys := val_nonneg (by omega) dy
    have l7 : 1 * val 4294967296 ys ≤ 2 ^ b * val 4294967296 ys := Int.mul_le_mul_of_nonneg_right (by omega) l6
    refine ⟨?_, l5, by omega⟩
    rw [hv2, Int.pow_succ, Int.mul_comm (2 ^ b)]
    rw [Int.add_mul, Int.one_mul] at l3
    omega⟩
  have HNL : Shut (nlen ds (m + 1 + 1) = m + 1) := ⟨by
    have z := dg_high (B := 4294967296) (by omega) dd HD.out.1 (t := m + 1) (Nat.le_refl _)
    have nz : dg ds m ≠ 0 := by
      intro e0
      have := val_take_succ 4294967296 ds m
      have e1 : val 4294967296 ds = val 4294967296 (ds.take (m + 1)) := by
        rw [val_take_drop 4294967296 ds (m + 1) (by rw [own2.len]; omega), val_eq_of_dg (xs := ds.drop (m + 1)) (ys := []) (fun t => by rw [dg_drop, dg_high (B := 4294967296) (by omega) dd HD.out.1 (by omega), dg_nil])]
        simp [val]
      rw [e0, Int.mul_zero, Int.add_zero] at this
      have l1 := val_lt (by omega) (dd.take m)
      rw [List.length_take, Nat.min_eq_left (by rw [own2.len]; omega)] at l1
      have := HD.out.2
      omega
    unfold nlen
    rw [if_pos z]
    unfold nlen
    rw [if_neg nz]⟩
  have HV2 := Shut.mk hv2
  clear hv2
  go_wp2_with fail
  refine (norm_calls own2.rd).mono ?_
  rintro e w' ⟨rfl, rfl⟩
  rw [HNL.out]
  clear HNL
  go_wp2_with (at_make; refine wpl_make rfl _ _ 22 rfl 73 .u32 4 Tryz.underlying22 info_u32 .i64 .i64 _ _ (n1 - m) rfl rfl (by omega) (by omega) (by omega) (by omega) ?_; intro w3 g3 hg4 own3 hb3)
  have own1 := own1'.below hb3
  have own2b := own2.below hb3
  have HB3 := Shut.mk (bthen HB2.out hb3)
  have hgw : w.heap.size ≤ g1 := hg1
  have hgw3 : w.heap.size ≤ g3 := by have := HB2.out.size; omega
  have hg13 : g1 < g3 := by omega
  have hg23 : g2 < g3 := by omega
  have htop := dg_lt (by omega) dd m
  have HTP : Shut (0 < dg ds m) := ⟨by
    have nz : dg ds m ≠ 0 := by
      intro e0
      have := val_take_succ 4294967296 ds m
      have e1 : val 4294967296 ds = val 4294967296 (ds.take (m + 1)) := by
        rw [val_take_drop 4294967296 ds (m + 1) (by rw [own2.len]; omega), val_eq_of_dg (xs := ds.drop (m + 1)) (ys := []) (fun t => by rw [dg_drop, dg_high (B := 4294967296) (by omega) dd HD.out.1 (by omega), dg_nil])]
        simp [val]
      rw [e0, Int.mul_zero, Int.add_zero] at this
      have l1 := val_lt (by omega) (dd.take m)
      rw [List.length_take, Nat.min_eq_left (by rw [own2.len]; omega)] at l1
      have := HD.out.2
      omega
    omega⟩
  have hdl := own2.len
  have HDS : Shut (val 4294967296 (ds.take (m + 1)) = val 4294967296 ds) := ⟨by
    rw [val_take_drop 4294967296 ds (m + 1) (by rw [hdl]; omega), val_eq_of_dg (xs := ds.drop (m + 1)) (ys := []) (fun t => by rw [dg_drop, dg_high (B := 4294967296) (by omega) dd HD.out.1 (by omega), dg_nil])]
    simp [val]⟩
  have HStart : Shut (DivInv 4294967296 (val 4294967296 ds) rs0 rs0 (List.replicate (n1 - m) 0) (n1 - m)) := ⟨by
    have e : n1 - m = n1 - (m + 1) + 1 := by omega
    have := DivInv.start (B := 4294967296) (D := val 4294967296 ds) (p := 2 ^ b) (A := val 4294967296 xs) (Bv := val 4294967296 ys) (rs0 := rs0) (qs := List.replicate (n1 - m) 0) (n1 := n1) (n2 := m + 1) (by omega) dr0 (Dgs.replicate (by omega) _) own1.len (by rw [List.length_replicate]; omega) h12 (by omega) hp0 HV1.out (by have := val_lt (by omega) dx; rw [hx.len] at this; exact this) HV2.out (by simpa using HD.out.2.1)
    rw [← e] at this; exact this⟩
  clear own1' own2 hb3 hdl hlen ht hsz2 hg3
  go_loopw [11] (fun i wr => ∃ (J : Nat) (rs qs : List Int), J ≤ n1 - m ∧ i = .int .i64 ((J : Int) - 1) ∧ Shut (DivInv 4294967296 (val 4294967296 ds) rs0 rs qs J) ∧ OwnS wr .u32 73 g1 (n1 + 1) (n1 + 1) rs ∧ OwnS wr .u32 73 g2 (m + 1 + 1) (m + 1 + 1) ds ∧ OwnS wr .u32 73 g3 (n1 - m) (n1 - m) qs ∧ Below w.heap.size w wr) (fun i _ => (intOf i + 1).toNat)
  case atStart => exact ⟨n1 - m, rs0, _, Nat.le_refl _, by congr 1, HStart, own1, own2b, own3, HB3.out⟩
  case round =>
    clear own1 own2b own3 HB3 HStart
    obtain ⟨J, rs, qs, hJ, rfl, HI, own1, own2, own3, hbw⟩ := hrel
    match J with
    | 0 =>
      obtain ⟨D1, D2⟩ := HI.out.done hp0 HV1.out HV2.out
      have HD1 := Shut.mk D1
      have HD2 := Shut.mk D2
      have HQ : Shut (val 4294967296 qs = val 4294967296 xs / val 4294967296 ys ∧ val 4294967296 xs - val 4294967296 ys * val 4294967296 qs = val 4294967296 xs % val 4294967296 ys) := ⟨by
        have hY : 0 < val 4294967296 ys := by have := HD.out.2.1; have := pow_pos' (B := 4294967296) (by omega) m; omega
        have hr0 : 0 ≤ val 4294967296 rs := val_nonneg (by omega) HI.out.rdig
        rw [D1] at hr0
        have h0 : 0 ≤ val 4294967296 xs - val 4294967296 ys * val 4294967296 qs := by
          have := Int.le_of_mul_le_mul_left (by rw [Int.mul_zero]; exact hr0 : 2 ^ b * 0 ≤ 2 ^ b * (val 4294967296 xs - val 4294967296 ys * val 4294967296 qs)) hp0
          exact this
        have e1 : val 4294967296 xs = (val 4294967296 xs - val 4294967296 ys * val 4294967296 qs) + val 4294967296 ys * val 4294967296 qs := by omega
        constructor
        · conv => rhs; rw [e1]
          rw [Int.add_mul_ediv_left _ _ (by omega), Int.ediv_eq_zero_of_lt h0 D2, Int.zero_add]
        · conv => rhs; rw [e1]
          rw [Int.add_mul_emod_self_left, Int.emod_eq_of_lt h0 D2]⟩
      have HR1 : Shut (Dgs 4294967296 rs ∧ Dgs 4294967296 qs ∧ val 4294967296 rs < 4294967296 ^ (m + 1)) := ⟨HI.out.rdig, HI.out.qdig, by
        have := HI.out.lt
        simp only [List.drop_zero] at this
        have := HD.out.1
        omega⟩
      clear D1 D2 HI own2
      go_wp2_with (at_make; refine wpl_make rfl _ _ 22 rfl 73 .u32 4 Tryz.underlying22 info_u32 .i64 .i64 _ _ (m + 1) rfl rfl (by omega) (by omega) (by omega) (by omega) ?_; intro w5 g4 hg5 own5 hb5)
      have own1b := own1.below hb5
      have own3b := own3.below hb5
      have hgw4 : w.heap.size ≤ g4 := by have := hbw.size; omega
      have HB5 := Shut.mk (bthen hbw hb5)
      have hl1 := own1.lt
      have hl3 := own3.lt
      have hg14 : g1 < g4 := by omega
      have hg34 : g3 < g4 := by omega
      clear own1 own3 hb5 hbw hl1 hl3 hg5
      go_loopw [98] (fun i wr => ∃ (k : Nat) (os : List Int), k ≤ m + 1 ∧ i = .int .i64 k ∧ Shut (BackInv 4294967296 (2 ^ b) rs os k) ∧ OwnS wr .u32 73 g4 (m + 1) (m + 1) os ∧ Only w5 wr g4) (fun i _ => m + 1 - (intOf i).toNat)
      case atStart => exact ⟨0, _, Nat.zero_le _, rfl, ⟨BackInv.start (by omega) rs _⟩, own5, Only.refl _ _⟩
      case round =>
        clear own5
        obtain ⟨k, os, hk, rfl, HI, own, ho⟩ := hrel
        have own1 := ho.own own1b (by omega : g1 ≠ g4)
        have own3 := ho.own own3b (by omega : g3 ≠ g4)
        by_cases hlt : k < m + 1
        · have e1 := own1.cell k (by omega)
          have e2 := own1.cell (k + 1) (by omega)
          have r1 := dg_lt (by omega) HR1.out.1 k
          have r2 := dg_lt (by omega) HR1.out.1 (k + 1)
          have fz := own.frozen k
          have fc := own.cell k hlt
          have hor := or_add32 r2.1 r2.2 r1.1 r1.2
          have p0 : (0 : Int) ≤ (k : Int) := by omega
          have p1 : (k : Int) + 1 < (n1 : Int) + 1 := by omega
          have p2 : (k : Int) < (n1 : Int) + 1 := by omega
          have p3 : (k : Int) < (m : Int) + 1 := by omega
          have HS := Shut.mk (HI.out.step (pow_split hb32) hp0 (Int.pow_pos (by omega)) HR1.out.1 (by rw [own.len]; omega) rfl)
          go_wp2
          have w1 : IntKind.i64.wrap ((k : Int) + 1) = (k : Int) + 1 := by rw [IntKind.wrap_i64]; omega
          have w2 : (0 : Int) ≤ (k : Int) + 1 := by omega
          have w3 : ((k : Int) + 1).toNat = k + 1 := by omega
          go_still_tail 19, (by kernel_rfl)
          change wpList _ _ _ _ _ wr.drew
          clear w1 w2 w3
          go_wp2
          go_roundw
          case rel => exact ⟨k + 1, _, by omega, by go_num, HS, (own.set k _).drew, (ho.set k _).drew⟩
          case measure => simp [intOf]; omega
        · obtain rfl : k = m + 1 := by omega
          have HV : Shut (val 4294967296 os = val 4294967296 xs - val 4294967296 ys * val 4294967296 qs) := ⟨HI.out.done (by omega) hp0 HR1.out.1 own.len HD1.out HR1.out.2.2 (by rw [own1.len]; omega)⟩
          have HDig := Shut.mk HI.out.dig
          have HB6 := Shut.mk (ho.below HB5.out hgw4)
          go_wp2
          go_ret2
          exact ⟨g3, _, _, qs, g4, _, _, os, rfl, hgw3, hgw4, own3, own, HR1.out.2.1, HDig.out, HQ.out.1, by rw [HV.out, HQ.out.2], by omega, by omega, HB6.out⟩
    | k + 1 =>
      have c1' := own1.cell (k + (m + 1)) (by omega)
      have c2' := own1.cell (k + m) (by omega)
      have c3' := own2.cell m (by omega)
      have r1 := dg_lt (by omega) HI.out.rdig (k + (m + 1))
      have r2 := dg_lt (by omega) HI.out.rdig (k + m)
      have hor := or_add32 r1.1 r1.2 r2.1 r2.2
      have p0 : (0 : Int) ≤ (k : Int) := by omega
      have p1 : (k : Int) + ((m : Int) + 1) < (n1 : Int) + 1 := by omega
      have p2 := HTP.out
      have HG : Shut (0 ≤ min ((dg rs (k + (m + 1)) * 4294967296 + dg rs (k + m)) / dg ds m) 4294967295 ∧ min ((dg rs (k + (m + 1)) * 4294967296 + dg rs (k + m)) / dg ds m) 4294967295 ≤ 4294967295 ∧ val 4294967296 ((rs.drop k).take (m + 1 + 1)) < (min ((dg rs (k + (m + 1)) * 4294967296 + dg rs (k + m)) / dg ds m) 4294967295 + 1) * val 4294967296 ds ∧ val 4294967296 (rs.drop k) = val 4294967296 ((rs.drop k).take (m + 1 + 1))) := ⟨by
        have hdm : dg (ds.take (m + 1)) (m + 1 - 1) = dg ds m := by rw [Nat.add_sub_cancel, dg_take, if_pos (by omega)]
        have := guess_ge (B := 4294967296) (D := val 4294967296 ds) (ds := ds.take (m + 1)) (n := m + 1) (rs := rs) (j := k) (top := dg rs (k + (m + 1)) * 4294967296 + dg rs (k + m)) (g := min ((dg rs (k + (m + 1)) * 4294967296 + dg rs (k + m)) / dg ds m) 4294967295) (by omega) (dd.take _) (by omega) (by rw [List.length_take, own2.len]; omega) HDS.out (by rw [hdm]; exact HTP.out) HI.out.rdig (by rw [own1.len]; omega) HI.out.lt (by rw [show k + (m + 1) - 1 = k + m by omega]) (by rw [hdm]; omega)
        exact ⟨this.1, by omega, this.2.2⟩⟩
      go_wp2
      go_quiet (fail)
      go_wp2_with fail
      rw [show k + (m + 1) + 1 - k = m + 1 + 1 from by omega]
      generalize min ((dg rs (k + (m + 1)) * 4294967296 + dg rs (k + m)) / dg ds m) 4294967295 = gs at *
      have HR := (own2.take (m := m + 1) (by omega)).rd
      have s0 := HG.out.1
      have s1 := HG.out.2.1
      refine (takes_calls (own1.drewN _) (by omega) (by omega) (by omega) HI.out.rdig (HR.drewN _) (dd.take _) (by intro a e; cases e; simp; omega) (by omega) s0 s1).mono ?_
      rintro e w5 ⟨tt, os, rfl, own5, HSeg, ho5⟩
      have HB5 := Shut.mk (ho5.below (hbw.drewN _) hgw)
      have own25 := ho5.own (own2.drewN _) (by omega : g2 ≠ g1)
      have own35 := ho5.own (own3.drewN _) (by omega : g3 ≠ g1)
      have HSeg' := Shut.mk HSeg
      have HRL := Shut.mk own1.len
      have HGz := Shut.mk HG.out.2.2.2
      clear hor c1' c2' c3' HSeg ho5 hbw HR own2 own3 own1 r1 r2
      go_wp2
      go_loopw [13, 15] (fun gv tv wr => ∃ (g : Int) (tt : Bool) (os : List Int), gv = .int .u64 g ∧ tv = .bool tt ∧ 0 ≤ g ∧ g ≤ 4294967295 ∧ Shut (Seg (-g) (if tt then -1 else 0) (ds.take (m + 1)) rs os k (m + 1 + 1)) ∧ Shut (val 4294967296 ((rs.drop k).take (m + 1 + 1)) < (g + 1) * val 4294967296 ds) ∧ OwnS wr .u32 73 g1 (n1 + 1) (n1 + 1) os ∧ Only w5 wr g1) (fun gv _ _ => (intOf gv).toNat)
      case atStart => exact ⟨gs, tt, os, rfl, rfl, s0, s1, HSeg', ⟨HG.out.2.2.1⟩, own5, Only.refl _ _⟩
      case round =>
        clear own5 HSeg' HG s0 s1
        obtain ⟨g, tt, os, rfl, rfl, s0, s1, HS, HL, own, ho⟩ := hrel
        have own2 := ho.own own25 (by omega : g2 ≠ g1)
        have own3 := ho.own own35 (by omega : g3 ≠ g1)
        have HB6 := Shut.mk (ho.below HB5.out hgw)
        cases tt with
        | true =>
          have hg1' : 1 ≤ g ∧ val 4294967296 ((rs.drop k).take (m + 1 + 1)) < g * val 4294967296 ds := by
            have e := HS.out.eq
            have l1 := val_lt (by omega) ((HS.out.dig.drop k).take (m + 1 + 1))
            rw [List.length_take, List.length_drop, own.len, Nat.min_eq_left (by omega)] at l1
            have l2 := val_nonneg (by omega) ((HI.out.rdig.drop k).take (m + 1 + 1))
            simp only [if_true, Int.mul_neg_one] at e
            rw [HDS.out, Int.neg_mul] at e
            refine ⟨?_, by omega⟩
            by_cases h : 1 ≤ g
            · exact h
            · have : g = 0 := by omega
              subst this
              rw [Int.zero_mul] at e
              omega
          have s2 := hg1'.1
          have HL2 := Shut.mk hg1'.2
          have HR := (own2.take (m := m + 1) (by omega)).rd
          clear hg1' HL
          go_wp2_with fail
          refine (gives_calls own (by omega) (by omega) (by omega) HS.out.dig HR (dd.take _) (by intro a e; cases e; simp; omega) (by omega)).mono ?_
          rintro e w7 ⟨t2, os2, rfl, own7, HSeg7, ho7⟩
          have HSeg8 := Shut.mk (HS.out.trans HSeg7)
          have ho8 := ho.trans ho7
          clear HSeg7 ho7 HS ho own HR own2 own3
          go_wp2
          go_roundw
          case rel =>
            refine ⟨g - 1, !t2, os2, rfl, rfl, by omega, by omega, ⟨?_⟩, ⟨by rw [Int.sub_add_cancel]; exact HL2.out⟩, own7, ho8⟩
            have h := HSeg8.out
            have e1 : -g + 1 = -(g - 1) := by omega
            rw [e1] at h
            cases t2 <;> simpa using h
          case measure => simp [intOf]; omega
        | false =>
          have fz := own3.frozen k
          have fc := own3.cell k (by omega)
          have HD1 : Shut (DivInv 4294967296 (val 4294967296 ds) rs0 os (qs.set k g) k) := ⟨by
            have e := HS.out.eq
            simp only [Bool.false_eq_true, if_false, Int.mul_zero, Int.add_zero] at e
            rw [HDS.out, Int.neg_mul] at e
            have l := HL.out
            have e3 : (g + 1) * val 4294967296 ds = g * val 4294967296 ds + val 4294967296 ds := by rw [Int.add_mul, Int.one_mul]
            exact HI.out.step (m := m + 1 + 1) s0 (by omega) (by rw [own3.len]; omega) (by rw [HRL.out]; omega) HS.out.dig (by rw [own.len, HRL.out]) HS.out.same HGz.out (by omega) (by omega)⟩
          go_wp2
          go_roundw
          case rel => exact ⟨k, os, _, by omega, by go_num, HD1, own.far (by simp; omega) _, own2.far (by simp; omega) _, own3.set k _, bset HB6.out hgw3 _⟩
          case measure => simp [intOf]

end Go.Proofs.YtjeaakkbkjhldaaGreatDoor
