import Derived.Test.YtjeaakkbkjhldaaGreatDoorK12
set_option linter.unusedVariables false
set_option linter.unusedSimpArgs false
namespace Go.Proofs.YtjeaakkbkjhldaaGreatDoor
open Go.RowKit

theorem Only2.refl (w : World) (g h : Nat) : Only2 w w g h := ⟨rfl, rfl, rfl, rfl, fun _ _ _ => rfl⟩
theorem Only2.trans {w w1 w2 : World} {g h : Nat} (a : Only2 w w1 g h) (b : Only2 w1 w2 g h) : Only2 w w2 g h :=
  ⟨b.os.trans a.os, b.tape.trans a.tape, b.output.trans a.output, b.size.trans a.size, fun k h1 h2 => (b.block k h1 h2).trans (a.block k h1 h2)⟩
def QuoNRes (w : World) (x y : Int) (en : Ending) (w' : World) : Prop := ∃ q r, en = .returned (.tuple #[q, r]) ∧ NV w' q (x / y) ∧ NV w' r (x % y) ∧ Below w.heap.size w w'
/-- the first digits of a list whose value is small -/
theorem val_low {B : Int} (hB : 1 < B) {ds : List Int} {m : Nat} (dd : Dgs B ds) (hl : m ≤ ds.length) (h : val B ds < B ^ m) : val B (ds.take m) = val B ds := by
  rw [val_take_drop B ds m hl, val_eq_of_dg (xs := ds.drop m) (ys := []) (fun t => by rw [dg_drop, dg_high hB dd h (by omega), dg_nil])]
  simp [val]
theorem nlen_at {B : Int} (hB : 1 < B) {ds : List Int} {m : Nat} (dd : Dgs B ds) (hl : ds.length = m + 1 + 1) (h1 : val B ds < B ^ (m + 1)) (h2 : B ^ m ≤ val B ds) : nlen ds (m + 1 + 1) = m + 1 ∧ 0 < dg ds m := by
  have z := dg_high hB dd h1 (t := m + 1) (Nat.le_refl _)
  have nz : dg ds m ≠ 0 := by
    intro e0
    have e1 := val_low hB dd (by omega) h1
    have e2 := val_take_succ B ds m
    rw [e0, Int.mul_zero, Int.add_zero] at e2
    have l1 := val_lt (by omega) (dd.take m)
    rw [List.length_take, Nat.min_eq_left (by omega)] at l1
    omega
  have := dg_lt (by omega) dd m
  refine ⟨?_, by omega⟩
  unfold nlen
  rw [if_pos z]
  unfold nlen
  rw [if_neg nz]
/-- the divisor, times the scale, has as many digits as it had -/
theorem scaled_at {B p t : Int} (hB : 1 < B) {ys : List Int} {m : Nat} (dy : Dgs B ys) (ny : Nrm ys) (hl : ys.length = m + 1) (ht : t = dg ys m) (hp : 0 < p) (hpt : (t + 1) * p ≤ B) : p * val B ys < B ^ (m + 1) ∧ B ^ m ≤ val B ys ∧ B ^ m ≤ p * val B ys := by
  have e : ys = ys.take (m + 1) := by rw [List.take_of_length_le (by omega)]
  have e2 : val B ys = val B (ys.take m) + B ^ m * dg ys m := by
    conv => lhs; rw [e]
    rw [val_take_succ]
  have l1 := val_lt (by omega) (dy.take m)
  rw [List.length_take, Nat.min_eq_left (by omega)] at l1
  have l2 : val B ys + 1 ≤ B ^ m * (t + 1) := by rw [e2, ht, Int.mul_add, Int.mul_one]; omega
  have l3 : (val B ys + 1) * p ≤ B ^ m * (t + 1) * p := Int.mul_le_mul_of_nonneg_right l2 (Int.le_of_lt hp)
  have l4 : B ^ m * (t + 1) * p ≤ B ^ m * B := by
    rw [Int.mul_assoc]
    exact Int.mul_le_mul_of_nonneg_left hpt (Int.le_of_lt (pow_pos' (by omega) m))
  have l5 := ny.val_ge (by omega) dy (by intro e; subst e; simp at hl)
  rw [hl, Nat.add_sub_cancel] at l5
  have l6 : 0 ≤ val B ys := val_nonneg (by omega) dy
  have l7 : 1 * val B ys ≤ p * val B ys := Int.mul_le_mul_of_nonneg_right (by omega) l6
  refine ⟨?_, l5, by omega⟩
  rw [Int.pow_succ, Int.mul_comm p]
  rw [Int.add_mul, Int.one_mul] at l3
  omega
theorem quo_done {X Y Q p R : Int} (hp : 0 < p) (hY : 0 < Y) (hR0 : 0 ≤ R) (D1 : R = p * (X - Y * Q)) (D2 : X - Y * Q < Y) : Q = X / Y ∧ R / p = X % Y := by
  rw [D1] at hR0
  have h0 : 0 ≤ X - Y * Q := Int.le_of_mul_le_mul_left (by rw [Int.mul_zero]; exact hR0 : p * 0 ≤ p * (X - Y * Q)) hp
  have e1 : X = (X - Y * Q) + Y * Q := by omega
  refine ⟨?_, ?_⟩
  · conv => rhs; rw [e1]
    rw [Int.add_mul_ediv_left _ _ (by omega), Int.ediv_eq_zero_of_lt h0 D2, Int.zero_add]
  · rw [D1, Int.mul_ediv_cancel_left _ (by omega)]
    conv => rhs; rw [e1]
    rw [Int.add_mul_emod_self_left, Int.emod_eq_of_lt h0 D2]
theorem scale_at {t : Int} (h0 : 1 ≤ t) (h1 : t < 65536) : 0 < 65536 / (t + 1) ∧ 65536 / (t + 1) < 65536 ∧ (t + 1) * (65536 / (t + 1)) ≤ 65536 := by
  refine ⟨?_, ?_, ?_⟩
  · have : 1 ≤ 65536 / (t + 1) := (Int.le_ediv_iff_mul_le (by omega)).2 (by omega)
    omega
  · exact Int.ediv_lt_of_lt_mul (by omega) (by omega)
  · exact Int.mul_ediv_self_le (by omega)

set_option maxHeartbeats 8000000 in
set_option maxRecDepth 100000 in
theorem quo_main {w : World} {A1 A2 : Option Addr} {n1 c1 m c2 : Nat} {xs ys : List Int} (hx : RdS w .i64 A1 n1 c1 xs) (hy : RdS w .i64 A2 (m + 1) c2 ys) (dx : Dgs 65536 xs) (dy : Dgs 65536 ys) (nx : Nrm xs) (ny : Nrm ys) (hm : m ≠ 0) (h12 : m + 1 ≤ n1) (hl : n1 ≤ 8589934593) (hle : val 65536 ys ≤ val 65536 xs)
    (hcmp : ∀ W, Below w.heap.size w W → Calls Tryz.prog 102 #[.slice A1 n1 c1, .slice A2 (m + 1) c2] W fun e w' => e = .returned (.int .i64 (cmp3 (val 65536 xs) (val 65536 ys))) ∧ Below W.heap.size W w') :
    Calls Tryz.prog 107 #[.slice A1 n1 c1, .slice A2 (m + 1) c2] w (QuoNRes w (val 65536 xs) (val 65536 ys)) := by
  have b1 := hx.big
  have b2 := hx.cap
  have b3 := hy.big
  have b4 := hy.cap
  obtain ⟨d0, d1⟩ := dg_lt (by omega) dy m
  have hlen := hy.len
  have ht0 : dg ys m ≠ 0 := by
    have := ny (by intro e; subst e; simp at hlen)
    rw [hlen, Nat.add_sub_cancel] at this
    exact this
  have HC : Shut (¬ cmp3 (val 65536 xs) (val 65536 ys) < 0) := ⟨by unfold cmp3; rw [if_neg (by omega)]; split <;> omega⟩
  have hcmp' := fun W h => hcmp W h
  generalize cmp3 (val 65536 xs) (val 65536 ys) = c3 at *
  obtain ⟨hp0, hp1, HTB⟩ := scale_at (t := dg ys m) (by omega) d1
  have HD := Shut.mk (scaled_at (B := 65536) (by omega) dy ny hlen rfl hp0 HTB)
  have q1 : ((m + 1 : Nat) : Int) = (m : Int) + 1 := by omega
  have hdiv : (65536 : Int) / (dg ys m + 1) = 65536 / (dg ys m + 1) := rfl
  obtain ⟨p, hpe⟩ : ∃ p, 65536 / (dg ys m + 1) = p := ⟨_, rfl⟩
  rw [hpe] at hp0 hp1 HTB HD
  have HC3 := HC.out
  obtain ⟨ad, rfl, hcell⟩ := hy.cell m (by omega)
  have hm1 : ((m : Int) + 1 == 1) = false := by simp; omega
  clear hcmp hdiv HTB q1 HC
  go_enter Tryz.func107, Tryz.ntmps107
  go_wp2_with fail
  refine (hcmp' _ (Below.refl _ _)).mono ?_
  rintro e w0 ⟨rfl, hb0⟩
  replace hcell := old_cell hb0 hcell
  go_wp2_with fail
  rw [hpe]
  clear hpe hcell
  refine (times_calls (hx.below hb0) dx (by omega) (by omega) hp1).mono ?_
  rintro e w1 ⟨g1, rs0, rfl, hg1, own1, dr0, hv1, hb1⟩
  replace hb1 := bthen hb0 hb1
  have HV1 := Shut.mk hv1
  clear hv1
  have hg1w : w.heap.size ≤ g1 := by have := hb0.size; omega
  go_wp2_with fail
  refine (times_calls (hy.below hb1) dy (by omega) (by omega) hp1).mono ?_
  rintro e w2 ⟨g2, ds, rfl, hg2, own2, dd, hv2, hb2⟩
  have own1' := own1.below hb2
  have hg12 : g1 < g2 := by have := own1.lt; omega
  have hb2' := bthen hb1 hb2
  clear own1 hb1 hb2 hb0
  rw [← hv2] at HD
  obtain ⟨hnl, htp⟩ := nlen_at (B := 65536) (by omega) dd own2.len HD.out.1 HD.out.2.2
  have HNL := Shut.mk hnl
  have HDS := Shut.mk (val_low (B := 65536) (by omega) dd (show m + 1 ≤ ds.length by rw [own2.len]; omega) HD.out.1)
  have HV2 := Shut.mk hv2
  clear hv2 hnl
  go_wp2_with fail
  refine (trim_calls own2.rd).mono ?_
  rintro e w' ⟨rfl, hw'⟩
  obtain rfl := hw'.symm
  rw [HNL.out]
  clear HNL hw'
  go_wp2_with (first
    | (at_make; refine wpl_make rfl _ _ 30 rfl 3 .i64 8 Tryz.underlying30 info_int .i64 .i64 _ _ (n1 - m) rfl rfl (by omega) (by omega) (by omega) (by omega) ?_; intro w3 g3 hg3 own3 hb3)
    | (at_make; refine wpl_make rfl _ _ 30 rfl 3 .i64 8 Tryz.underlying30 info_int .i64 .i64 _ _ (m + 1 + 1) rfl rfl (by omega) (by omega) (by omega) (by omega) ?_; intro w4 g4 hg4 own4 hb4))
  have own1 := (own1'.below hb3).below hb4
  have own2b := (own2.below hb3).below hb4
  have hg23 : g2 < g3 := by have := own2.lt; omega
  have hg34 : g3 < g4 := by have := own3.lt; omega
  replace own3 := own3.below hb4
  have hg3w : w.heap.size ≤ g3 := by omega
  have HB4 := Shut.mk (bthen (bthen hb2' hb3) hb4)
  clear own1' own2 hb3 hb4 hb2'
  have hg4w : w.heap.size ≤ g4 := by omega
  have hv2 := HV2.out
  have hv1 := HV1.out
  have HStart : Shut (DivInv 65536 (val 65536 ds) rs0 rs0 (List.replicate (n1 - m) 0) (n1 - m)) := ⟨by
    have e : n1 - m = n1 - (m + 1) + 1 := by omega
    have := DivInv.start (B := 65536) (D := val 65536 ds) (p := p) (A := val 65536 xs) (Bv := val 65536 ys) (rs0 := rs0) (qs := List.replicate (n1 - m) 0) (n1 := n1) (n2 := m + 1) (by omega) dr0 (Dgs.replicate (by omega) _) own1.len (by rw [List.length_replicate]; omega) h12 (by omega) hp0 HV1.out (by have := val_lt (by omega) dx; rw [hx.len] at this; exact this) HV2.out (by simpa using HD.out.2.1)
    rw [← e] at this; exact this⟩
  clear hv1 hv2
  have hk0 : ((n1 : Int) + 1 - ((m : Int) + 1) - 1) = ((n1 - m : Nat) : Int) - 1 := by omega
  go_loopw [14] (fun i wr => ∃ (J : Nat) (rs qs ws : List Int), J ≤ n1 - m ∧ i = .int .i64 ((J : Int) - 1) ∧ Shut (DivInv 65536 (val 65536 ds) rs0 rs qs J) ∧ OwnS wr .i64 3 g1 (n1 + 1) (n1 + 1) rs ∧ OwnS wr .i64 3 g2 (m + 1 + 1) (m + 1 + 1) ds ∧ OwnS wr .i64 3 g3 (n1 - m) (n1 - m) qs ∧ OwnS wr .i64 3 g4 (m + 1 + 1) (m + 1 + 1) ws ∧ Below w.heap.size w wr) (fun i _ => (intOf i + 1).toNat)
  case atStart => exact ⟨n1 - m, rs0, _, _, Nat.le_refl _, by congr 1, HStart, own1, own2b, own3, own4, HB4.out⟩
  case round =>
    clear own1 own2b own3 own4 HB4 HStart hk0
    obtain ⟨J, rs, qs, ws, hJ, rfl, HI, own1, own2, own3, own4, hbw⟩ := hrel
    match J with
    | 0 =>
      obtain ⟨D1, D2⟩ := HI.out.done hp0 HV1.out HV2.out
      have hY : 0 < val 65536 ys := by have := HD.out.2.1; have := pow_pos' (B := 65536) (by omega) m; omega
      have HQ := Shut.mk (quo_done hp0 hY (val_nonneg (by omega) HI.out.rdig) D1 D2)
      have HR1 : Shut (Dgs 65536 rs ∧ Dgs 65536 qs) := ⟨HI.out.rdig, HI.out.qdig⟩
      clear D1 D2 HI own2 own4 hY
      go_wp2_with fail
      refine (trim_calls own1.rd).mono ?_
      rintro e w' ⟨rfl, hw'⟩
      obtain rfl := hw'.symm
      clear hw'
      obtain ⟨m5, rs', hr5, dr5, hm5, hv5, hn5, hnl5⟩ := nrm_of own1.rd HR1.out.1
      rw [hnl5]
      have HV5 := Shut.mk hv5
      clear hv5 hnl5
      go_wp2_with fail
      refine (small_calls (hr5.recap (Nat.le_refl _) (Nat.le_trans hm5 (Nat.le_refl _))) dr5 (by omega) hp0 hp1).mono ?_
      rintro e w6 ⟨r6, rfl, hr6, hb6⟩
      rw [HV5.out] at hr6
      have HR6 := Shut.mk hr6
      have own3b := own3.below hb6
      have HB6 := Shut.mk (bthen hbw hb6)
      have hrd := own3b.rd
      clear hr6 hb6 own3 own1 hbw
      go_wp2_with fail
      refine (trim_calls hrd).mono ?_
      rintro e w' ⟨rfl, hw'⟩
      obtain rfl := hw'.symm
      go_wp2
      refine bodyPost_ret (v := .tuple #[.slice (some ⟨g3, 0, none⟩) (nlen qs (n1 - m)) (nlen qs (n1 - m)), r6]) (by simp [results, Tryz.results107, go_sem]) rfl ?_
      refine ⟨_, _, rfl, ?_, ?_, HB6.out⟩
      · rw [← HQ.out.1]; exact NV.of_trim hrd HR1.out.2
      · rw [← HQ.out.2]; exact HR6.out
    | k + 1 =>
      have c1' := own1.cell (k + (m + 1)) (by omega)
      have c2' := own1.cell (k + m) (by omega)
      have c3' := own2.cell m (by omega)
      have r1 := dg_lt (by omega) HI.out.rdig (k + (m + 1))
      have r2 := dg_lt (by omega) HI.out.rdig (k + m)
      have r3 := dg_lt (by omega) dd m
      have p0 : (0 : Int) ≤ (k : Int) := by omega
      have HG : Shut (0 ≤ min ((dg rs (k + (m + 1)) * 65536 + dg rs (k + m)) / dg ds m) 65535 ∧ min ((dg rs (k + (m + 1)) * 65536 + dg rs (k + m)) / dg ds m) 65535 ≤ 65535 ∧ val 65536 ((rs.drop k).take (m + 1 + 1)) < (min ((dg rs (k + (m + 1)) * 65536 + dg rs (k + m)) / dg ds m) 65535 + 1) * val 65536 ds ∧ val 65536 (rs.drop k) = val 65536 ((rs.drop k).take (m + 1 + 1))) := ⟨by
        have hdm : dg (ds.take (m + 1)) (m + 1 - 1) = dg ds m := by rw [Nat.add_sub_cancel, dg_take, if_pos (by omega)]
        have := guess_ge (B := 65536) (D := val 65536 ds) (ds := ds.take (m + 1)) (n := m + 1) (rs := rs) (j := k) (top := dg rs (k + (m + 1)) * 65536 + dg rs (k + m)) (g := min ((dg rs (k + (m + 1)) * 65536 + dg rs (k + m)) / dg ds m) 65535) (by omega) (dd.take _) (by omega) (by rw [List.length_take, own2.len]; omega) HDS.out (by rw [hdm]; exact htp) HI.out.rdig (by rw [own1.len]; omega) HI.out.lt rfl (by rw [hdm]; rfl)
        exact ⟨this.1, by omega, this.2.2⟩⟩
      have e1 : (k : Int) + ((m : Int) + 1) < (n1 : Int) + 1 := by omega
      have e2 : (k : Int) + ((m : Int) + 1) - 1 < (n1 : Int) + 1 := by omega
      have e3 : (0 : Int) ≤ (k : Int) + ((m : Int) + 1) := by omega
      have e4 : (0 : Int) ≤ (k : Int) + ((m : Int) + 1) - 1 := by omega
      go_upto_region 15 with fail
      have t1 : (k : Int) + ((m : Int) + 1) = ((k + (m + 1) : Nat) : Int) := by omega
      have w1 : IntKind.i64.wrap ((k : Int) + ((m : Int) + 1)) = (k : Int) + ((m : Int) + 1) := by rw [IntKind.wrap_i64]; omega
      have w2 : IntKind.i64.wrap (dg rs (k + (m + 1)) * 65536) = dg rs (k + (m + 1)) * 65536 := by rw [IntKind.wrap_i64]; omega
      have w3 : IntKind.i64.wrap ((k : Int) + ((m : Int) + 1) - 1) = (k : Int) + m := by rw [IntKind.wrap_i64]; omega
      have w4 : IntKind.i64.wrap (dg rs (k + (m + 1)) * 65536 + dg rs (k + m)) = dg rs (k + (m + 1)) * 65536 + dg rs (k + m) := by rw [IntKind.wrap_i64]; omega
      have w5 : IntKind.i64.wrap ((m : Int) + 1 - 1) = (m : Int) := by rw [IntKind.wrap_i64]; omega
      have hq0 : (dg rs (k + (m + 1)) * 65536 + dg rs (k + m)).tdiv (dg ds m) = (dg rs (k + (m + 1)) * 65536 + dg rs (k + m)) / dg ds m := Int.tdiv_eq_ediv_of_nonneg (by omega)
      have hq1 : 0 ≤ (dg rs (k + (m + 1)) * 65536 + dg rs (k + m)) / dg ds m := Int.ediv_nonneg (by omega) (by omega)
      have hq2 : (dg rs (k + (m + 1)) * 65536 + dg rs (k + m)) / dg ds m ≤ dg rs (k + (m + 1)) * 65536 + dg rs (k + m) := Int.ediv_le_self _ (by omega)
      have w6 : IntKind.i64.wrap ((dg rs (k + (m + 1)) * 65536 + dg rs (k + m)) / dg ds m) = (dg rs (k + (m + 1)) * 65536 + dg rs (k + m)) / dg ds m := by rw [IntKind.wrap_i64]; omega
      have n1' : ((k : Int) + ((m : Int) + 1)).toNat = k + (m + 1) := by omega
      have n2' : ((k : Int) + (m : Int)).toNat = k + m := by omega
      have e5 : (0 : Int) ≤ (k : Int) + (m : Int) := by omega
      have e6 : (k : Int) + (m : Int) < (n1 : Int) + 1 := by omega
      have e7 : (dg ds m == 0) = false := by simp; omega
      clear t1
      go_quiet (fail)
      clear w1 w2 w3 w4 w5 w6 n1' n2' hq0
      have hdr := dN_below wr nq
      replace own1 := own1.below hdr
      replace own2 := own2.below hdr
      replace own3 := own3.below hdr
      replace own4 := own4.below hdr
      replace hbw := hbw.drewN nq
      generalize wr.drewN nq = wd at *
      clear hdr c1' c2' c3' e1 e2 e3 e4 e5 e6 e7
      generalize hQ : (dg rs (k + (m + 1)) * 65536 + dg rs (k + m)) / dg ds m = Q at *
      clear hQ
      go_upto_if 94 with fail
      rw [show (((k + 1 : Nat) : Int) - 1) = (k : Int) from by omega]
      go_cut [15] (fun s15 wc => s15 = .int .i64 (min Q 65535) ∧ wc = wd)
      case first =>
        by_cases h : Q ≥ 65536
        · have e : min Q 65535 = 65535 := by omega
          go_wp2
          go_meet
          case rel => exact ⟨by rw [e], by first | rfl | trivial⟩
        · have e : min Q 65535 = Q := by omega
          go_wp2
          go_meet
          case rel => exact ⟨by rw [e], by first | rfl | trivial⟩
      case rest =>
        obtain ⟨rfl, hw9⟩ := hcut
        obtain rfl := hw9.symm
        clear hw9 hq1 hq2
        generalize min Q 65535 = gs at *
        have s0 := HG.out.1
        have s1 := HG.out.2.1
        have HRL := Shut.mk own1.len
        have HGz := Shut.mk HG.out.2.2.2
        have HG3 := Shut.mk HG.out.2.2.1
        have HBw := Shut.mk hbw
        have d12 : g2 ≠ g1 := by omega
        have d42 : g2 ≠ g4 := by omega
        have d31 : g3 ≠ g1 := by omega
        have d34 : g3 ≠ g4 := by omega
        have d14 : g1 ≠ g4 := by omega
        have hkm : k + (m + 1) + 1 ≤ n1 + 1 := by omega
        clear HG r1 r2
        go_wp2_with fail
        go_loopw [15] (fun gv wv => ∃ (g : Int) (ws : List Int), gv = .int .i64 g ∧ 0 ≤ g ∧ g ≤ 65535 ∧ Shut (val 65536 ((rs.drop k).take (m + 1 + 1)) < (g + 1) * val 65536 ds) ∧ OwnS wv .i64 3 g1 (n1 + 1) (n1 + 1) rs ∧ OwnS wv .i64 3 g4 (m + 1 + 1) (m + 1 + 1) ws ∧ Only2 wd wv g1 g4) (fun gv _ => (intOf gv).toNat)
        case atStart => exact ⟨gs, ws, rfl, s0, s1, HG3, own1, own4, Only2.refl _ _ _⟩
        case round =>
          clear own1 own4 HG3 s0 s1
          obtain ⟨g, ws, rfl, s0, s1, HL, own1, own4, ho⟩ := hrel
          have own2b := ho.own own2 d12 d42
          have HR := ((own2b.take (m := m + 1) (by omega)).rd).recap (Nat.le_refl _) (show m + 1 ≤ m + 1 + 1 by omega)
          go_wp2_with fail
          refine (less_calls own1 own4 HR HI.out.rdig (dd.take _) d14 (by intro a e; cases e; exact d42) hkm (by omega) s0 (by omega)).mono ?_
          rintro e w7 ⟨b, us', ws', rfl, own7, own8, ho7, htr, hfa⟩
          have ho8 := ho.trans ho7
          clear HR own2b ho ho7
          cases b with
          | false =>
            obtain ⟨rfl, hlt⟩ := hfa rfl
            rw [HDS.out] at hlt
            have hg1 : 1 ≤ g := by
              by_cases h : 0 < g
              · omega
              · have : g = 0 := by omega
                subst this
                rw [Int.zero_mul] at hlt
                have := val_nonneg (B := 65536) (by omega) ((HI.out.rdig.drop k).take (m + 1 + 1))
                omega
            have HL2 := Shut.mk hlt
            clear hlt hfa htr HL
            go_wp2
            go_roundw
            case rel => exact ⟨g - 1, ws', rfl, by omega, by omega, ⟨by rw [Int.sub_add_cancel]; exact HL2.out⟩, own7, own8, ho8⟩
            case measure => simp [intOf]; omega
          | true =>
            obtain ⟨t1, t2, t3⟩ := htr rfl
            rw [HDS.out] at t3
            have own3b := ho8.own own3 d31 d34
            have own2b := ho8.own own2 d12 d42
            have HB6 := Shut.mk (ho8.below HBw.out hg1w hg4w)
            have fz := own3b.frozen k
            have fc := own3b.cell k (by omega)
            have HD1 : Shut (DivInv 65536 (val 65536 ds) rs0 us' (qs.set k g) k) := ⟨by
              have l := HL.out
              have e3 : (g + 1) * val 65536 ds = g * val 65536 ds + val 65536 ds := by rw [Int.add_mul, Int.one_mul]
              exact HI.out.step (m := m + 1 + 1) s0 (by omega) (by rw [own3.len]; omega) (by rw [HRL.out]; omega) t1 (by rw [own7.len, HRL.out]) t2 HGz.out t3 (by omega)⟩
            clear t1 t2 t3 htr hfa HL own2 own3
            have p1 : (k : Int) < ((n1 - m : Nat) : Int) := by omega
            go_wp2
            go_roundw
            case rel => exact ⟨k, us', _, ws', by omega, by go_num, HD1, own7.far (by simp; omega) _, own2b.far (by simp; omega) _, own3b.set k _, own8.far (by simp; omega) _, bset HB6.out hg3w _⟩
            case measure => simp [intOf]

end Go.Proofs.YtjeaakkbkjhldaaGreatDoor

set_option linter.unusedVariables false
set_option linter.unusedSimpArgs false
namespace Go.Proofs.YtjeaakkbkjhldaaGreatDoor
open Go.RowKit

set_option maxHeartbeats 4000000 in
set_option maxRecDepth 100000 in
theorem quo_one {w : World} {A1 A2 : Option Addr} {n1 c1 c2 : Nat} {xs ys : List Int} (hx : RdS w .i64 A1 n1 c1 xs) (hy : RdS w .i64 A2 1 c2 ys) (dx : Dgs 65536 xs) (dy : Dgs 65536 ys) (ny : Nrm ys) (hl : n1 ≤ 8589934593) :
    Calls Tryz.prog 107 #[.slice A1 n1 c1, .slice A2 1 c2] w (QuoNRes w (val 65536 xs) (val 65536 ys)) := by
  have b3 := hy.big
  have b4 := hy.cap
  have hlen := hy.len
  obtain ⟨d0, d1⟩ := dg_lt (by omega) dy 0
  have ht0 : dg ys 0 ≠ 0 := by
    have := ny (by intro e; subst e; simp at hlen)
    rw [hlen] at this
    exact this
  have HV : Shut (val 65536 ys = dg ys 0) := ⟨by
    match ys, hlen with
    | [y], _ => simp [val, dg_cons_zero]⟩
  obtain ⟨ad, rfl, hcell⟩ := hy.cell 0 (by omega)
  rw [show ad.add 0 = ad from by unfold Addr.add; simp] at hcell
  rw [HV.out]
  have m0 : 0 < dg ys 0 := by omega
  generalize dg ys 0 = d at *
  go_enter Tryz.func107, Tryz.ntmps107
  go_wp2_with fail
  refine (small_calls hx dx (by omega) m0 d1).mono ?_
  rintro e w1 ⟨q, rfl, hq, hb⟩
  have HR : Shut (0 ≤ val 65536 xs % d ∧ val 65536 xs % d < 65536) := ⟨Int.emod_nonneg _ (by omega), by have := Int.emod_lt_of_pos (val 65536 xs) m0; omega⟩
  have hrd := rd_one w1 .i64 3 (val 65536 xs % d)
  have hbA := alloc_below w1 (.cells #[.int .i64 (val 65536 xs % d)] 3)
  go_wp2_with fail
  refine (trim_calls hrd).mono ?_
  rintro e w' ⟨rfl, hw⟩
  obtain rfl := hw.symm
  go_wp2
  refine bodyPost_ret (v := .tuple #[q, .slice (some ⟨w1.heap.size, 0, none⟩) (nlen [val 65536 xs % d] 1) (nlen [val 65536 xs % d] 1)]) (by simp [results, Tryz.results107, go_sem]) rfl ?_
  have hv : val 65536 [val 65536 xs % d] = val 65536 xs % d := by simp [val]
  refine ⟨_, _, rfl, hq.below hbA, ?_, bthen hb hbA⟩
  have h5 := NV.of_trim hrd (Dgs.cons.2 ⟨HR.out, Dgs.nil _⟩)
  rw [hv] at h5
  exact h5

set_option maxHeartbeats 4000000 in
set_option maxRecDepth 100000 in
theorem quo_less {w : World} {A1 A2 : Option Addr} {n1 c1 n2 c2 : Nat} {xs ys : List Int} (hx : RdS w .i64 A1 n1 c1 xs) (dx : Dgs 65536 xs) (nx : Nrm xs) (hm : n2 ≠ 1) (hb2 : n2 ≤ 8589934593) (hlt : val 65536 xs < val 65536 ys) (h0 : 0 ≤ val 65536 xs)
    (hcmp : ∀ W, Below w.heap.size w W → Calls Tryz.prog 102 #[.slice A1 n1 c1, .slice A2 n2 c2] W fun e w' => e = .returned (.int .i64 (cmp3 (val 65536 xs) (val 65536 ys))) ∧ Below W.heap.size W w') :
    Calls Tryz.prog 107 #[.slice A1 n1 c1, .slice A2 n2 c2] w (QuoNRes w (val 65536 xs) (val 65536 ys)) := by
  have HC : Shut (cmp3 (val 65536 xs) (val 65536 ys) = -1) := ⟨by unfold cmp3; rw [if_pos hlt]⟩
  have HQ : Shut (val 65536 xs / val 65536 ys = 0 ∧ val 65536 xs % val 65536 ys = val 65536 xs) := ⟨Int.ediv_eq_zero_of_lt h0 hlt, Int.emod_eq_of_lt h0 hlt⟩
  rw [HC.out] at hcmp
  have hm1 : ((n2 : Int) == 1) = false := by simp; omega
  clear HC hlt h0
  go_enter Tryz.func107, Tryz.ntmps107
  go_wp2_with fail
  refine (hcmp _ (Below.refl _ _)).mono ?_
  rintro e w0 ⟨rfl, hb0⟩
  go_wp2
  refine bodyPost_ret (v := .tuple #[.slice none 0 0, .slice A1 n1 c1]) (by simp [results, Tryz.results107, go_sem]) rfl ?_
  refine ⟨_, _, rfl, ?_, ?_, hb0⟩
  · rw [HQ.out.1]; exact NV.nil _
  · rw [HQ.out.2]; exact ⟨_, _, _, xs, rfl, hx.below hb0, dx, nx, rfl⟩

theorem quo16_calls {w : World} {v v' : Value} {x y : Int} {k : Nat} (hx : NV w v x) (hy : NV w v' y) (sx : Sm k x) (sy : Sm k y) (hk : k ≤ 137438953472) (hy0 : 0 < y) :
    Calls Tryz.prog 107 #[v, v'] w (QuoNRes w x y) := by
  have hcmp : ∀ W, Below w.heap.size w W → Calls Tryz.prog 102 #[v, v'] W fun e w' => e = .returned (.int .i64 (cmp3 x y)) ∧ Below W.heap.size W w' := fun W hb => cmp16_calls (hx.below hb) (hy.below hb) sx sy hk
  obtain ⟨A1, n1, c1, xs, rfl, rx, dx, nx, rfl, hl1⟩ := hx.split sx hk
  obtain ⟨A2, n2, c2, ys, rfl, ry, dy, ny, rfl, hl2⟩ := hy.split sy hk
  clear hx hy
  by_cases h1 : n2 = 1
  · subst h1
    exact quo_one rx ry dx dy ny hl1
  · rcases Int.lt_or_le (val 65536 xs) (val 65536 ys) with h | h
    · exact quo_less rx dx nx h1 hl2 h (val_nonneg (by omega) dx) hcmp
    · have h2 : n2 ≠ 0 := by
        intro e
        have := ry.len
        rw [e] at this
        rw [List.eq_nil_of_length_eq_zero this] at hy0
        simp [val] at hy0
      obtain ⟨m, rfl⟩ : ∃ m, n2 = m + 1 := ⟨n2 - 1, by omega⟩
      have h12 : m + 1 ≤ n1 := by
        rcases Nat.lt_or_ge n1 (m + 1) with h3 | h3
        · have := ny.lt_of_len (B := 65536) (by omega) dx dy (by rw [rx.len, ry.len]; exact h3)
          omega
        · exact h3
      exact quo_main rx ry dx dy nx ny (by omega) h12 hl1 h hcmp

theorem gcd_emod' {x y : Int} (hx : 0 ≤ x) (hy : 0 ≤ y) : Int.gcd y (x % y) = Int.gcd x y := by
  unfold Int.gcd
  rw [← Int.tmod_eq_emod_of_nonneg hx, Int.natAbs_tmod, Nat.gcd_comm, ← Nat.gcd_rec, Nat.gcd_comm]
/-! ### gcd -/
set_option maxHeartbeats 4000000 in
theorem gcd16_calls {w : World} {v v' : Value} {x y : Int} {k : Nat} (hx : NV w v x) (hy : NV w v' y) (sx : Sm k x) (sy : Sm k y) (hk : k ≤ 137438953472) :
    Calls Tryz.prog 62 #[v, v'] w (NRes w (Int.gcd x y)) := by
  have hx0 := hx.nonneg
  have hy0 := hy.nonneg
  go_enter Tryz.func62, Tryz.ntmps62
  go_wp2_with fail
  go_loopg [0, 1] (y.toNat) (fun m a b wr => ∃ (x' y' : Int), Shut (Int.gcd x' y' = Int.gcd x y ∧ y'.toNat = m ∧ Sm k x' ∧ Sm k y' ∧ 0 ≤ x' ∧ 0 ≤ y') ∧ NV wr a x' ∧ NV wr b y' ∧ Below w.heap.size w wr)
  case atStart => exact ⟨x, y, ⟨rfl, rfl, sx, sy, hx0, hy0⟩, hx, hy, Below.refl _ _⟩
  case round =>
    clear hx hy
    obtain ⟨x', y', HI, hx, hy, hb⟩ := hrel
    obtain ⟨A2, n2, c2, ys, rfl, ry, dy, ny, hvy, hl2⟩ := hy.split HI.out.2.2.2.1 hk
    have b1 := ry.big
    have b2 := ry.cap
    have hlen := ry.len
    by_cases h0 : n2 = 0
    · have HG : Shut (x' = Int.gcd x y) := ⟨by
        have hz : ys = [] := List.eq_nil_of_length_eq_zero (by omega)
        rw [hz] at hvy
        simp only [val] at hvy
        rw [← HI.out.1, ← hvy, Int.gcd_zero_right]
        have := HI.out.2.2.2.2.1
        omega⟩
      clear hvy HI ry hy dy ny hlen
      subst h0
      go_wp2
      go_ret
      exact ⟨_, rfl, by rw [← HG.out]; exact hx, hb⟩
    · have hy0' : 0 < y' := by
        rw [← hvy]
        exact ny.val_pos (by omega) dy (by intro e; rw [e] at hlen; simp at hlen; omega)
      have h1 := Int.emod_nonneg x' (show y' ≠ 0 by omega)
      have h2 := Int.emod_lt_of_pos x' hy0'
      have HI2 : Shut (Int.gcd y' (x' % y') = Int.gcd x y ∧ (x' % y').toNat < gk ∧ Sm k y' ∧ Sm k (x' % y') ∧ 0 ≤ y' ∧ 0 ≤ x' % y') := ⟨by
        refine ⟨?_, ?_, HI.out.2.2.2.1, HI.out.2.2.2.1.le (by omega), by omega, h1⟩
        · rw [← HI.out.1]; exact gcd_emod' HI.out.2.2.2.2.1 (by omega)
        · have := HI.out.2.1; omega⟩
      have hquo := quo16_calls hx hy HI.out.2.2.1 HI.out.2.2.2.1 hk hy0'
      clear hvy HI ry hx dy ny hlen h1 h2
      go_wp2_with fail
      refine hquo.mono ?_
      rintro e w2 ⟨q, r, rfl, hq, hr, hb2⟩
      replace hb := bthen hb hb2
      replace hy := hy.below hb2
      clear hquo hq hb2
      go_wp2
      go_roundg ((x' % y').toNat)
      case measure => exact HI2.out.2.1
      case rel => exact ⟨y', x' % y', ⟨HI2.out.1, rfl, HI2.out.2.2⟩, hy, hr, hb⟩

end Go.Proofs.YtjeaakkbkjhldaaGreatDoor

set_option linter.unusedVariables false
set_option linter.unusedSimpArgs false
namespace Go.Proofs.YtjeaakkbkjhldaaGreatDoor
open Go.RowKit

/-- v is a number of sterlingref1: it reads as z. -/
def IV (w : World) (v : Value) (z : Int) : Prop := ∃ s, v = .agg #[.bool (decide (z < 0)), s] ∧ NV w s (z.natAbs : Int)
theorem IV.below {w w1 : World} {v : Value} {z : Int} (h : IV w v z) (hb : Below w.heap.size w w1) : IV w1 v z := by
  obtain ⟨s, h1, h2⟩ := h
  exact ⟨s, h1, h2.below hb⟩
theorem IV.zero (w : World) : IV w (.agg #[.bool false, .slice none 0 0]) 0 := ⟨_, rfl, NV.nil _⟩
def IRes (w : World) (z : Int) (en : Ending) (w' : World) : Prop := ∃ v, en = .returned v ∧ IV w' v z ∧ Below w.heap.size w w'
theorem Sm.abs {k : Nat} {z : Int} (h : Sm k z) : Sm k (z.natAbs : Int) := h.le (by omega)
/-- a number's parts: the sign, the digits; whether there are any -/
theorem IV.parts {w : World} {v : Value} {z : Int} {k : Nat} (h : IV w v z) (hz : Sm k z) (hk : k ≤ 137438953472) : ∃ A n c, v = .agg #[.bool (decide (z < 0)), .slice A n c] ∧ NV w (.slice A n c) (z.natAbs : Int) ∧ n ≤ 8589934593 ∧ (n = 0 ↔ z = 0) ∧ n ≤ c ∧ c ≤ 9223372036854775807 := by
  obtain ⟨s, rfl, hs⟩ := h
  obtain ⟨A, n, c, xs, rfl, h2, h3, h4, h5, h6⟩ := hs.split hz.abs hk
  refine ⟨A, n, c, rfl, hs, h6, ?_, h2.cap, h2.big⟩
  have h7 := h4.val_zero (by omega) h3
  rw [h5] at h7
  have h8 := h2.len
  constructor
  · intro e
    have := h7.2 (List.eq_nil_of_length_eq_zero (by omega))
    omega
  · intro e
    have := h7.1 (by omega)
    rw [this] at h8; simpa using h8.symm
theorem NV.pos {w : World} {A : Option Addr} {n c : Nat} {x : Int} (h : NV w (.slice A n c) x) : (n = 0 ↔ x = 0) ∧ n ≤ c ∧ c ≤ 9223372036854775807 := by
  obtain ⟨A', n', c', xs, e, h2, h3, h4, h5⟩ := h
  cases e
  have h7 := h4.val_zero (by omega) h3
  rw [h5] at h7
  have h8 := h2.len
  refine ⟨⟨fun e => h7.2 (List.eq_nil_of_length_eq_zero (by omega)), fun e => ?_⟩, h2.cap, h2.big⟩
  have := h7.1 e
  rw [this] at h8; simpa using h8.symm
theorem NV.slice {w : World} {v : Value} {x : Int} (h : NV w v x) : ∃ A n c, v = .slice A n c := by
  obtain ⟨A, n, c, xs, rfl, _⟩ := h
  exact ⟨A, n, c, rfl⟩
theorem iv_mk {w : World} {s : Value} {z : Int} {b : Bool} (h : NV w s (z.natAbs : Int)) (hb : b = decide (z < 0)) : IV w (.agg #[.bool b, s]) z := ⟨s, by rw [hb], h⟩

/-! ### Neg -/
set_option maxHeartbeats 4000000 in
set_option maxRecDepth 100000 in
theorem INeg_calls {w : World} {v : Value} {z : Int} {k : Nat} (h : IV w v z) (sz : Sm k z) (hk : k ≤ 137438953472) :
    Calls Tryz.prog 57 #[v] w (IRes w (-z)) := by
  obtain ⟨A, n, c, rfl, hnv, hl, hn0, hc1, hc2⟩ := h.parts sz hk
  have HV : Shut (NV w (.slice A n c) ((-z).natAbs : Int)) := ⟨by rw [Int.natAbs_neg]; exact hnv⟩
  obtain ⟨hbW, ba, br⟩ := box2_facts w 32 32 (.bool (decide (z < 0))) (.slice A n c) (.bool false) (.slice none 0 0)
  have d1 : ¬ w.heap.size = w.heap.size + 1 := by omega
  obtain ⟨r, hr⟩ : ∃ r : Bool, r = decide (-z < 0) := ⟨_, rfl⟩
  have HR := Shut.mk hr
  obtain ⟨b, hbz⟩ : ∃ b : Bool, decide (z < 0) = b := ⟨_, rfl⟩
  rw [hbz] at ba hbW br ⊢
  clear h hnv
  have hcase : (b = true ∧ r = false) ∨ (b = false ∧ n = 0 ∧ r = false) ∨ (b = false ∧ 0 < n ∧ r = true) := by
    rcases Int.lt_trichotomy z 0 with h | h | h
    · left; exact ⟨by rw [← hbz]; simp [h], by rw [hr]; simp; omega⟩
    · right; left; exact ⟨by rw [← hbz]; simp; omega, hn0.2 h, by rw [hr]; simp; omega⟩
    · right; right
      refine ⟨by rw [← hbz]; simp; omega, ?_, by rw [hr]; simp; omega⟩
      rcases Nat.eq_zero_or_pos n with e | e
      · have := hn0.1 e; omega
      · exact e
  clear hr hbz hn0
  go_enter Tryz.func57, Tryz.ntmps57
  go_upto_region 1 with fail
  change Code.wp _ _ _ _ (box2 w 32 32 (.bool b) (.slice A n c) (.bool false) (.slice none 0 0))
  generalize box2 w 32 32 (.bool b) (.slice A n c) (.bool false) (.slice none 0 0) = W at *
  have HB := Shut.mk hbW
  have HG := Shut.mk br.ge
  have l0 := ba.c0
  have l1 := ba.c1
  have r0 := br.c0
  have r1 := br.c1
  have g0 := br.f0
  have g1 := br.f1
  clear hbW ba br
  generalize hp : w.heap.size = p at *
  generalize p + 1 = q at *
  subst hp
  rcases hcase with ⟨rfl, rfl⟩ | ⟨rfl, rfl, rfl⟩ | ⟨rfl, hn, rfl⟩
  · go_wp2
    refine bodyPost_ret (v := .agg #[.bool false, .slice A n c]) (by simp [results, Tryz.results57, go_sem, r0, r1]) rfl ?_
    exact ⟨_, rfl, iv_mk (HV.out.below (below_two HB.out HG.out _ _)) HR.out, below_two HB.out HG.out _ _⟩
  · go_wp2
    refine bodyPost_ret (v := .agg #[.bool false, .slice A 0 c]) (by simp [results, Tryz.results57, go_sem, r0, r1]) rfl ?_
    exact ⟨_, rfl, iv_mk (HV.out.below (below_two HB.out HG.out _ _)) HR.out, below_two HB.out HG.out _ _⟩
  · go_wp2
    refine bodyPost_ret (v := .agg #[.bool true, .slice A n c]) (by simp [results, Tryz.results57, go_sem, r0, r1]) rfl ?_
    exact ⟨_, rfl, iv_mk (HV.out.below (below_two HB.out HG.out _ _)) HR.out, below_two HB.out HG.out _ _⟩

end Go.Proofs.YtjeaakkbkjhldaaGreatDoor

set_option linter.unusedVariables false
set_option linter.unusedSimpArgs false
namespace Go.Proofs.YtjeaakkbkjhldaaGreatDoor
open Go.RowKit

/-- no cell of the block r holds a number -/
def NoInt (w : World) (r : Nat) : Prop := ∀ a : Addr, a.block = r → ∀ k x, w.cell? a ≠ some (.int k x)
theorem cell_set_cases (w : World) (p a : Addr) (u v : Value) (h : (w.setCell p u).cell? a = some v) : v = u ∨ w.cell? a = some v := by
  by_cases e : p = a
  · subst e
    cases hc : w.cell? p with
    | some old => rw [World.cell?_setCell_same w p u hc] at h; left; exact (Option.some.inj h).symm
    | none =>
      exfalso
      revert h hc
      unfold World.cell? World.setCell
      simp only [Array.getElem?_modify, if_true]
      cases hb : w.heap[p.block]? with
      | none => simp
      | some o =>
        cases o <;> simp
        intro h1 h2
        refine ⟨h1, ?_⟩
        rw [h1] at h2
        simp only [Option.isSome_none, Bool.false_eq_true, if_false] at h2
        have h3 := (Array.getElem?_eq_some_iff.1 h2).1
        simpa using h3
  · right; rw [World.cell?_setCell_other w p a u e] at h; exact h
theorem NoInt.below {B : Nat} {w w1 : World} {r : Nat} (h : NoInt w r) (hr : r < B) (hb : Below B w w1) : NoInt w1 r := by
  intro a ha k x
  rw [hb.cell (p := a) (by omega)]
  exact h a ha k x
theorem NoInt.set {w : World} {r : Nat} (h : NoInt w r) (p : Addr) {u : Value} (hu : ∀ k x, u ≠ .int k x) : NoInt (w.setCell p u) r := by
  intro a ha k x e
  rcases cell_set_cases w p a u _ e with h1 | h1
  · exact hu k x h1.symm
  · exact h a ha k x h1
theorem NoInt.put2 {w : World} {s : Nat} (h : NoInt w s) (r i j : Nat) (b : Bool) (A : Option Addr) (n c : Nat) : NoInt ((w.setCell ⟨r, i, none⟩ (.bool b)).setCell ⟨r, j, none⟩ (.slice A n c)) s :=
  (h.set _ (fun _ _ => by simp)).set _ (fun _ _ => by simp)
theorem NoInt.new (w : World) (cs : Array Value) (T : TypeId) (h : ∀ v ∈ cs, ∀ k x, v ≠ .int k x) : NoInt (w.alloc (.cells cs T)) w.heap.size := by
  intro a ha k x e
  have hb : (w.alloc (.cells cs T)).heap[a.block]? = some (.cells cs T) := by rw [ha]; exact heap_alloc_new w _
  unfold World.cell? at e
  rw [hb] at e
  simp only at e
  split at e
  · simp at e
  · exact h _ (Array.mem_of_getElem? e) k x rfl
theorem RdS.noint {w : World} {k : IntKind} {A : Option Addr} {n c : Nat} {xs : List Int} (h : RdS w k A n c xs) {p : Addr} (hr : NoInt w p.block) (u : Value) : RdS (w.setCell p u) k A n c xs :=
  ⟨h.len, h.cap, h.big, fun j hj => by
    obtain ⟨ad, rfl, hc⟩ := h.cell j hj
    refine ⟨ad, rfl, ?_⟩
    rw [World.cell?_setCell_other w p _ u (by rintro rfl; exact hr _ rfl _ _ hc)]
    exact hc⟩
theorem NV.noint {w : World} {v : Value} {x : Int} (h : NV w v x) {p : Addr} (hr : NoInt w p.block) (u : Value) : NV (w.setCell p u) v x := by
  obtain ⟨A, n, c, xs, h1, h2, h3⟩ := h
  exact ⟨A, n, c, xs, h1, h2.noint hr u, h3⟩
theorem NV.put2 {w : World} {v : Value} {x : Int} (h : NV w v x) {r : Nat} (hr : NoInt w r) (i j : Nat) (b : Bool) (A : Option Addr) (n c : Nat) : NV ((w.setCell ⟨r, i, none⟩ (.bool b)).setCell ⟨r, j, none⟩ (.slice A n c)) v x :=
  (h.noint (p := ⟨r, i, none⟩) hr _).noint (p := ⟨r, j, none⟩) (hr.set _ (fun _ _ => by simp)) _
theorem IV.put2 {w : World} {v : Value} {x : Int} (h : IV w v x) {r : Nat} (hr : NoInt w r) (i j : Nat) (b : Bool) (A : Option Addr) (n c : Nat) : IV ((w.setCell ⟨r, i, none⟩ (.bool b)).setCell ⟨r, j, none⟩ (.slice A n c)) v x := by
  obtain ⟨s, h1, h2⟩ := h
  exact ⟨s, h1, h2.put2 hr i j b A n c⟩
theorem box1_noint (w : World) (T : Nat) (b : Bool) (A : Option Addr) (n c : Nat) : NoInt (box1 w T (.bool b) (.slice A n c)) w.heap.size :=
  NoInt.new w _ T (by simp)
theorem box2_noint (w : World) (T T' : Nat) (b : Bool) (A : Option Addr) (n c : Nat) (b2 : Bool) (A2 : Option Addr) (n2 c2 : Nat) : NoInt (box2 w T T' (.bool b) (.slice A n c) (.bool b2) (.slice A2 n2 c2)) w.heap.size ∧ NoInt (box2 w T T' (.bool b) (.slice A n c) (.bool b2) (.slice A2 n2 c2)) (w.heap.size + 1) := by
  refine ⟨(NoInt.new w _ T (by simp)).below (by simp) (alloc_below _ _), ?_⟩
  have := NoInt.new (w.alloc (.cells #[.bool b, .slice A n c] T)) #[.bool b2, .slice A2 n2 c2] T' (by simp)
  rw [World.size_alloc] at this; exact this
theorem box3_noint (w : World) (T T' T'' : Nat) (b : Bool) (A : Option Addr) (n c : Nat) (b2 : Bool) (A2 : Option Addr) (n2 c2 : Nat) (b3 : Bool) (A3 : Option Addr) (n3 c3 : Nat) : NoInt (box3 w T T' T'' (.bool b) (.slice A n c) (.bool b2) (.slice A2 n2 c2) (.bool b3) (.slice A3 n3 c3)) (w.heap.size + 1 + 1) := by
  have := NoInt.new (box2 w T T' (.bool b) (.slice A n c) (.bool b2) (.slice A2 n2 c2)) #[.bool b3, .slice A3 n3 c3] T'' (by simp)
  have e : (box2 w T T' (.bool b) (.slice A n c) (.bool b2) (.slice A2 n2 c2)).heap.size = w.heap.size + 1 + 1 := by unfold box2; rw [World.size_alloc, World.size_alloc]
  rw [e] at this; exact this
theorem box4_noint (w : World) (T T' T'' T3 : Nat) (b : Bool) (A : Option Addr) (n c : Nat) (b2 : Bool) (A2 : Option Addr) (n2 c2 : Nat) (b3 : Bool) (A3 : Option Addr) (n3 c3 : Nat) (b4 : Bool) (A4 : Option Addr) (n4 c4 : Nat) :
    NoInt (box4 w T T' T'' T3 (.bool b) (.slice A n c) (.bool b2) (.slice A2 n2 c2) (.bool b3) (.slice A3 n3 c3) (.bool b4) (.slice A4 n4 c4)) (w.heap.size + 1 + 1) ∧ NoInt (box4 w T T' T'' T3 (.bool b) (.slice A n c) (.bool b2) (.slice A2 n2 c2) (.bool b3) (.slice A3 n3 c3) (.bool b4) (.slice A4 n4 c4)) (w.heap.size + 1 + 1 + 1) := by
  have e : (box3 w T T' T'' (.bool b) (.slice A n c) (.bool b2) (.slice A2 n2 c2) (.bool b3) (.slice A3 n3 c3)).heap.size = w.heap.size + 1 + 1 + 1 := by unfold box3; rw [World.size_alloc, World.size_alloc, World.size_alloc]
  refine ⟨(box3_noint w T T' T'' b A n c b2 A2 n2 c2 b3 A3 n3 c3).below (by rw [e]; omega) (alloc_below _ _), ?_⟩
  have := NoInt.new (box3 w T T' T'' (.bool b) (.slice A n c) (.bool b2) (.slice A2 n2 c2) (.bool b3) (.slice A3 n3 c3)) #[.bool b4, .slice A4 n4 c4] T3 (by simp)
  rw [e] at this; exact this

end Go.Proofs.YtjeaakkbkjhldaaGreatDoor
