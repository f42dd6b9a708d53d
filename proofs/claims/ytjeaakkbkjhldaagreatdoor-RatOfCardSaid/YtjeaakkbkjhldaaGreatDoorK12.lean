import Derived.Test.YtjeaakkbkjhldaaGreatDoorK2
import Derived.Test.YtjeaakkbkjhldaaGreatDoorK1
import Derived.Laws.CopyOwn
set_option linter.unusedVariables false
set_option linter.unusedSimpArgs false
namespace Go.Proofs.YtjeaakkbkjhldaaGreatDoor
open Go.RowKit

theorem info_int : (Tryz.prog.info? 3).map (fun i => (i.zero, i.size, i.bytes)) = some (some (.int .i64 0), 1, 8) := by kernel_rfl

/-- v is a magnitude of sterlingref1 (digits of 16 bits, in normal form): it reads as x. -/
def NV (w : World) (v : Value) (x : Int) : Prop := ∃ A n c xs, v = .slice A n c ∧ RdS w .i64 A n c xs ∧ Dgs 65536 xs ∧ Nrm xs ∧ val 65536 xs = x
theorem NV.below {w w1 : World} {v : Value} {x : Int} (h : NV w v x) (hb : Below w.heap.size w w1) : NV w1 v x := by
  obtain ⟨A, n, c, xs, h1, h2, h3⟩ := h
  exact ⟨A, n, c, xs, h1, h2.below hb, h3⟩
theorem NV.nil (w : World) : NV w (.slice none 0 0) 0 := ⟨none, 0, 0, [], rfl, RdS.nil _ _, Dgs.nil _, Nrm.nil, rfl⟩
theorem NV.nonneg {w : World} {v : Value} {x : Int} (h : NV w v x) : 0 ≤ x := by
  obtain ⟨A, n, c, xs, h1, h2, h3, h4, h5⟩ := h
  rw [← h5]; exact val_nonneg (by omega) h3
theorem pow16 (n : Nat) : (65536 : Int) ^ n = 2 ^ (16 * n) := by rw [Int.pow_mul]; rfl
/-- a number of at most k binary digits has at most k/16+1 digits -/
theorem nrm_len {xs : List Int} {x : Int} {k : Nat} (h : Dgs 65536 xs) (hn : Nrm xs) (hv : val 65536 xs = x) (hk : Sm k x) : 16 * xs.length ≤ k + 15 := by
  by_cases h0 : xs = []
  · subst h0; simp
  · have h6 := hn.val_ge (by omega) h h0
    have h7 := val_nonneg (by omega) h
    unfold Sm at hk
    rw [hv, pow16] at h6
    rcases Nat.lt_or_ge (16 * (xs.length - 1)) k with h8 | h8
    · omega
    · have : (2 : Int) ^ k ≤ 2 ^ (16 * (xs.length - 1)) := pow_le_pow' (by omega) h8
      omega
def NRes (w : World) (x : Int) (en : Ending) (w' : World) : Prop := ∃ v, en = .returned v ∧ NV w' v x ∧ Below w.heap.size w w'
theorem RdS.recap {w : World} {k : IntKind} {A : Option Addr} {n c : Nat} {xs : List Int} (h : RdS w k A n c xs) {m : Nat} (h1 : n ≤ m) (h2 : m ≤ c) : RdS w k A n m xs :=
  ⟨h.len, h1, Nat.le_trans h2 h.big, h.cell⟩
theorem NV.of_trim {w : World} {A : Option Addr} {n c : Nat} {xs : List Int} (h : RdS w .i64 A n c xs) (d : Dgs 65536 xs) : NV w (.slice A (nlen xs n) (nlen xs n)) (val 65536 xs) := by
  obtain ⟨m, xs', h1, h2, h3, h4, h5, h6⟩ := nrm_of h d
  rw [h6]
  exact ⟨_, _, _, xs', rfl, h1.recap (Nat.le_refl _) (Nat.le_trans h3 h.cap), h2, h5, h4⟩

/-! ### trim -/
set_option maxHeartbeats 1000000 in
theorem trim_calls {w : World} {A : Option Addr} {n c : Nat} {xs : List Int} (h : RdS w .i64 A n c xs) :
    Calls Tryz.prog 61 #[.slice A n c] w fun e w' => e = .returned (.slice A (nlen xs n) (nlen xs n)) ∧ w' = w := by
  have hbig := h.big
  have hcap := h.cap
  have hnl := nlen_le xs n
  go_enter Tryz.func61, Tryz.ntmps61
  go_wp2
  go_loop [3] (fun i => ∃ k : Nat, k ≤ n ∧ i = .int .i64 k ∧ nlen xs k = nlen xs n) (fun i => (intOf i).toNat)
  case atStart => exact ⟨n, Nat.le_refl _, rfl, rfl⟩
  case round =>
    obtain ⟨k, hk, rfl, hn⟩ := hrel
    have HN : Hid (nlen xs k = nlen xs n) := hn
    clear hn
    match k with
    | 0 =>
      go_wp2
      go_ret
      rw [← HN.out]; exact ⟨rfl, rfl⟩
    | k + 1 =>
      obtain ⟨ad, rfl, hc⟩ := h.cell k (by omega)
      by_cases h0 : dg xs k = 0
      · have h1 : (dg xs k == 0) = true := by simpa using h0
        have H0 : Hid (dg xs k = 0) := h0
        clear h0
        go_wp2
        go_round
        case rel => exact ⟨k, by omega, by go_num, by rw [← HN.out, nlen, if_pos H0.out]⟩
        case measure => simp [intOf]
      · have h1 : (dg xs k == 0) = false := by simpa using h0
        have H0 : Hid (¬ dg xs k = 0) := h0
        clear h0
        go_wp2
        go_ret
        rw [← HN.out, nlen, if_neg H0.out]; exact ⟨rfl, rfl⟩

end Go.Proofs.YtjeaakkbkjhldaaGreatDoor

set_option linter.unusedVariables false
set_option linter.unusedSimpArgs false
namespace Go.Proofs.YtjeaakkbkjhldaaGreatDoor
open Go.RowKit

/-! ### times -/
set_option maxHeartbeats 1000000 in
theorem times_calls {w : World} {A : Option Addr} {n c : Nat} {xs : List Int} {m : Int} (hx : RdS w .i64 A n c xs) (dx : Dgs 65536 xs) (hl : n ≤ 1099511627776) (m0 : 0 ≤ m) (m1 : m < 65536) :
    Calls Tryz.prog 138 #[.slice A n c, .int .i64 m] w fun e w' => ∃ g os, e = .returned (.slice (some ⟨g, 0, none⟩) (n + 1) (n + 1)) ∧ w.heap.size ≤ g ∧ OwnS w' .i64 3 g (n + 1) (n + 1) os ∧ Dgs 65536 os ∧ val 65536 os = m * val 65536 xs ∧ Below w.heap.size w w' := by
  have b1 := hx.big
  have b2 := hx.cap
  go_enter Tryz.func138, Tryz.ntmps138
  go_wp2_with (at_make; refine wpl_make rfl _ _ 30 rfl 3 .i64 8 Tryz.underlying30 info_int .i64 .i64 _ _ (n + 1) rfl rfl (by omega) (by omega) (by omega) (by omega) ?_; intro w1 g hg own hb)
  go_loopw [6, 7] (fun c i wr => ∃ (k : Nat) (cc : Int) (os : List Int), k ≤ n ∧ i = .int .i64 k ∧ c = .int .i64 cc ∧ Shut (TimesInv 65536 m xs os k cc) ∧ OwnS wr .i64 3 g (n + 1) (n + 1) os ∧ Below w.heap.size w wr) (fun _ i _ => n - (intOf i).toNat)
  case atStart => exact ⟨0, 0, _, Nat.zero_le _, rfl, rfl, ⟨TimesInv.start (by omega) xs _⟩, own, hb⟩
  case round =>
    clear own hb
    obtain ⟨k, cc, os, hk, rfl, rfl, HI, own, hb⟩ := hrel
    have i0 := HI.out.c0
    have i1 := HI.out.c1
    have hos := own.len
    by_cases hlt2 : k < n
    · obtain ⟨ad, rfl, hcell⟩ := hx.cell k hlt2
      have hcell2 := old_cell hb hcell
      have r1 := dg_lt (by omega) dx k
      clear hcell
      have hmb := mul_bd r1.1 r1.2 m0 m1
      have p0 := hmb.1
      have p1 : dg xs k * m ≤ 4294836225 := by have := hmb.2; omega
      clear hmb
      have HS := HI.out.step m0 m1 dx (by omega) rfl rfl rfl
      have fz := own.frozen k
      have fc := own.cell k (by omega)
      go_wp2
      go_roundw
      case rel => exact ⟨k + 1, _, _, by omega, by go_num, rfl, ⟨HS⟩, own.set k _, bset hb hg _⟩
      case measure => simp [intOf]; omega
    · obtain rfl : k = n := by omega
      have fz := own.frozen k
      have fc := own.cell k (by omega)
      have HD := Shut.mk (HI.out.done hx.len (by omega) (d := cc) rfl)
      go_wp2
      go_ret
      exact ⟨g, _, rfl, hg, own.set k _, HD.out.1, HD.out.2, bset hb hg _⟩

end Go.Proofs.YtjeaakkbkjhldaaGreatDoor

set_option linter.unusedVariables false
set_option linter.unusedSimpArgs false
namespace Go.Proofs.YtjeaakkbkjhldaaGreatDoor
open Go.RowKit

theorem NV.split {w : World} {v : Value} {x : Int} {k : Nat} (h : NV w v x) (hk : Sm k x) (hk1 : k ≤ 137438953472) : ∃ A n c xs, v = .slice A n c ∧ RdS w .i64 A n c xs ∧ Dgs 65536 xs ∧ Nrm xs ∧ val 65536 xs = x ∧ n ≤ 8589934593 := by
  obtain ⟨A, n, c, xs, h1, h2, h3, h4, h5⟩ := h
  refine ⟨A, n, c, xs, h1, h2, h3, h4, h5, ?_⟩
  have := nrm_len h3 h4 h5 hk
  rw [h2.len] at this
  omega

/-! ### small -/
def SmallRes (w : World) (x m : Int) (en : Ending) (w' : World) : Prop := ∃ v, en = .returned (.tuple #[v, .int .i64 (x % m)]) ∧ NV w' v (x / m) ∧ Below w.heap.size w w'
set_option maxHeartbeats 1000000 in
theorem small_calls {w : World} {A : Option Addr} {n c : Nat} {xs : List Int} {m : Int} (hx : RdS w .i64 A n c xs) (dx : Dgs 65536 xs) (hl : n ≤ 1099511627776) (m0 : 0 < m) (m1 : m < 65536) :
    Calls Tryz.prog 105 #[.slice A n c, .int .i64 m] w (SmallRes w (val 65536 xs) m) := by
  have b1 := hx.big
  have b2 := hx.cap
  have hlen := hx.len
  have HS0 := Shut.mk (SmallInv.start (B := 65536) (by omega) m0 xs)
  rw [hlen] at HS0
  go_enter Tryz.func105, Tryz.ntmps105
  go_wp2_with (at_make; refine wpl_make rfl _ _ 30 rfl 3 .i64 8 Tryz.underlying30 info_int .i64 .i64 _ _ n rfl rfl (by omega) (by omega) (by omega) (by omega) ?_; intro w1 g hg own hb)
  go_loopw [7, 8] (fun r i wr => ∃ (k : Nat) (rr : Int) (os : List Int), k ≤ n ∧ i = .int .i64 ((k : Int) - 1) ∧ r = .int .i64 rr ∧ Shut (SmallInv 65536 m xs os k rr) ∧ OwnS wr .i64 3 g n n os ∧ Below w.heap.size w wr) (fun _ i _ => (intOf i + 1).toNat)
  case atStart => exact ⟨n, 0, _, by omega, rfl, rfl, HS0, own, hb⟩
  case round =>
    clear own hb HS0
    obtain ⟨k, rr, os, hk, rfl, rfl, HI, own, hb⟩ := hrel
    have r0 := HI.out.r0
    have r1 := HI.out.r1
    match k with
    | 0 =>
      have HD := Shut.mk (HI.out.done m0)
      have hrd := own.rd
      have hbig := hrd.big
      go_wp2_with fail
      refine (trim_calls hrd).mono ?_
      rintro e w' ⟨rfl, hw⟩
      obtain rfl := hw.symm
      go_wp2
      refine bodyPost_ret (v := .tuple #[.slice (some ⟨g, 0, none⟩) (nlen os n) (nlen os n), .int .i64 rr]) (by simp [results, Tryz.results105, go_sem]) rfl ?_
      refine ⟨_, by rw [← HD.out.2], ?_, hb⟩
      rw [← HD.out.1]
      exact NV.of_trim hrd HI.out.dig
    | k + 1 =>
      obtain ⟨ad, rfl, hcell⟩ := hx.cell k (by omega)
      have hcell2 := old_cell hb hcell
      have hd := dg_lt (by omega) dx k
      clear hcell
      have fz := own.frozen k
      have fc := own.cell k (by omega)
      have p0 : 0 ≤ rr * 65536 := by omega
      have p1 : rr * 65536 ≤ 4294901760 := by omega
      have HS := HI.out.step (by omega) m0 dx (by omega) rfl rfl rfl
      go_wp2
      go_roundw
      case rel => exact ⟨k, _, _, by omega, by go_num, rfl, ⟨HS⟩, own.set k _, bset hb hg _⟩
      case measure => simp [intOf]

end Go.Proofs.YtjeaakkbkjhldaaGreatDoor

set_option linter.unusedVariables false
set_option linter.unusedSimpArgs false
namespace Go.Proofs.YtjeaakkbkjhldaaGreatDoor
open Go.RowKit

theorem PlusInv.full {B : Int} (hB : 1 < B) {xs ys os : List Int} {n : Nat} {c : Int} (h : PlusInv B xs ys os n c) (hdx : Dgs B xs) (hdy : Dgs B ys) (hx : xs.length < n) (hy : ys.length < n) (ho : os.length = n) : val B os = val B xs + val B ys := by
  have h5 := h.eq
  rw [List.take_of_length_le (l := xs) (by omega), List.take_of_length_le (l := ys) (by omega), List.take_of_length_le (l := os) (by omega)] at h5
  have h3 := h.c0
  have a1 := val_lt (by omega) hdx
  have a2 := val_lt (by omega) hdy
  have a3 : B ^ xs.length ≤ B ^ (n - 1) := pow_le_pow' (by omega) (by omega)
  have a4 : B ^ ys.length ≤ B ^ (n - 1) := pow_le_pow' (by omega) (by omega)
  have a5 : B ^ n = B ^ (n - 1) * B := by rw [← Int.pow_succ]; congr 1; omega
  have a6 : B ^ (n - 1) * 2 ≤ B ^ (n - 1) * B := Int.mul_le_mul_of_nonneg_left (by omega) (Int.le_of_lt (pow_pos' (by omega) _))
  have a7 := val_nonneg (by omega) h.dig
  have a8 : 0 < B ^ n := pow_pos' (by omega) n
  rcases Int.lt_or_eq_of_le h3 with h6 | h6
  · have : B ^ n * 1 ≤ B ^ n * c := Int.mul_le_mul_of_nonneg_left (by omega) (Int.le_of_lt a8)
    omega
  · rw [← h6, Int.mul_zero] at h5; omega

/-! ### add -/
set_option maxHeartbeats 2000000 in
theorem add16_calls {w : World} {v v' : Value} {x y : Int} {kx : Nat} (hx : NV w v x) (hy : NV w v' y) (sx : Sm kx x) (sy : Sm kx y) (hk : kx ≤ 137438953472) :
    Calls Tryz.prog 101 #[v, v'] w (NRes w (x + y)) := by
  obtain ⟨A1, n1, c1, xs, rfl, hx, dx, nx, hvx, hl1⟩ := hx.split sx hk
  obtain ⟨A2, n2, c2, ys, rfl, hy, dy, ny, hvy, hl2⟩ := hy.split sy hk
  have HVX := Shut.mk hvx
  have HVY := Shut.mk hvy
  clear hvx hvy
  have b1 := hx.big
  have b2 := hx.cap
  have b3 := hy.big
  have b4 := hy.cap
  obtain ⟨n, hn1, hn2, hn3, HN⟩ : ∃ n : Nat, n1 ≤ n ∧ n2 ≤ n ∧ n ≤ 8589934593 ∧ Shut (((n2 : Int) > n1 → n = n2) ∧ (¬ (n2 : Int) > n1 → n = n1)) := ⟨max n1 n2, by omega, by omega, by omega, ⟨by omega, by omega⟩⟩
  go_enter Tryz.func101, Tryz.ntmps101
  go_upto_if 14 with fail
  go_cut [5] (fun s5 wc => s5 = .int .i64 n ∧ wc = w)
  case first =>
    by_cases h : (n2 : Int) > n1
    · have e := HN.out.1 h
      go_wp2
      go_meet
      case rel => exact ⟨by rw [e], by first | rfl | trivial⟩
    · have e := HN.out.2 h
      go_wp2
      go_meet
      case rel => exact ⟨by rw [e], by first | rfl | trivial⟩
  case rest =>
    obtain ⟨rfl, hw⟩ := hcut
    obtain rfl := hw.symm
    go_wp2_with (at_make; refine wpl_make rfl _ _ 30 rfl 3 .i64 8 Tryz.underlying30 info_int .i64 .i64 _ _ (n + 1) rfl rfl (by omega) (by omega) (by omega) (by omega) ?_; intro w1 g hg own hb)
    go_loopw [7, 8] (fun c i wr => ∃ (k : Nat) (cc : Int) (os : List Int), k ≤ n + 1 ∧ i = .int .i64 k ∧ c = .int .i64 cc ∧ Shut (PlusInv 65536 xs ys os k cc) ∧ OwnS wr .i64 3 g (n + 1) (n + 1) os ∧ Below w.heap.size w wr) (fun _ i _ => n + 1 - (intOf i).toNat)
    case atStart => exact ⟨0, 0, _, Nat.zero_le _, rfl, rfl, ⟨PlusInv.start _ (by omega) xs ys _⟩, own, hb⟩
    case round =>
      clear own hb
      obtain ⟨k, cc, os, hk, rfl, rfl, HI, own, hb⟩ := hrel
      have i0 := HI.out.c0
      have i1 := HI.out.c1
      have hos := own.len
      by_cases hlt2 : k ≤ n
      · have r1 := dg_lt (by omega) dx k
        have r2 := dg_lt (by omega) dy k
        have fz := own.frozen k
        have fc := own.cell k (by omega)
        by_cases hk1 : k < n1
        · obtain ⟨ad, rfl, hcell⟩ := hx.cell k hk1
          have hcell2 := old_cell hb hcell
          clear hcell
          by_cases hk2 : k < n2
          · obtain ⟨ad2, rfl, hcell3⟩ := hy.cell k hk2
            have hcell4 := old_cell hb hcell3
            clear hcell3
            have HS := HI.out.step (t := cc + dg xs k + dg ys k) (by omega) dx dy (by omega) rfl rfl rfl
            go_wp2
            go_roundw
            case rel => exact ⟨k + 1, _, _, by omega, by go_num, rfl, ⟨HS⟩, own.set k _, bset hb hg _⟩
            case measure => simp [intOf]; omega
          · have hz : dg ys k = 0 := dg_ge (by rw [hy.len]; omega)
            have HS := HI.out.step (t := cc + dg xs k) (by omega) dx dy (by omega) (by rw [hz]; omega) rfl rfl
            clear hz
            go_wp2
            go_roundw
            case rel => exact ⟨k + 1, _, _, by omega, by go_num, rfl, ⟨HS⟩, own.set k _, bset hb hg _⟩
            case measure => simp [intOf]; omega
        · have hz1 : dg xs k = 0 := dg_ge (by rw [hx.len]; omega)
          by_cases hk2 : k < n2
          · obtain ⟨ad2, rfl, hcell3⟩ := hy.cell k hk2
            have hcell4 := old_cell hb hcell3
            clear hcell3
            have HS := HI.out.step (t := cc + dg ys k) (by omega) dx dy (by omega) (by rw [hz1]; omega) rfl rfl
            clear hz1
            go_wp2
            go_roundw
            case rel => exact ⟨k + 1, _, _, by omega, by go_num, rfl, ⟨HS⟩, own.set k _, bset hb hg _⟩
            case measure => simp [intOf]; omega
          · have hz : dg ys k = 0 := dg_ge (by rw [hy.len]; omega)
            have HS := HI.out.step (t := cc) (by omega) dx dy (by omega) (by rw [hz, hz1]; omega) rfl rfl
            clear hz hz1
            go_wp2
            go_roundw
            case rel => exact ⟨k + 1, _, _, by omega, by go_num, rfl, ⟨HS⟩, own.set k _, bset hb hg _⟩
            case measure => simp [intOf]; omega
      · obtain rfl : k = n + 1 := by omega
        have HD := Shut.mk (HI.out.full (by omega) dx dy (by rw [hx.len]; omega) (by rw [hy.len]; omega) (by omega))
        have HDg := Shut.mk HI.out.dig
        have hrd := own.rd
        go_wp2_with fail
        refine (trim_calls hrd).mono ?_
        rintro e w' ⟨rfl, hw⟩
        obtain rfl := hw.symm
        go_wp2
        go_ret
        refine ⟨_, rfl, ?_, hb⟩
        rw [← HVX.out, ← HVY.out, ← HD.out]
        exact NV.of_trim hrd HDg.out

end Go.Proofs.YtjeaakkbkjhldaaGreatDoor

set_option linter.unusedVariables false
set_option linter.unusedSimpArgs false
namespace Go.Proofs.YtjeaakkbkjhldaaGreatDoor
open Go.RowKit

/-! ### sub -/
theorem MinusInv.sub {B : Int} (hB : 1 < B) {xs ys os : List Int} {k : Nat} {c : Int} (h : MinusInv B xs ys os k (-c)) (hx : Dgs B xs) (hy : Dgs B ys) (hk : k < os.length)
    {t : Int} (ht : t = dg xs k - c - dg ys k) : (t < 0 → MinusInv B xs ys (os.set k (t + B)) (k + 1) (-1)) ∧ (¬ t < 0 → MinusInv B xs ys (os.set k t) (k + 1) (-0)) := by
  have h0 := h.c0
  have h1 := h.c1
  have h2 := dg_lt (by omega) hx k
  have h3 := dg_lt (by omega) hy k
  obtain ⟨e1, e2⟩ := borrow_at (B := B) (t := t) (by omega) (by omega)
  refine ⟨fun hn => ?_, fun hn => ?_⟩
  · obtain ⟨a, b⟩ := e1 hn
    rw [a, b]
    exact h.step hB hx hy hk (by omega) rfl rfl
  · obtain ⟨a, b⟩ := e2 hn
    rw [Int.neg_zero]
    have := h.step hB hx hy hk (t := t) (by omega) a b
    exact this
set_option maxHeartbeats 2000000 in
theorem sub16_calls {w : World} {v v' : Value} {x y : Int} {kx : Nat} (hx : NV w v x) (hy : NV w v' y) (sx : Sm kx x) (hk : kx ≤ 137438953472) (hle : y ≤ x) :
    Calls Tryz.prog 103 #[v, v'] w (NRes w (x - y)) := by
  have sy : Sm kx y := sx.le (by have := hx.nonneg; have := hy.nonneg; omega)
  obtain ⟨A1, n1, c1, xs, rfl, hx, dx, nx, hvx, hl1⟩ := hx.split sx hk
  obtain ⟨A2, n2, c2, ys, rfl, hy, dy, ny, hvy, hl2⟩ := hy.split sy hk
  have h21 : n2 ≤ n1 := by
    rcases Nat.lt_or_ge n1 n2 with h | h
    · have := ny.lt_of_len (B := 65536) (by omega) dx dy (by rw [hx.len, hy.len]; exact h)
      omega
    · exact h
  have HLE : Shut (val 65536 ys ≤ val 65536 xs) := ⟨by rw [hvx, hvy]; exact hle⟩
  have HVX := Shut.mk hvx
  have HVY := Shut.mk hvy
  clear hvx hvy hle
  have b1 := hx.big
  have b2 := hx.cap
  have b3 := hy.big
  have b4 := hy.cap
  go_enter Tryz.func103, Tryz.ntmps103
  go_wp2_with (at_make; refine wpl_make rfl _ _ 30 rfl 3 .i64 8 Tryz.underlying30 info_int .i64 .i64 _ _ n1 rfl rfl (by omega) (by omega) (by omega) (by omega) ?_; intro w1 g hg own hb)
  go_loopw [6, 7] (fun c i wr => ∃ (k : Nat) (cc : Int) (os : List Int), k ≤ n1 ∧ i = .int .i64 k ∧ c = .int .i64 cc ∧ Shut (MinusInv 65536 xs ys os k (-cc)) ∧ OwnS wr .i64 3 g n1 n1 os ∧ Below w.heap.size w wr) (fun _ i _ => n1 - (intOf i).toNat)
  case atStart => exact ⟨0, 0, _, Nat.zero_le _, rfl, rfl, ⟨MinusInv.start _ (by omega) xs ys _⟩, own, hb⟩
  case round =>
    clear own hb
    obtain ⟨k, cc, os, hk, rfl, rfl, HI, own, hb⟩ := hrel
    have i0 := HI.out.c0
    have i1 := HI.out.c1
    have hos := own.len
    by_cases hlt2 : k < n1
    · obtain ⟨ad, rfl, hcell⟩ := hx.cell k hlt2
      have hcell2 := old_cell hb hcell
      have r1 := dg_lt (by omega) dx k
      have r2 := dg_lt (by omega) dy k
      clear hcell
      have fz := own.frozen k
      have fc := own.cell k (by omega)
      by_cases hk2 : k < n2
      · obtain ⟨ad2, rfl, hcell3⟩ := hy.cell k hk2
        have hcell4 := old_cell hb hcell3
        clear hcell3
        have HS := Shut.mk (HI.out.sub (t := dg xs k - cc - dg ys k) (by omega) dx dy (by omega) rfl)
        by_cases hneg : dg xs k - cc - dg ys k < 0
        · have HS2 := Shut.mk (HS.out.1 hneg)
          clear HS
          go_wp2
          go_roundw
          case rel => exact ⟨k + 1, _, _, by omega, by go_num, rfl, HS2, own.set k _, bset hb hg _⟩
          case measure => simp [intOf]; omega
        · have HS2 := Shut.mk (HS.out.2 hneg)
          clear HS
          go_wp2
          go_roundw
          case rel => exact ⟨k + 1, _, _, by omega, by go_num, rfl, HS2, own.set k _, bset hb hg _⟩
          case measure => simp [intOf]; omega
      · have hz : dg ys k = 0 := dg_ge (by rw [hy.len]; omega)
        have HS := Shut.mk (HI.out.sub (t := dg xs k - cc) (by omega) dx dy (by omega) (by rw [hz]; omega))
        clear hz
        by_cases hneg : dg xs k - cc < 0
        · have HS2 := Shut.mk (HS.out.1 hneg)
          clear HS
          go_wp2
          go_roundw
          case rel => exact ⟨k + 1, _, _, by omega, by go_num, rfl, HS2, own.set k _, bset hb hg _⟩
          case measure => simp [intOf]; omega
        · have HS2 := Shut.mk (HS.out.2 hneg)
          clear HS
          go_wp2
          go_roundw
          case rel => exact ⟨k + 1, _, _, by omega, by go_num, rfl, HS2, own.set k _, bset hb hg _⟩
          case measure => simp [intOf]; omega
    · obtain rfl : k = n1 := by omega
      have HD := Shut.mk (HI.out.done (by omega) hx.len (by rw [hy.len]; omega) own.len HLE.out)
      have hrd := own.rd
      go_wp2_with fail
      refine (trim_calls hrd).mono ?_
      rintro e w' ⟨rfl, hw⟩
      obtain rfl := hw.symm
      go_wp2
      go_ret
      refine ⟨_, rfl, ?_, hb⟩
      rw [← HVX.out, ← HVY.out, ← HD.out.2]
      exact NV.of_trim hrd HD.out.1

/-! ### cmp -/
def cmp3 (x y : Int) : Int := if x < y then -1 else if x = y then 0 else 1
set_option maxHeartbeats 2000000 in
theorem cmp16_calls {w : World} {v v' : Value} {x y : Int} {kx : Nat} (hx : NV w v x) (hy : NV w v' y) (sx : Sm kx x) (sy : Sm kx y) (hk : kx ≤ 137438953472) :
    Calls Tryz.prog 102 #[v, v'] w fun e w' => e = .returned (.int .i64 (cmp3 x y)) ∧ Below w.heap.size w w' := by
  obtain ⟨A1, n1, c1, xs, rfl, hx, dx, nx, hvx, hl1⟩ := hx.split sx hk
  obtain ⟨A2, n2, c2, ys, rfl, hy, dy, ny, hvy, hl2⟩ := hy.split sy hk
  have HL1 : Shut (n1 < n2 → cmp3 x y = -1) := ⟨fun h => by
    have := ny.lt_of_len (B := 65536) (by omega) dx dy (by rw [hx.len, hy.len]; exact h)
    unfold cmp3; rw [if_pos (by omega)]⟩
  have HL2 : Shut (n2 < n1 → cmp3 x y = 1) := ⟨fun h => by
    have := nx.lt_of_len (B := 65536) (by omega) dy dx (by rw [hx.len, hy.len]; exact h)
    unfold cmp3; rw [if_neg (by omega), if_neg (by omega)]⟩
  have HVX := Shut.mk hvx
  have HVY := Shut.mk hvy
  clear hvx hvy
  have b1 := hx.big
  have b2 := hx.cap
  have b3 := hy.big
  have b4 := hy.cap
  by_cases hne : n1 = n2
  · subst hne
    have hnb : ((n1 : Int) != (n1 : Int)) = false := by simp
    go_enter Tryz.func102, Tryz.ntmps102
    go_wp2
    go_loopw [5] (fun i wr => ∃ (k : Nat), k ≤ n1 ∧ i = .int .i64 ((k : Int) - 1) ∧ Shut (∀ j, k ≤ j → dg xs j = dg ys j) ∧ Below w.heap.size w wr) (fun i _ => (intOf i + 1).toNat)
    case atStart => exact ⟨n1, Nat.le_refl _, rfl, ⟨fun j hj => by rw [dg_ge (by rw [hx.len]; exact hj), dg_ge (by rw [hy.len]; exact hj)]⟩, Below.refl _ _⟩
    case round =>
      obtain ⟨k, hk, rfl, HI, hb⟩ := hrel
      match k with
      | 0 =>
        have HE : Shut (cmp3 x y = 0) := ⟨by
          have : val 65536 xs = val 65536 ys := val_eq_of_dg (fun j => HI.out j (Nat.zero_le _))
          unfold cmp3; rw [← HVX.out, ← HVY.out, if_neg (by omega), if_pos this]⟩
        go_wp2
        go_ret
        exact ⟨by rw [HE.out]; rfl, hb⟩
      | k + 1 =>
        obtain ⟨ad, rfl, hcell⟩ := hx.cell k (by omega)
        obtain ⟨ad2, rfl, hcell3⟩ := hy.cell k (by omega)
        replace hcell := old_cell hb hcell
        replace hcell3 := old_cell hb hcell3
        have q1 : (k : Int) < n1 := by omega
        have q0 : (0 : Int) ≤ k := by omega
        by_cases h1 : dg xs k < dg ys k
        · have HE : Shut (cmp3 x y = -1) := ⟨by
            have := val_lt_at (by omega) dx dy h1 (fun j hj => HI.out j hj)
            unfold cmp3; rw [← HVX.out, ← HVY.out, if_pos this]⟩
          clear HI
          go_upto_region 8 with fail
          go_quiet (fail)
          go_wp2
          go_ret
          exact ⟨by rw [HE.out]; rfl, hb.drewN _⟩
        · go_upto_region 8 with fail
          go_quiet (fail)
          by_cases h2 : dg ys k < dg xs k
          · have HE : Shut (cmp3 x y = 1) := ⟨by
              have := val_lt_at (by omega) dy dx h2 (fun j hj => (HI.out j hj).symm)
              unfold cmp3; rw [← HVX.out, ← HVY.out, if_neg (by omega), if_neg (by omega)]⟩
            clear HI
            go_upto_region 10 with fail
            go_quiet (fail)
            go_wp2
            go_ret
            exact ⟨by rw [HE.out]; rfl, hb.drewN _⟩
          · have HI2 : Shut (∀ j, k ≤ j → dg xs j = dg ys j) := ⟨fun j hj => by
              rcases Nat.lt_or_eq_of_le hj with h | h
              · exact HI.out j h
              · subst h; omega⟩
            clear HI
            go_upto_region 10 with fail
            go_quiet (fail)
            go_wp2
            go_roundw
            case rel => exact ⟨k, by omega, by go_num, HI2, hb.drewN _⟩
            case measure => simp [intOf]
  · have hnb : ((n1 : Int) != (n2 : Int)) = true := by simp; omega
    by_cases hlt : n1 < n2
    · have HE := Shut.mk (HL1.out hlt)
      go_enter Tryz.func102, Tryz.ntmps102
      go_wp2
      go_ret
      exact ⟨by rw [HE.out]; rfl, Below.refl _ _⟩
    · have HE := Shut.mk (HL2.out (by omega))
      go_enter Tryz.func102, Tryz.ntmps102
      go_wp2
      go_ret
      exact ⟨by rw [HE.out]; rfl, Below.refl _ _⟩

end Go.Proofs.YtjeaakkbkjhldaaGreatDoor

set_option linter.unusedVariables false
set_option linter.unusedSimpArgs false
namespace Go.Proofs.YtjeaakkbkjhldaaGreatDoor
open Go.RowKit

/-- 'copy(u[k:], w)' into a row of the call's own that is known whole -/
theorem wpl_copy {P : Program} {w : World} {ops : Array Oper} {rest : List Oper} {o : Oper} {a : Act} {Q : Exit → Act → World → Prop} (hgd : o.guard = none) (d s : Operand) (t : TypeId)
    (ho : o.op = .call { callee := .builtin .copy, args := #[d, s], argTypes := #[t, t] }) (e : TypeId) (k : IntKind) (hu : P.underlying t = some (.slice e)) (hsz : (P.info? e).map (·.size) = some 1)
    (g off dLen dCap : Nat) (ad : Addr) (m c : Nat) (hd : a.eval d = .slice (some ⟨g, off, none⟩) dLen dCap) (hs : a.eval s = .slice (some ad) m c)
    (n : Nat) (us ws : List Int) (own : OwnS w k e g n n us) (hr : RdS w k (some ad) m c ws) (hm : m ≤ dLen) (hfit : off + m ≤ n)
    (h : ∀ w', OwnS w' k e g n n (us.take off ++ (ws ++ us.drop (off + m))) → Only w w' g → wpList P ops Q rest (a.put o.dst (goInt m)) w') : wpList P ops Q (o :: rest) a w := by
  obtain ⟨cur, hc, hcs, ht⟩ := own.blk
  have hlen := hr.len
  have hful : cur.toList = us.map (.int k) := by rw [← ht, List.take_of_length_le (by simpa using Nat.le_of_eq hcs)]
  have hml : (ws.map (Value.int k)).length = m := by rw [List.length_map, hlen]
  refine wpList_copy_own hgd d s t t ho e hu hsz g off dLen dCap ad m c hd hs cur e hc (ws.map (.int k)) (by rw [hml]; exact (Nat.min_eq_left hm).symm) ?_ (by rw [hml]; omega) ?_ ?_
  · intro j v hv
    rw [List.getElem?_map] at hv
    by_cases hj : j < m
    · obtain ⟨ad', e', hcell⟩ := hr.cell j hj
      obtain rfl := Option.some.inj e'
      rw [dg_getElem (by omega)] at hv
      rw [hcell]; simpa using hv
    · rw [List.getElem?_eq_none (by omega)] at hv; simp at hv
  · intro v hv
    obtain ⟨_, _, rfl⟩ := List.mem_map.1 hv
    rfl
  · rw [hml]
    refine h _ ?_ ⟨rfl, rfl, rfl, by simp [World.setRow], fun j hj => setRow_other w g j _ hj⟩
    refine ⟨?_, Nat.le_refl _, own.big, _, setRow_heap w g cur _ e _ hc, ?_, ?_⟩
    · simp only [List.length_append, List.length_take, List.length_drop, hlen, own.len]; omega
    · have : cur.toList.length = n := by simpa using hcs
      simp only [List.size_toArray, List.length_append, List.length_take, List.length_drop, hml, this]; omega
    · have hl2 : (cur.toList.take off ++ (ws.map (Value.int k) ++ cur.toList.drop (off + m))).length ≤ n := by
        have : cur.toList.length = n := by simpa using hcs
        simp only [List.length_append, List.length_take, List.length_drop, hml, this]; omega
      rw [List.take_of_length_le hl2, hful, List.map_append, List.map_append, List.map_take, List.map_drop]

/-- The blocks g and h apart, the world is as it was. -/
structure Only2 (w w' : World) (g h : Nat) : Prop where
  os : w'.os = w.os
  tape : w'.tape = w.tape
  output : w'.output = w.output
  size : w'.heap.size = w.heap.size
  block : ∀ k, k ≠ g → k ≠ h → w'.heap[k]? = w.heap[k]?
theorem Only2.of {w w1 w2 : World} {g h : Nat} (a : Only w w1 h) (b : Only w1 w2 g) : Only2 w w2 g h :=
  ⟨b.os.trans a.os, b.tape.trans a.tape, b.output.trans a.output, b.size.trans a.size, fun k h1 h2 => (b.block k h1).trans (a.block k h2)⟩
theorem Only2.left {w w1 : World} {g h : Nat} (a : Only w w1 h) : Only2 w w1 g h := ⟨a.os, a.tape, a.output, a.size, fun k _ h2 => a.block k h2⟩
theorem Only2.below {B : Nat} {w0 w w1 : World} {g h : Nat} (a : Only2 w w1 g h) (hb : Below B w0 w) (hg : B ≤ g) (hh : B ≤ h) : Below B w0 w1 :=
  hb.trans ⟨a.os, a.tape, a.output, by rw [a.size]; exact Nat.le_refl _, fun k hk => a.block k (by omega) (by omega)⟩
theorem Only2.cell {w w1 : World} {g h : Nat} (a : Only2 w w1 g h) {p : Addr} (h1 : p.block ≠ g) (h2 : p.block ≠ h) : w1.cell? p = w.cell? p := World.cell?_of_block (w := w) (a.block p.block h1 h2)
theorem Only2.own {w w1 : World} {g h : Nat} (a : Only2 w w1 g h) {k : IntKind} {e g' n c : Nat} {ys : List Int} (ho : OwnS w k e g' n c ys) (h1 : g' ≠ g) (h2 : g' ≠ h) : OwnS w1 k e g' n c ys := by
  obtain ⟨cur, hc, r⟩ := ho.blk
  exact ⟨ho.len, ho.cap, ho.big, cur, (a.block g' h1 h2).trans hc, r⟩

theorem LessInv.bounds {B g : Int} {ds us ws : List Int} {k i : Nat} {c : Int} (h : LessInv B g ds us ws k i c) : 0 ≤ c ∧ c ≤ B := ⟨h.c0, h.c1⟩

/-! ### less -/
def LessRes (w : World) (gu gw nu nw k : Nat) (us vs : List Int) (g : Int) (en : Ending) (w' : World) : Prop :=
  ∃ (b : Bool) (us' ws' : List Int), en = .returned (.bool b) ∧ OwnS w' .i64 3 gu nu nu us' ∧ OwnS w' .i64 3 gw nw nw ws' ∧ Only2 w w' gu gw ∧
    (b = true → Dgs 65536 us' ∧ (∀ t, t < k ∨ k + nw ≤ t → dg us' t = dg us t) ∧ val 65536 ((us'.drop k).take nw) = val 65536 ((us.drop k).take nw) - g * val 65536 vs) ∧
    (b = false → us' = us ∧ val 65536 ((us.drop k).take nw) < g * val 65536 vs)
theorem splice_facts {B : Int} {us os : List Int} {k m : Nat} (du : Dgs B us) (do' : Dgs B os) (hm : os.length = m) (hk : k + m ≤ us.length) :
    Dgs B (us.take k ++ (os ++ us.drop (k + m))) ∧ (∀ t, t < k ∨ k + m ≤ t → dg (us.take k ++ (os ++ us.drop (k + m))) t = dg us t) ∧ (((us.take k ++ (os ++ us.drop (k + m))).drop k).take m) = os := by
  have hl : (us.take k).length = k := by rw [List.length_take]; omega
  refine ⟨(du.take k).append (do'.append (du.drop _)), ?_, ?_⟩
  · intro t ht
    rcases ht with h | h
    · rw [dg_append_lt (by omega), dg_take, if_pos h]
    · rw [dg_append_ge (by omega), dg_append_ge (by omega), dg_drop]
      congr 1; omega
  · rw [List.drop_left' hl, List.take_left' hm]
theorem int_one : (Tryz.prog.info? 3).map (·.size) = some 1 := by kernel_rfl

set_option maxHeartbeats 4000000 in
set_option maxRecDepth 100000 in
theorem less_calls {w : World} {Av : Option Addr} {gu gw nu n cv k : Nat} {us vs ws : List Int} {g : Int} (hu : OwnS w .i64 3 gu nu nu us) (hw : OwnS w .i64 3 gw (n + 1) (n + 1) ws) (hv : RdS w .i64 Av n cv vs) (du : Dgs 65536 us) (dv : Dgs 65536 vs)
    (hne : gu ≠ gw) (hA : ∀ ad, Av = some ad → ad.block ≠ gw) (hk : k + n + 1 ≤ nu) (hnu : nu ≤ 1099511627776) (g0 : 0 ≤ g) (g1 : g < 65536) :
    Calls Tryz.prog 139 #[.slice (some ⟨gu, 0, none⟩) nu nu, .slice Av n cv, .slice (some ⟨gw, 0, none⟩) (n + 1) (n + 1), .int .i64 k, .int .i64 g] w (LessRes w gu gw nu (n + 1) k us vs g) := by
  have b1 := hu.big
  have b2 := hv.big
  have b3 := hv.cap
  have hul := hu.len
  go_enter Tryz.func139, Tryz.ntmps139
  go_wp2
  go_loopw [12, 13] (fun c i wr => ∃ (j : Nat) (cc : Int) (os : List Int), j ≤ n + 1 ∧ i = .int .i64 j ∧ c = .int .i64 cc ∧ Shut (LessInv 65536 g vs us os k j cc) ∧ OwnS wr .i64 3 gw (n + 1) (n + 1) os ∧ Only w wr gw) (fun _ i _ => n + 1 - (intOf i).toNat)
  case atStart => exact ⟨0, 0, ws, Nat.zero_le _, rfl, rfl, ⟨LessInv.start (by omega) vs us ws k⟩, hw, Only.refl _ _⟩
  case round =>
    clear hw
    obtain ⟨j, cc, os, hj, rfl, rfl, HI, own, ho⟩ := hrel
    obtain ⟨i0, i1⟩ := HI.out.bounds
    have hos := own.len
    by_cases hlt2 : j < n + 1
    · have fz := own.frozen j
      have fc := own.cell j (by omega)
      have r2 := dg_lt (by omega) du (k + j)
      have uc := (hu.cell (k + j) (by omega))
      have uc2 := (ho.cell (a := ⟨gu, k + j, none⟩) hne).trans uc
      clear uc
      have p0 : (0 : Int) ≤ (k : Int) + j := by omega
      have p1 : (k : Int) + j < nu := by omega
      have p2 : ((k : Int) + j).toNat = k + j := by omega
      by_cases hk2 : j < n
      · obtain ⟨ad2, rfl, hcell3⟩ := hv.cell j hk2
        have hcell4 := (ho.cell (a := ad2.add j) (by rw [addr_add_block]; exact hA ad2 rfl)).trans hcell3
        clear hcell3
        have r1 := dg_lt (by omega) dv j
        have hmb := mul_bd r1.1 r1.2 g0 g1
        have q0 := hmb.1
        have q1 : dg vs j * g ≤ 4294836225 := by have := hmb.2; omega
        clear hmb
        have HS := fun x' c' h1 h2 => Shut.mk (HI.out.step (t := cc + dg vs j * g) (x := dg us (k + j) - (cc + dg vs j * g) % 65536) (x' := x') (c' := c') (by omega) g0 g1 dv du (by omega) rfl rfl h1 h2)
        by_cases hneg : dg us (k + j) - (cc + dg vs j * g) % 65536 < 0
        · have HS2 := HS _ _ (fun _ => ⟨rfl, rfl⟩) (fun h => absurd hneg h)
          clear HS
          go_wp2
          go_roundw
          case rel => exact ⟨j + 1, _, _, by omega, by go_num, rfl, HS2, own.set j _, ho.set j _⟩
          case measure => simp [intOf]; omega
        · have HS2 := HS _ _ (fun h => absurd h hneg) (fun _ => ⟨rfl, rfl⟩)
          clear HS
          go_wp2
          go_roundw
          case rel => exact ⟨j + 1, _, _, by omega, by go_num, rfl, HS2, own.set j _, ho.set j _⟩
          case measure => simp [intOf]; omega
      · have hz : dg vs j = 0 := dg_ge (by rw [hv.len]; omega)
        have HS := fun x' c' h1 h2 => Shut.mk (HI.out.step (t := cc) (x := dg us (k + j) - cc % 65536) (x' := x') (c' := c') (by omega) g0 g1 dv du (by omega) (by rw [hz]; omega) rfl h1 h2)
        clear hz
        by_cases hneg : dg us (k + j) - cc % 65536 < 0
        · have HS2 := HS _ _ (fun _ => ⟨rfl, rfl⟩) (fun h => absurd hneg h)
          clear HS
          go_wp2
          go_roundw
          case rel => exact ⟨j + 1, _, _, by omega, by go_num, rfl, HS2, own.set j _, ho.set j _⟩
          case measure => simp [intOf]; omega
        · have HS2 := HS _ _ (fun h => absurd h hneg) (fun _ => ⟨rfl, rfl⟩)
          clear HS
          go_wp2
          go_roundw
          case rel => exact ⟨j + 1, _, _, by omega, by go_num, rfl, HS2, own.set j _, ho.set j _⟩
          case measure => simp [intOf]; omega
    · obtain rfl : j = n + 1 := by omega
      have HD := Shut.mk (HI.out.done (by omega) (by rw [hv.len]; omega) own.len)
      have hu' := (Only2.left (g := gu + gw + 1) ho).own hu (by omega) hne
      clear HI
      by_cases hc : cc = 0
      · have hcb : (cc != 0) = false := by simp [hc]
        have HC := Shut.mk (HD.out.2.1 hc)
        have HF := Shut.mk (splice_facts du HD.out.1 own.len (show k + (n + 1) ≤ us.length by omega))
        clear hc
        have HR := Shut.mk own.rd
        go_wp2_with (refine wpl_copy rfl (.tmp 58) (.tmp 59) 30 rfl 3 .i64 Tryz.underlying30 int_one gu k (nu - k) (nu - k) ⟨gw, 0, none⟩ (n + 1) (n + 1) (by simp [Act.eval, Act.put]) (by simp [Act.eval, Act.put]) nu us os hu' HR.out (by omega) (by omega) ?_; intro w9 own9 ho9)
        go_ret
        exact ⟨true, _, os, rfl, own9, ho9.own own hne.symm, Only2.of ho ho9, fun _ => ⟨HF.out.1, HF.out.2.1, by rw [HF.out.2.2, HC.out]⟩, fun h => absurd h (by decide)⟩
      · have hcb : (cc != 0) = true := by simp [hc]
        have HC := Shut.mk (HD.out.2.2 hc)
        clear hc
        go_wp2
        go_ret
        exact ⟨false, us, _, rfl, hu', own, Only2.left ho, fun h => absurd h (by decide), fun _ => ⟨rfl, HC.out⟩⟩

end Go.Proofs.YtjeaakkbkjhldaaGreatDoor
