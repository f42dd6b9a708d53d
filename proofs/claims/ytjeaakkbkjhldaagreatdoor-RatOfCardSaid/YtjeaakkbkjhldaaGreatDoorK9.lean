import Derived.Test.YtjeaakkbkjhldaaGreatDoorK8
import Derived.ProofKit
import Derived.Lib.SmallJoins
set_option linter.unusedVariables false
set_option linter.unusedSimpArgs false
namespace Go.Proofs.YtjeaakkbkjhldaaGreatDoor
open Go.RowKit

theorem pre_pos2 {s : ByteArray} {c d : UInt8} (h : Lib.hasPrefix s.data.toList [c, d] = true) : (2 : Int) ≤ s.size := by
  have e : s.data.toList.length = s.size := rfl
  cases hl : s.data.toList with
  | nil => rw [hl] at h; simp [Lib.hasPrefix] at h
  | cons a l =>
    cases l with
    | nil => rw [hl] at h; simp [Lib.hasPrefix] at h
    | cons b l => rw [hl] at e; simp at e; omega
/-- what ToLower answers at every world behind w -/
def Lows (w : World) (s low : ByteArray) : Prop := ∀ W, Below w.heap.size w W → Calls Tryz.prog 64 #[.string s] W fun e W' => e = .returned (.string low) ∧ Below W.heap.size W W'

set_option maxHeartbeats 4000000 in
set_option maxRecDepth 100000 in
theorem Parse_hex {w : World} {s low : ByteArray} (hs : low.size ≤ 1000) (hlow : Lows w s low) (h1 : Lib.hasPrefix low.data.toList [48, 120] = true) :
    Calls Tryz.prog 34 #[.string s] w (FracRes w (fracI (low.extract 2 low.size) 112 16 2)) := by
  have hz := pre_pos2 h1
  have hp := Tryz.strings_HasPrefix low ⟨#[48, 120]⟩
  have hfr := fun (w' : World) => fraction_calls (w := w') (s := low.extract 2 low.size) (mark := 112) (digits := 16) (base := 2) (by rw [ByteArray.size_extract]; omega) (by omega) (by omega)
  generalize fracI (low.extract 2 low.size) 112 16 2 = o at *
  obtain ⟨hbW, ba⟩ := boxS_facts w 26 (.bool false) (.slice none 0 0) (.bool false) (.slice none 0 0)
  have HLow := Shut.mk hlow
  go_enter Tryz.func34, Tryz.ntmps34
  go_wp2_with fail
  change Calls _ _ _ (boxS w 26 (.bool false) (.slice none 0 0) (.bool false) (.slice none 0 0)) _
  generalize boxS w 26 (.bool false) (.slice none 0 0) (.bool false) (.slice none 0 0) = W at *
  clear hlow
  have HL := Shut.mk (And.intro ba.ge ba.lt)
  refine (Of_calls (by omega) (by omega)).mono ?_
  rintro e w1 ⟨v, rfl, hv, hb1⟩
  obtain ⟨ng, B1, m1, e1, rfl⟩ := hv.shape
  replace hbW := bthen hbW hb1
  (replace ba := ba.below hb1)
  clear hb1 hv
  obtain ⟨hb2, bn⟩ := boxS_facts w1 26 (.bool false) (.slice none 0 0) (.bool ng) (.slice B1 m1 e1)
  go_wp2_with fail
  change Calls _ _ _ (boxS w1 26 (.bool false) (.slice none 0 0) (.bool ng) (.slice B1 m1 e1)) _
  generalize boxS w1 26 (.bool false) (.slice none 0 0) (.bool ng) (.slice B1 m1 e1) = W2 at *
  replace hbW := bthen hbW hb2
  (replace ba := ba.below hb2)
  clear hb2 bn
  refine (HLow.out _ hbW).mono ?_
  rintro e w3 ⟨rfl, hb3⟩
  replace hbW := bthen hbW hb3
  (replace ba := ba.below hb3)
  clear hb3
  go_wp2_with fail
  refine (hp _).mono ?_
  rintro e w' ⟨rfl, hw⟩
  obtain rfl := hw.symm
  clear hp
  go_wp2_with fail
  refine (hfr _).mono ?_
  rintro e w9 ⟨v9, rfl, hv9, hb9⟩
  have HB9 := Shut.mk (bthen hbW hb9)
  have HS := Shut.mk hbW.size
  have HL9 := Shut.mk ba.lt
  (replace ba := ba.below hb9)
  have r0 := ba.c0
  have r1 := ba.c1
  have r2 := ba.c2
  have r3 := ba.c3
  have g0 := ba.f0
  have g1 := ba.f1
  have g2 := ba.f2
  have g3 := ba.f3
  have HV9 := Shut.mk hv9
  obtain ⟨ng9, B9, m9, e9, ng10, B10, m10, e10, rfl⟩ := hv9.shape
  clear hb9 ba hv9 hbW hfr
  go_wp2
  refine bodyPost_ret (v := .tuple #[.agg #[.bool ng9, .slice B9 m9 e9, .bool ng10, .slice B10 m10 e10], .bool o.isSome]) (by simp [results, Tryz.results34, go_sem, r0, r1, r2, r3]) rfl ?_
  exact ⟨_, rfl, (HV9.out.four HL9.out _ _ _ _).mono HS.out, below_four HB9.out HL.out.1 _ _ _ _⟩

end Go.Proofs.YtjeaakkbkjhldaaGreatDoor

set_option linter.unusedVariables false
set_option linter.unusedSimpArgs false
namespace Go.Proofs.YtjeaakkbkjhldaaGreatDoor
open Go.RowKit

set_option maxHeartbeats 4000000 in
theorem Cut1_calls {w : World} {neg : Bool} {A : Option Addr} {n c : Nat} (hn : n ≤ c) (hc : c ≤ 9223372036854775807) (hA : 0 < n → A ≠ none) {m : Nat} (hm : m ≤ 1000) :
    Calls Tryz.prog 29 #[.agg #[.bool neg, .slice A n c], .int .i64 m] w fun e w' => e = .returned (.agg #[.bool neg, .slice A (min n m) c]) ∧ Below w.heap.size w w' := by
  obtain ⟨hbW, ba, br⟩ := box2_facts w 24 24 (.bool neg) (.slice A n c) (.bool false) (.slice none 0 0)
  have d1 : ¬ w.heap.size = w.heap.size + 1 := by omega
  obtain ⟨mm, HM⟩ : ∃ mm, Shut (min n m = mm) := ⟨_, ⟨rfl⟩⟩
  rw [HM.out]
  go_enter Tryz.func29, Tryz.ntmps29
  go_upto_region 1 with fail
  change Code.wp _ _ _ _ (box2 w 24 24 (.bool neg) (.slice A n c) (.bool false) (.slice none 0 0))
  generalize box2 w 24 24 (.bool neg) (.slice A n c) (.bool false) (.slice none 0 0) = W at *
  generalize hp : w.heap.size = p at *
  have HG := Shut.mk (And.intro ba.ge br.ge)
  have l0 := ba.c0
  have l1 := ba.c1
  have f0 := ba.f0
  have f1 := ba.f1
  generalize hq : p + 1 = q at *
  clear hq
  by_cases h : m < n
  · obtain rfl : m = mm := by have := HM.out; omega
    obtain ⟨ad, rfl⟩ : ∃ ad, A = some ad := by
      cases A with
      | none => exact absurd rfl (hA (by omega))
      | some ad => exact ⟨ad, rfl⟩
    have bb := ba.put (.bool neg) (.slice (some ad) m c)
    have HB := Shut.mk hbW
    clear hbW HM
    have r0 := br.c0
    have r1 := br.c1
    have g0 := br.f0
    have g1 := br.f1
    clear ba bb
    subst hp
    go_wp2
    refine bodyPost_ret (v := .agg #[.bool neg, .slice (some ad) m c]) (by simp [results, Tryz.results29, go_sem, l0, l1, r0, r1]) rfl ?_
    exact ⟨rfl, below_two (bset HB.out HG.out.1 _) HG.out.2 _ _⟩
  · obtain rfl : n = mm := by have := HM.out; omega
    have HB := Shut.mk hbW
    clear hbW HM
    have r0 := br.c0
    have r1 := br.c1
    have g0 := br.f0
    have g1 := br.f1
    clear ba
    subst hp
    go_wp2
    refine bodyPost_ret (v := .agg #[.bool neg, .slice A n c]) (by simp [results, Tryz.results29, go_sem, l0, l1, r0, r1]) rfl ?_
    exact ⟨rfl, below_two HB.out HG.out.2 _ _⟩

set_option maxHeartbeats 4000000 in
theorem Cut2_calls {w : World} {neg neg2 : Bool} {A A2 : Option Addr} {n c n2 c2 : Nat} (hn : n ≤ c) (hc : c ≤ 9223372036854775807) (hA : 0 < n → A ≠ none) (hn2 : n2 ≤ c2) (hc2 : c2 ≤ 9223372036854775807) (hA2 : 0 < n2 → A2 ≠ none) {m : Nat} (hm : m ≤ 1000) :
    Calls Tryz.prog 8 #[.agg #[.bool neg, .slice A n c, .bool neg2, .slice A2 n2 c2], .int .i64 m] w fun e w' => e = .returned (.agg #[.bool neg, .slice A (min n m) c, .bool neg2, .slice A2 (min n2 m) c2]) ∧ Below w.heap.size w w' := by
  obtain ⟨hbW, ba, br⟩ := boxQ_facts w 26 26 (.bool neg) (.slice A n c) (.bool neg2) (.slice A2 n2 c2) (.bool false) (.slice none 0 0) (.bool false) (.slice none 0 0)
  go_enter Tryz.func8, Tryz.ntmps8
  go_upto_region 1 with fail
  change Code.wp _ _ _ _ (boxQ w 26 26 (.bool neg) (.slice A n c) (.bool neg2) (.slice A2 n2 c2) (.bool false) (.slice none 0 0) (.bool false) (.slice none 0 0))
  generalize boxQ w 26 26 (.bool neg) (.slice A n c) (.bool neg2) (.slice A2 n2 c2) (.bool false) (.slice none 0 0) (.bool false) (.slice none 0 0) = W at *
  have d1 : ¬ w.heap.size = w.heap.size + 1 := by omega
  generalize w.heap.size + 1 = r at *
  generalize hp : w.heap.size = p at ba d1 ⊢
  clear hp
  replace ba := ba.drew
  replace br := br.drew
  replace hbW := hbW.drew
  have l0 := ba.c0
  have l1 := ba.c1
  have l2 := ba.c2
  have l3 := ba.c3
  go_region_held3 (fun w' => w'.cell? ⟨p, 0, none⟩ = some (.bool neg) ∧ w'.cell? ⟨p, 1, none⟩ = some (.slice A n c) ∧ w'.cell? ⟨p, 2, none⟩ = some (.bool neg2) ∧ w'.cell? ⟨p, 3, none⟩ = some (.slice A2 n2 c2)) (first | (with_reducible exact ⟨l0, l1, l2, l3⟩) | (with_reducible exact ⟨cell_far4 d1 l0, cell_far4 d1 l1, cell_far4 d1 l2, cell_far4 d1 l3⟩) | go_keep)
    (first
      | (go_at_call 29; (with_reducible refine (Cut1_calls (neg := neg) hn hc hA hm).mono ?_); rintro e w5 ⟨rfl, hb5⟩; replace hbW := bthen hbW hb5; (replace ba := ba.below hb5; replace br := br.below hb5; replace l0 := old_cell hb5 l0; replace l1 := old_cell hb5 l1; replace l2 := old_cell hb5 l2; replace l3 := old_cell hb5 l3); clear hb5; have r0 := br.c0; have r1 := br.c1; have r2 := br.c2; have r3 := br.c3; have g0 := br.f0; have g1 := br.f1; have g2 := br.f2; have g3 := br.f3)
      | (go_at_call 29; (with_reducible refine (Cut1_calls (neg := neg2) hn2 hc2 hA2 hm).mono ?_); rintro e w5 ⟨rfl, hb5⟩; replace hbW := bthen hbW hb5; (replace ba := ba.below hb5; replace br := br.below hb5; replace l0 := old_cell hb5 l0; replace l1 := old_cell hb5 l1; replace l2 := old_cell hb5 l2; replace l3 := old_cell hb5 l3); clear hb5; have r0 := br.c0; have r1 := br.c1; have r2 := br.c2; have r3 := br.c3; have g0 := br.f0; have g1 := br.f1; have g2 := br.f2; have g3 := br.f3))
  all_goals
    clear l0 l1 l2 l3
    go_wp2_with fail
    refine bodyPost_ret (v := .agg #[.bool neg, .slice A (min n m) c, .bool neg2, .slice A2 (min n2 m) c2]) (by simp [results, Tryz.results8, go_sem, r0, r1, r2, r3]) rfl ?_
    exact ⟨rfl, below_four hbW br.ge _ _ _ _⟩

end Go.Proofs.YtjeaakkbkjhldaaGreatDoor

set_option linter.unusedVariables false
set_option linter.unusedSimpArgs false
namespace Go.Proofs.YtjeaakkbkjhldaaGreatDoor
open Go.RowKit

theorem q_frac : fracI ((⟨#[48, 120, 49, 46, 56, 112, 45, 49]⟩ : ByteArray).extract 2 8) 112 16 2 = some (fr 3 4) := by decide +kernel
theorem q_quo : fr 6 (-4) / fr 3 4 = fr (-2) 1 := by decide +kernel
theorem q_sub : (fr 6 (-4) + fr 3 4) + -(fr 6 (-4) * -(fr 3 4)) = fr (-15) 8 := by decide +kernel
theorem q_num1 : (fr 6 (-4)).num = -3 ∧ (fr 6 (-4)).den = 2 := by decide +kernel
theorem q_num2 : (fr 3 4).num = 3 ∧ (fr 3 4).den = 4 := by decide +kernel
theorem q_num3 : (fr (-2) 1).num = -2 ∧ (fr (-2) 1).den = 1 := by decide +kernel
theorem q_num4 : (fr (-15) 8).num = -15 ∧ (fr (-15) 8).den = 8 := by decide +kernel
theorem q_num5 : (fr 5 1).num = 5 ∧ (fr 5 1).den = 1 := by decide +kernel
theorem d_small {n : Nat} (h : 0 < n) (h9 : n < 10) : dec n = [(n : Int)] := by
  rw [dec_pos h, show n / 10 = 0 by omega, dec_zero, Nat.mod_eq_of_lt h9]
theorem d_15 : dec 15 = [5, 1] := by
  rw [dec_pos (by omega), show 15 / 10 = 1 by rfl, d_small (by omega) (by omega)]; rfl
theorem t_1 : ratS (fr 6 (-4)) = ⟨#[45, 51, 47, 50]⟩ := by
  unfold ratS decB; rw [q_num1.1, q_num1.2]
  simp only [show ((-3 : Int)).natAbs = 3 by rfl, show (((2 : Nat) : Int)).natAbs = 2 by rfl, d_small (show 0 < 3 by omega) (by omega), d_small (show 0 < 2 by omega) (by omega)]
  decide +kernel
theorem t_2 : ratS (fr 3 4) = ⟨#[51, 47, 52]⟩ := by
  unfold ratS decB; rw [q_num2.1, q_num2.2]
  simp only [show ((3 : Int)).natAbs = 3 by rfl, show (((4 : Nat) : Int)).natAbs = 4 by rfl, d_small (show 0 < 3 by omega) (by omega), d_small (show 0 < 4 by omega) (by omega)]
  decide +kernel
theorem t_3 : ratS (fr (-2) 1) = ⟨#[45, 50, 47, 49]⟩ := by
  unfold ratS decB; rw [q_num3.1, q_num3.2]
  simp only [show ((-2 : Int)).natAbs = 2 by rfl, show (((1 : Nat) : Int)).natAbs = 1 by rfl, d_small (show 0 < 2 by omega) (by omega), d_small (show 0 < 1 by omega) (by omega)]
  decide +kernel
theorem t_4 : ratS (fr (-15) 8) = ⟨#[45, 49, 53, 47, 56]⟩ := by
  unfold ratS decB; rw [q_num4.1, q_num4.2]
  simp only [show ((-15 : Int)).natAbs = 15 by rfl, show (((8 : Nat) : Int)).natAbs = 8 by rfl, d_15, d_small (show 0 < 8 by omega) (by omega)]
  decide +kernel
theorem t_5 : strOfNums (decB 5) = ⟨#[53]⟩ := by
  unfold decB
  simp only [show ((5 : Int)).natAbs = 5 by rfl, d_small (show 0 < 5 by omega) (by omega)]
  decide +kernel
theorem c_1 : cmpR (fr 6 (-4)) (fr 3 4) = -1 := by decide +kernel

end Go.Proofs.YtjeaakkbkjhldaaGreatDoor

set_option linter.unusedVariables false
set_option linter.unusedSimpArgs false
namespace Go.Proofs.YtjeaakkbkjhldaaGreatDoor
open Go.RowKit

/-- v is a fraction that reads as q; its numbers have at most k binary digits -/
def HV (k : Nat) (w : World) (v : Value) (q : Rat) : Prop := ∃ n d, RV w v n d ∧ Sm k n ∧ Sm k d ∧ fr n d = q
theorem HV.below {k : Nat} {w w1 : World} {v : Value} {q : Rat} (h : HV k w v q) (hb : Below w.heap.size w w1) : HV k w1 v q := by
  obtain ⟨n, d, h1, h2⟩ := h
  exact ⟨n, d, h1.below hb, h2⟩
theorem HV.drew {k : Nat} {w : World} {v : Value} {q : Rat} (h : HV k w v q) : HV k w.drew v q := h.below (drew_below w)
theorem HV.mono {k k' : Nat} {w : World} {v : Value} {q : Rat} (h : HV k w v q) (hk : k ≤ k') : HV k' w v q := by
  obtain ⟨n, d, h1, h2, h3, h4⟩ := h
  exact ⟨n, d, h1, h2.mono hk, h3.mono hk, h4⟩
theorem NRV.hv {B k : Nat} {w : World} {v : Value} {q : Rat} (h : NRV B w v q) (sq : SmR k q) (hk : k ≤ 137438953472) : HV k w v q := ⟨q.num, q.den, h.rv sq hk, sq.1, sq.2, fr_self q⟩
theorem HV.shape {k : Nat} {w : World} {v : Value} {q : Rat} (h : HV k w v q) : ∃ neg A n1 c neg2 A2 n2 c2, v = .agg #[.bool neg, .slice A n1 c, .bool neg2, .slice A2 n2 c2] := by
  obtain ⟨n, d, h1, _⟩ := h
  exact h1.shape
theorem HV.sm {k : Nat} {w : World} {v : Value} {q : Rat} (h : HV k w v q) (hk1 : 1 ≤ k) : SmR k q := by
  obtain ⟨n, d, h1, h2, h3, rfl⟩ := h
  exact SmR.fr h2 h3 hk1

theorem Mul_q {k : Nat} {w : World} {v v' : Value} {a b : Rat} (h : HV k w v a) (h' : HV k w v' b) (hk : k + k + 1 ≤ 137438953472) (hk1 : 1 ≤ k) : Calls Tryz.prog 21 #[v, v'] w (RatRes w (a * b)) := by
  obtain ⟨n, d, h1, h2, h3, rfl⟩ := h
  obtain ⟨n', d', h1', h2', h3', rfl⟩ := h'
  exact RMul_calls h1 h1' h2 h3 h2' h3' hk hk1
theorem Add_q {k : Nat} {w : World} {v v' : Value} {a b : Rat} (h : HV k w v a) (h' : HV k w v' b) (hk : k + k + 1 ≤ 137438953472) (hk1 : 1 ≤ k) : Calls Tryz.prog 17 #[v, v'] w (RatRes w (a + b)) := by
  obtain ⟨n, d, h1, h2, h3, rfl⟩ := h
  obtain ⟨n', d', h1', h2', h3', rfl⟩ := h'
  exact RAdd_calls h1 h1' h2 h3 h2' h3' hk hk1
theorem Sub_q {k : Nat} {w : World} {v v' : Value} {a b : Rat} (h : HV k w v a) (h' : HV k w v' b) (hk : k + k + 1 ≤ 137438953472) (hk1 : 1 ≤ k) : Calls Tryz.prog 19 #[v, v'] w (RatRes w (a - b)) := by
  obtain ⟨n, d, h1, h2, h3, rfl⟩ := h
  obtain ⟨n', d', h1', h2', h3', rfl⟩ := h'
  exact RSub_calls h1 h1' h2 h3 h2' h3' hk hk1
theorem Quo_q {k : Nat} {w : World} {v v' : Value} {a b : Rat} (h : HV k w v a) (h' : HV k w v' b) (hk : k + k + 1 ≤ 137438953472) (hk1 : 1 ≤ k) : Calls Tryz.prog 10 #[v, v'] w (RQuoRes w a b) := by
  obtain ⟨n, d, h1, h2, h3, rfl⟩ := h
  obtain ⟨n', d', h1', h2', h3', rfl⟩ := h'
  exact RQuo_calls h1 h1' h2 h3 h2' h3' hk hk1
theorem Cmp_q {k : Nat} {w : World} {v v' : Value} {a b : Rat} (h : HV k w v a) (h' : HV k w v' b) (hk : k + k + 1 ≤ 137438953472) (hk1 : 1 ≤ k) : Calls Tryz.prog 25 #[v, v'] w (fun e w' => e = .returned (.int .i64 (cmpR a b)) ∧ Below w.heap.size w w') := by
  obtain ⟨n, d, h1, h2, h3, rfl⟩ := h
  obtain ⟨n', d', h1', h2', h3', rfl⟩ := h'
  exact RCmp_calls h1 h1' h2 h3 h2' h3' hk hk1
theorem Neg_q {k : Nat} {w : World} {v : Value} {a : Rat} (h : HV k w v a) (hk : k ≤ 137438953472) (hk1 : 1 ≤ k) : Calls Tryz.prog 23 #[v] w (RatRes w (-a)) := by
  obtain ⟨n, d, h1, h2, h3, rfl⟩ := h
  exact RNeg_calls h1 h2 h3 hk hk1
theorem Int_q {k : Nat} {w : World} {v : Value} {a : Rat} (h : HV k w v a) (hk : k ≤ 137438953472) (hk1 : 1 ≤ k) : Calls Tryz.prog 14 #[v] w (IntRes w a) := by
  obtain ⟨n, d, h1, h2, h3, rfl⟩ := h
  exact Int_calls h1 h2 h3 hk hk1
theorem Text_q {k : Nat} {w : World} {v : Value} {a : Rat} (h : HV k w v a) (hk : k ≤ 137438953472) (hk1 : 1 ≤ k) : Calls Tryz.prog 27 #[v] w (fun e w' => e = .returned (.string (ratS a)) ∧ Below w.heap.size w w') := by
  obtain ⟨n, d, h1, h2, h3, rfl⟩ := h
  exact RText_calls h1 h2 h3 hk hk1

theorem begun_low (w : World) : Lows w ⟨#[48, 120, 49, 46, 56, 112, 45, 49]⟩ ⟨#[48, 120, 49, 46, 56, 112, 45, 49]⟩ := by
  intro W hW
  have h := Tryz.strings_ToLower_ascii ⟨#[48, 120, 49, 46, 56, 112, 45, 49]⟩ W (by decide) (by
    intro j b hb
    have : b ∈ [48, 120, 49, 46, 56, 112, 45, 49] := List.mem_of_getElem? hb
    simp only [List.mem_cons, List.not_mem_nil, or_false] at this
    rcases this with rfl | rfl | rfl | rfl | rfl | rfl | rfl | rfl <;> decide)
  have e : (⟨(Lib.toLowerA (⟨#[48, 120, 49, 46, 56, 112, 45, 49]⟩ : ByteArray).data.toList).toArray⟩ : ByteArray) = ⟨#[48, 120, 49, 46, 56, 112, 45, 49]⟩ := by decide +kernel
  rw [e] at h
  exact h
theorem parse_begun {w : World} : Calls Tryz.prog 34 #[.string ⟨#[48, 120, 49, 46, 56, 112, 45, 49]⟩] w (FracRes w (some (fr 3 4))) := by
  have h := Parse_hex (w := w) (by decide) (begun_low w) (by decide +kernel)
  have e : (⟨#[48, 120, 49, 46, 56, 112, 45, 49]⟩ : ByteArray).size = 8 := rfl
  rw [e, q_frac] at h
  exact h
theorem sm6 : SmR 6 (fr 6 (-4)) ∧ SmR 6 (fr 3 4) ∧ SmR 6 (fr (-2) 1) ∧ SmR 6 (fr 5 1) ∧ SmR 6 (fr (-15) 8) := by
  unfold SmR Sm
  rw [q_num1.1, q_num1.2, q_num2.1, q_num2.2, q_num3.1, q_num3.2, q_num4.1, q_num4.2, q_num5.1, q_num5.2]
  decide

end Go.Proofs.YtjeaakkbkjhldaaGreatDoor

set_option linter.unusedVariables false
set_option linter.unusedSimpArgs false
namespace Go.Proofs.YtjeaakkbkjhldaaGreatDoor
open Go.RowKit

/-- a box of four cells holds a fraction -/
theorem box1c (w : World) (T : Nat) (r0 r1 : Value) : Below w.heap.size w (box1 w T r0 r1) ∧ (box1 w T r0 r1).cell? ⟨w.heap.size, 0, none⟩ = some r0 ∧ (box1 w T r0 r1).cell? ⟨w.heap.size, 1, none⟩ = some r1 :=
  ⟨(box1_facts w T r0 r1).1, (box1_facts w T r0 r1).2.c0, (box1_facts w T r0 r1).2.c1⟩
theorem boxSc (w : World) (T : Nat) (a0 a1 a2 a3 : Value) : Below w.heap.size w (boxS w T a0 a1 a2 a3) ∧ (boxS w T a0 a1 a2 a3).cell? ⟨w.heap.size, 0, none⟩ = some a0 ∧ (boxS w T a0 a1 a2 a3).cell? ⟨w.heap.size, 1, none⟩ = some a1 ∧ (boxS w T a0 a1 a2 a3).cell? ⟨w.heap.size, 2, none⟩ = some a2 ∧ (boxS w T a0 a1 a2 a3).cell? ⟨w.heap.size, 3, none⟩ = some a3 :=
  ⟨(boxS_facts w T a0 a1 a2 a3).1, (boxS_facts w T a0 a1 a2 a3).2.c0, (boxS_facts w T a0 a1 a2 a3).2.c1, (boxS_facts w T a0 a1 a2 a3).2.c2, (boxS_facts w T a0 a1 a2 a3).2.c3⟩

theorem s66 : Sm 6 6 := by unfold Sm; decide
theorem s64 : Sm 6 (-4) := by unfold Sm; decide
theorem s65 : Sm 6 5 := by unfold Sm; decide
set_option maxHeartbeats 16000000 in
set_option maxRecDepth 100000 in
theorem begun_calls {w : World} : Calls Tryz.prog 7 #[] w fun e w' => e = .returned (.bool true) ∧ Below w.heap.size w w' := by
  have hof6 := fun (w : World) => Of_calls (w := w) (z := 6) (by omega) (by omega)
  have hof4 := fun (w : World) => Of_calls (w := w) (z := -4) (by omega) (by omega)
  have hof5 := fun (w : World) => Of_calls (w := w) (z := 5) (by omega) (by omega)
  have hrof := fun (w : World) (v v' : Value) (h : BV w v 6) (h' : BV w v' (-4)) => ROf_calls (k := 6) h h' s66 s64 (by omega) (by omega)
  have hpar := fun (w : World) => parse_begun (w := w)
  have hwh := fun (w : World) (v : Value) (h : BV w v 5) => Whole_calls (k := 6) h s65 (by omega) (by omega)
  have hint := fun (w : World) (v : Value) (h : HV 6 w v (fr 5 1)) => Int_q h (by omega) (by omega)
  have hquo := fun (w : World) (v v' : Value) (h : HV 6 w v (fr 6 (-4))) (h' : HV 6 w v' (fr 3 4)) => Quo_q h h' (by omega) (by omega)
  have ht1 := fun (w : World) (v : Value) (h : HV 6 w v (fr 6 (-4))) => Text_q h (by omega) (by omega)
  have ht2 := fun (w : World) (v : Value) (h : HV 6 w v (fr 3 4)) => Text_q h (by omega) (by omega)
  have ht3 := fun (w : World) (v : Value) (h : HV 6 w v (fr (-2) 1)) => Text_q h (by omega) (by omega)
  have ht5 := fun (w : World) (v : Value) (h : BV w v 5) => Text_calls (k := 6) h s65 (by omega)
  have hcmp := fun (w : World) (v v' : Value) (h : HV 6 w v (fr 6 (-4))) (h' : HV 6 w v' (fr 3 4)) => Cmp_q h h' (by omega) (by omega)
  have hadd := fun (w : World) (v v' : Value) (h : HV 6 w v (fr 6 (-4))) (h' : HV 6 w v' (fr 3 4)) => Add_q h h' (by omega) (by omega)
  have hneg := fun (w : World) (v : Value) (h : HV 6 w v (fr 3 4)) => Neg_q h (by omega) (by omega)
  have hmul := fun (w : World) (v v' : Value) (h : HV 6 w v (fr 6 (-4))) (h' : HV 6 w v' (-(fr 3 4))) => Mul_q h h' (by omega) (by omega)
  have hsub := fun (w : World) (v v' : Value) (h : HV 13 w v (fr 6 (-4) + fr 3 4)) (h' : HV 13 w v' (fr 6 (-4) * -(fr 3 4))) => Sub_q h h' (by omega) (by omega)
  have ht4 := fun (w : World) (v : Value) (h : HV 6 w v (fr (-15) 8)) => Text_q h (by omega) (by omega)
  have e4 : (fr 6 (-4) + fr 3 4) - (fr 6 (-4) * -(fr 3 4)) = fr (-15) 8 := by rw [Rat.sub_eq_add_neg]; exact q_sub
  rw [e4] at hsub
  clear e4
  unfold RQuoRes at hquo
  rw [q_quo] at hquo
  unfold OfRes at hrof
  rw [if_neg (by omega)] at hrof
  unfold IntRes at hint
  rw [q_num5.1, q_num5.2] at hint
  rw [t_1] at ht1
  rw [t_2] at ht2
  rw [t_3] at ht3
  rw [t_4] at ht4
  rw [t_5] at ht5
  rw [c_1] at hcmp
  obtain ⟨s1, s2, s3, s5, s4⟩ := sm6
  have s6 : SmR 13 (fr 6 (-4) + fr 3 4) := s1.add s2 (by omega)
  have s7 : SmR 13 (fr 6 (-4) * -(fr 3 4)) := (s1.mul s2.neg (by omega)).mono (by omega)
  have s8 := s2.neg
  have hne : decide ((fr 3 4) ≠ 0) = true := by decide +kernel
  rw [hne] at hquo
  clear hne
  generalize fr 6 (-4) * -(fr 3 4) = qm at *
  generalize fr 6 (-4) + fr 3 4 = qa at *
  generalize -(fr 3 4) = qn at *
  generalize fr (-15) 8 = q4 at *
  generalize fr 6 (-4) = q1 at *
  generalize fr 3 4 = q2 at *
  generalize fr (-2) 1 = q3 at *
  generalize fr 5 1 = q5 at *
  have hK : (6 : Nat) ≤ 137438953472 := by omega
  have hK13 : (13 : Nat) ≤ 137438953472 := by omega
  go_enter Tryz.func7, Tryz.ntmps7
  go_wp2_with fail
  refine (hof6 _).mono ?_
  rintro e w1 ⟨v1, rfl, hv1, hb⟩
  go_wp2_with fail
  refine (hof4 _).mono ?_
  rintro e w2 ⟨v2, rfl, hv2, hb2⟩
  replace hv1 := hv1.below hb2
  replace hb := bthen hb hb2
  clear hb2 hof6 hof4
  go_wp2_with fail
  refine (hrof _ _ _ (hv1.bv s66 hK) (hv2.bv s64 hK)).mono ?_
  rintro e w3 ⟨v3, rfl, hv3, hb3⟩
  replace hb := bthen hb hb3
  clear hb3 hv1 hv2 hrof
  replace hv3 := hv3.hv s1 hK
  obtain ⟨n1, A1, l1, c1, n2, A2, l2, c2, rfl⟩ := hv3.shape
  obtain ⟨hb4, a0, a1, a2, a3⟩ := boxSc w3 26 (.bool n1) (.slice A1 l1 c1) (.bool n2) (.slice A2 l2 c2)
  go_wp2_with fail
  change Calls _ _ _ (boxS w3 26 (.bool n1) (.slice A1 l1 c1) (.bool n2) (.slice A2 l2 c2)) _
  replace hb := bthen hb hb4
  replace hv3 := hv3.below hb4
  generalize boxS w3 26 (.bool n1) (.slice A1 l1 c1) (.bool n2) (.slice A2 l2 c2) = W4 at *
  generalize w3.heap.size = p1 at *
  clear hb4
  refine (hpar _).mono ?_
  rintro e w5 ⟨v5, rfl, hv5, hb5⟩
  simp only [Option.getD_some, Option.isSome_some] at hv5 ⊢
  replace hb := bthen hb hb5
  (replace hv3 := hv3.below hb5; replace a0 := old_cell hb5 a0; replace a1 := old_cell hb5 a1; replace a2 := old_cell hb5 a2; replace a3 := old_cell hb5 a3)
  clear hb5 hpar
  replace hv5 := hv5.hv s2 hK
  obtain ⟨n3, A3, l3, c3, n4, A4, l4, c4, rfl⟩ := hv5.shape
  obtain ⟨hb6, b0, b1, b2, b3⟩ := boxSc w5 26 (.bool n3) (.slice A3 l3 c3) (.bool n4) (.slice A4 l4 c4)
  go_wp2_with fail
  change Calls _ _ _ (boxS w5 26 (.bool n3) (.slice A3 l3 c3) (.bool n4) (.slice A4 l4 c4)) _
  replace hb := bthen hb hb6
  (replace hv3 := hv3.below hb6; replace hv5 := hv5.below hb6; replace a0 := old_cell hb6 a0; replace a1 := old_cell hb6 a1; replace a2 := old_cell hb6 a2; replace a3 := old_cell hb6 a3)
  generalize boxS w5 26 (.bool n3) (.slice A3 l3 c3) (.bool n4) (.slice A4 l4 c4) = W6 at *
  generalize w5.heap.size = p2 at *
  clear hb6
  refine (hof5 _).mono ?_
  rintro e w7 ⟨v7, rfl, hv7, hb7⟩
  replace hb := bthen hb hb7
  (replace hv3 := hv3.below hb7; replace hv5 := hv5.below hb7; replace a0 := old_cell hb7 a0; replace a1 := old_cell hb7 a1; replace a2 := old_cell hb7 a2; replace a3 := old_cell hb7 a3; replace b0 := old_cell hb7 b0; replace b1 := old_cell hb7 b1; replace b2 := old_cell hb7 b2; replace b3 := old_cell hb7 b3)
  clear hb7 hof5
  go_wp2_with fail
  refine (hwh _ _ (hv7.bv s65 hK)).mono ?_
  rintro e w8 ⟨v8, rfl, hv8, hb8⟩
  replace hb := bthen hb hb8
  (replace hv3 := hv3.below hb8; replace hv5 := hv5.below hb8; replace a0 := old_cell hb8 a0; replace a1 := old_cell hb8 a1; replace a2 := old_cell hb8 a2; replace a3 := old_cell hb8 a3; replace b0 := old_cell hb8 b0; replace b1 := old_cell hb8 b1; replace b2 := old_cell hb8 b2; replace b3 := old_cell hb8 b3)
  clear hb8 hv7 hwh
  go_wp2_with fail
  refine (hint _ _ (hv8.hv s5 hK)).mono ?_
  rintro e w9 ⟨v9, rfl, hv9, hb9⟩
  replace hb := bthen hb hb9
  (replace hv3 := hv3.below hb9; replace hv5 := hv5.below hb9; replace a0 := old_cell hb9 a0; replace a1 := old_cell hb9 a1; replace a2 := old_cell hb9 a2; replace a3 := old_cell hb9 a3; replace b0 := old_cell hb9 b0; replace b1 := old_cell hb9 b1; replace b2 := old_cell hb9 b2; replace b3 := old_cell hb9 b3)
  clear hb9 hv8 hint
  replace hv9 : NBV w8.heap.size w9 v9 5 := by simpa using hv9
  replace hv9 := hv9.bv s65 hK
  obtain ⟨n5, A5, l5, c5, rfl⟩ := hv9.shape
  obtain ⟨hb10, d0, d1⟩ := box1c w9 24 (.bool n5) (.slice A5 l5 c5)
  have hdec : decide ((1 : Nat) = 1) = true := by decide
  go_upto_region 4 with fail
  change Code.wp _ _ _ _ (box1 w9 24 (.bool n5) (.slice A5 l5 c5))
  replace hb := bthen hb hb10
  (replace hv3 := hv3.below hb10; replace hv5 := hv5.below hb10; replace hv9 := hv9.below hb10; replace a0 := old_cell hb10 a0; replace a1 := old_cell hb10 a1; replace a2 := old_cell hb10 a2; replace a3 := old_cell hb10 a3; replace b0 := old_cell hb10 b0; replace b1 := old_cell hb10 b1; replace b2 := old_cell hb10 b2; replace b3 := old_cell hb10 b3)
  generalize box1 w9 24 (.bool n5) (.slice A5 l5 c5) = W10 at *
  generalize w9.heap.size = p3 at *
  clear hb10
  go_wp2_with fail
  refine (hquo _ _ _ hv3 hv5).mono ?_
  rintro e w11 ⟨v11, rfl, hv11, hb11⟩
  replace hb := bthen hb hb11
  (replace hv3 := hv3.below hb11; replace hv5 := hv5.below hb11; replace hv9 := hv9.below hb11; replace a0 := old_cell hb11 a0; replace a1 := old_cell hb11 a1; replace a2 := old_cell hb11 a2; replace a3 := old_cell hb11 a3; replace b0 := old_cell hb11 b0; replace b1 := old_cell hb11 b1; replace b2 := old_cell hb11 b2; replace b3 := old_cell hb11 b3; replace d0 := old_cell hb11 d0; replace d1 := old_cell hb11 d1)
  clear hb11 hquo
  replace hv11 := hv11.hv s3 hK
  obtain ⟨n6, A6, l6, c6, n7, A7, l7, c7, rfl⟩ := hv11.shape
  obtain ⟨hb12, f0, f1, f2, f3⟩ := boxSc w11 26 (.bool n6) (.slice A6 l6 c6) (.bool n7) (.slice A7 l7 c7)
  go_upto_region 5 with fail
  change Code.wp _ _ _ _ (boxS w11 26 (.bool n6) (.slice A6 l6 c6) (.bool n7) (.slice A7 l7 c7))
  replace hb := bthen hb hb12
  (replace hv3 := hv3.below hb12; replace hv5 := hv5.below hb12; replace hv9 := hv9.below hb12; replace hv11 := hv11.below hb12; replace a0 := old_cell hb12 a0; replace a1 := old_cell hb12 a1; replace a2 := old_cell hb12 a2; replace a3 := old_cell hb12 a3; replace b0 := old_cell hb12 b0; replace b1 := old_cell hb12 b1; replace b2 := old_cell hb12 b2; replace b3 := old_cell hb12 b3; replace d0 := old_cell hb12 d0; replace d1 := old_cell hb12 d1)
  generalize boxS w11 26 (.bool n6) (.slice A6 l6 c6) (.bool n7) (.slice A7 l7 c7) = W12 at *
  generalize w11.heap.size = p4 at *
  clear hb12
  replace hb := hb.drew
  have hbD := drew_below W12
  (replace hv3 := hv3.below hbD; replace hv5 := hv5.below hbD; replace hv9 := hv9.below hbD; replace hv11 := hv11.below hbD; replace a0 := old_cell hbD a0; replace a1 := old_cell hbD a1; replace a2 := old_cell hbD a2; replace a3 := old_cell hbD a3; replace b0 := old_cell hbD b0; replace b1 := old_cell hbD b1; replace b2 := old_cell hbD b2; replace b3 := old_cell hbD b3; replace d0 := old_cell hbD d0; replace d1 := old_cell hbD d1; replace f0 := old_cell hbD f0; replace f1 := old_cell hbD f1; replace f2 := old_cell hbD f2; replace f3 := old_cell hbD f3)
  clear hbD
  go_region_held3 (fun w' => (w'.cell? ⟨p1, 0, none⟩ = some (.bool n1) ∧ w'.cell? ⟨p1, 1, none⟩ = some (.slice A1 l1 c1) ∧ w'.cell? ⟨p1, 2, none⟩ = some (.bool n2) ∧ w'.cell? ⟨p1, 3, none⟩ = some (.slice A2 l2 c2)) ∧ (w'.cell? ⟨p2, 0, none⟩ = some (.bool n3) ∧ w'.cell? ⟨p2, 1, none⟩ = some (.slice A3 l3 c3) ∧ w'.cell? ⟨p2, 2, none⟩ = some (.bool n4) ∧ w'.cell? ⟨p2, 3, none⟩ = some (.slice A4 l4 c4)) ∧ (w'.cell? ⟨p3, 0, none⟩ = some (.bool n5) ∧ w'.cell? ⟨p3, 1, none⟩ = some (.slice A5 l5 c5)) ∧ (w'.cell? ⟨p4, 0, none⟩ = some (.bool n6) ∧ w'.cell? ⟨p4, 1, none⟩ = some (.slice A6 l6 c6) ∧ w'.cell? ⟨p4, 2, none⟩ = some (.bool n7) ∧ w'.cell? ⟨p4, 3, none⟩ = some (.slice A7 l7 c7))) (first | (with_reducible exact ⟨⟨a0, a1, a2, a3⟩, ⟨b0, b1, b2, b3⟩, ⟨d0, d1⟩, ⟨f0, f1, f2, f3⟩⟩) | go_keep)
    (first
      | (go_at_call 27; (with_reducible first | (refine (ht1 _ _ hv3).mono ?_) | (refine (ht2 _ _ hv5).mono ?_) | (refine (ht3 _ _ hv11).mono ?_) | (refine (ht4 _ _ hvt).mono ?_)); rintro e wx ⟨rfl, hbx⟩; replace hb := bthen hb hbx; (replace hv3 := hv3.below hbx; replace hv5 := hv5.below hbx; replace hv9 := hv9.below hbx; replace hv11 := hv11.below hbx; replace a0 := old_cell hbx a0; replace a1 := old_cell hbx a1; replace a2 := old_cell hbx a2; replace a3 := old_cell hbx a3; replace b0 := old_cell hbx b0; replace b1 := old_cell hbx b1; replace b2 := old_cell hbx b2; replace b3 := old_cell hbx b3; replace d0 := old_cell hbx d0; replace d1 := old_cell hbx d1; replace f0 := old_cell hbx f0; replace f1 := old_cell hbx f1; replace f2 := old_cell hbx f2; replace f3 := old_cell hbx f3); clear hbx)
      | (go_at_call 46; (with_reducible refine (ht5 _ _ hv9).mono ?_); rintro e wx ⟨rfl, hbx⟩; replace hb := bthen hb hbx; (replace hv3 := hv3.below hbx; replace hv5 := hv5.below hbx; replace hv9 := hv9.below hbx; replace hv11 := hv11.below hbx; replace a0 := old_cell hbx a0; replace a1 := old_cell hbx a1; replace a2 := old_cell hbx a2; replace a3 := old_cell hbx a3; replace b0 := old_cell hbx b0; replace b1 := old_cell hbx b1; replace b2 := old_cell hbx b2; replace b3 := old_cell hbx b3; replace d0 := old_cell hbx d0; replace d1 := old_cell hbx d1; replace f0 := old_cell hbx f0; replace f1 := old_cell hbx f1; replace f2 := old_cell hbx f2; replace f3 := old_cell hbx f3); clear hbx)
      | (go_at_call 25; (with_reducible refine (hcmp _ _ _ hv3 hv5).mono ?_); rintro e wx ⟨rfl, hbx⟩; replace hb := bthen hb hbx; (replace hv3 := hv3.below hbx; replace hv5 := hv5.below hbx; replace hv9 := hv9.below hbx; replace hv11 := hv11.below hbx; replace a0 := old_cell hbx a0; replace a1 := old_cell hbx a1; replace a2 := old_cell hbx a2; replace a3 := old_cell hbx a3; replace b0 := old_cell hbx b0; replace b1 := old_cell hbx b1; replace b2 := old_cell hbx b2; replace b3 := old_cell hbx b3; replace d0 := old_cell hbx d0; replace d1 := old_cell hbx d1; replace f0 := old_cell hbx f0; replace f1 := old_cell hbx f1; replace f2 := old_cell hbx f2; replace f3 := old_cell hbx f3); clear hbx)
      | (go_at_call 17; (with_reducible refine (hadd _ _ _ hv3 hv5).mono ?_); rintro e wx ⟨va, rfl, hva, hbx⟩; replace hva := hva.hv s6 hK13; replace hb := bthen hb hbx; (replace hv3 := hv3.below hbx; replace hv5 := hv5.below hbx; replace hv9 := hv9.below hbx; replace hv11 := hv11.below hbx; (try replace hvn := hvn.below hbx); (try replace hvm := hvm.below hbx); replace a0 := old_cell hbx a0; replace a1 := old_cell hbx a1; replace a2 := old_cell hbx a2; replace a3 := old_cell hbx a3; replace b0 := old_cell hbx b0; replace b1 := old_cell hbx b1; replace b2 := old_cell hbx b2; replace b3 := old_cell hbx b3; replace d0 := old_cell hbx d0; replace d1 := old_cell hbx d1; replace f0 := old_cell hbx f0; replace f1 := old_cell hbx f1; replace f2 := old_cell hbx f2; replace f3 := old_cell hbx f3); clear hbx)
      | (go_at_call 23; (with_reducible refine (hneg _ _ hv5).mono ?_); rintro e wx ⟨vn, rfl, hvn, hbx⟩; replace hvn := hvn.hv s8 hK; replace hb := bthen hb hbx; (replace hv3 := hv3.below hbx; replace hv5 := hv5.below hbx; replace hv9 := hv9.below hbx; replace hv11 := hv11.below hbx; (try replace hva := hva.below hbx); replace a0 := old_cell hbx a0; replace a1 := old_cell hbx a1; replace a2 := old_cell hbx a2; replace a3 := old_cell hbx a3; replace b0 := old_cell hbx b0; replace b1 := old_cell hbx b1; replace b2 := old_cell hbx b2; replace b3 := old_cell hbx b3; replace d0 := old_cell hbx d0; replace d1 := old_cell hbx d1; replace f0 := old_cell hbx f0; replace f1 := old_cell hbx f1; replace f2 := old_cell hbx f2; replace f3 := old_cell hbx f3); clear hbx)
      | (go_at_call 21; (with_reducible refine (hmul _ _ _ hv3 hvn).mono ?_); rintro e wx ⟨vm, rfl, hvm, hbx⟩; replace hvm := hvm.hv s7 hK13; replace hb := bthen hb hbx; (replace hv3 := hv3.below hbx; replace hv5 := hv5.below hbx; replace hv9 := hv9.below hbx; replace hv11 := hv11.below hbx; (try replace hva := hva.below hbx); replace a0 := old_cell hbx a0; replace a1 := old_cell hbx a1; replace a2 := old_cell hbx a2; replace a3 := old_cell hbx a3; replace b0 := old_cell hbx b0; replace b1 := old_cell hbx b1; replace b2 := old_cell hbx b2; replace b3 := old_cell hbx b3; replace d0 := old_cell hbx d0; replace d1 := old_cell hbx d1; replace f0 := old_cell hbx f0; replace f1 := old_cell hbx f1; replace f2 := old_cell hbx f2; replace f3 := old_cell hbx f3); clear hbx)
      | (go_at_call 19; (with_reducible refine (hsub _ _ _ hva hvm).mono ?_); rintro e wx ⟨vt, rfl, hvt, hbx⟩; replace hvt := hvt.hv s4 hK; replace hb := bthen hb hbx; (replace hv3 := hv3.below hbx; replace hv5 := hv5.below hbx; replace hv9 := hv9.below hbx; replace hv11 := hv11.below hbx; replace a0 := old_cell hbx a0; replace a1 := old_cell hbx a1; replace a2 := old_cell hbx a2; replace a3 := old_cell hbx a3; replace b0 := old_cell hbx b0; replace b1 := old_cell hbx b1; replace b2 := old_cell hbx b2; replace b3 := old_cell hbx b3; replace d0 := old_cell hbx d0; replace d1 := old_cell hbx d1; replace f0 := old_cell hbx f0; replace f1 := old_cell hbx f1; replace f2 := old_cell hbx f2; replace f3 := old_cell hbx f3); clear hbx))
  all_goals
    clear a0 a1 a2 a3 b0 b1 b2 b3 d0 d1 f0 f1 f2 f3
    go_wp2_with fail
    go_ret
    exact ⟨rfl, hb⟩

end Go.Proofs.YtjeaakkbkjhldaaGreatDoor

set_option linter.unusedVariables false
set_option linter.unusedSimpArgs false
namespace Go.Proofs.YtjeaakkbkjhldaaGreatDoor
open Go.RowKit

/-- a slice of digits that is handed in, of whatever length -/
def RawB (w : World) (A : Option Addr) (n c : Nat) : Prop := ∃ xs, RdS w .u32 A n c xs ∧ Dgs 4294967296 xs
theorem RawB.some {w : World} {A : Option Addr} {n c : Nat} (h : RawB w A n c) : 0 < n → A ≠ none := by
  intro h0 e
  obtain ⟨xs, h1, h2⟩ := h
  obtain ⟨ad, e', _⟩ := h1.cell 0 h0
  rw [e] at e'; cases e'
/-- a fraction whose parts are cut -/
theorem RawB.cut {w : World} {A : Option Addr} {n c : Nat} (h : RawB w A n c) (neg : Bool) (m : Nat) (hm : m ≤ 1000) : ∃ z, BV w (.agg #[.bool neg, .slice A (min n m) c]) z ∧ Sm (32 * m) z := by
  obtain ⟨xs, h1, h2⟩ := h
  have h3 := h1.take (Nat.min_le_left n m)
  have h4 : Dgs 4294967296 (xs.take (min n m)) := h2.take _
  exact ⟨_, ⟨neg, A, _, c, _, rfl, h3, h4, by omega, rfl⟩, Sm.of_val h4 (by rw [h3.len]; omega) neg⟩
theorem RawB.hv {w : World} {A A' : Option Addr} {n c n' c' : Nat} (h : RawB w A n c) (h' : RawB w A' n' c') (neg neg' : Bool) (m : Nat) (hm : m ≤ 1000) : ∃ q, HV (32 * m) w (.agg #[.bool neg, .slice A (min n m) c, .bool neg', .slice A' (min n' m) c']) q := by
  obtain ⟨z, h1, h2⟩ := h.cut neg m hm
  obtain ⟨z', h3, h4⟩ := h'.cut neg' m hm
  exact ⟨fr z z', z, z', ⟨_, _, _, _, _, _, _, _, rfl, h1, h3⟩, h2, h4, rfl⟩
theorem Below.alloc' {w w1 : World} (h : Below w.heap.size w w1) (o : Obj) : Below w.heap.size w (w1.alloc o) := h.alloc h.size o
/-- a box of four cells that holds a fraction -/
structure Fb (k : Nat) (W : World) (p : Nat) (n1 : Bool) (A1 : Option Addr) (l1 c1 : Nat) (n2 : Bool) (A2 : Option Addr) (l2 c2 : Nat) (q : Rat) : Prop where
  c0 : W.cell? ⟨p, 0, none⟩ = .some (.bool n1)
  c1' : W.cell? ⟨p, 1, none⟩ = .some (.slice A1 l1 c1)
  c2' : W.cell? ⟨p, 2, none⟩ = .some (.bool n2)
  c3 : W.cell? ⟨p, 3, none⟩ = .some (.slice A2 l2 c2)
  lt : p < W.heap.size
  hv : HV k W (.agg #[.bool n1, .slice A1 l1 c1, .bool n2, .slice A2 l2 c2]) q
theorem Fb.below {k : Nat} {W W1 : World} {p : Nat} {n1 : Bool} {A1 : Option Addr} {l1 c1 : Nat} {n2 : Bool} {A2 : Option Addr} {l2 c2 : Nat} {q : Rat} (h : Fb k W p n1 A1 l1 c1 n2 A2 l2 c2 q) (hb : Below W.heap.size W W1) : Fb k W1 p n1 A1 l1 c1 n2 A2 l2 c2 q :=
  ⟨old_cell hb h.c0, old_cell hb h.c1', old_cell hb h.c2', old_cell hb h.c3, Nat.lt_of_lt_of_le h.lt hb.size, h.hv.below hb⟩
theorem Box4.fb {w W : World} {p : Nat} {n1 : Bool} {A1 : Option Addr} {l1 c1 : Nat} {n2 : Bool} {A2 : Option Addr} {l2 c2 : Nat} {k : Nat} {q : Rat} (h : Box4 w W p (.bool n1) (.slice A1 l1 c1) (.bool n2) (.slice A2 l2 c2)) (hv : HV k W (.agg #[.bool n1, .slice A1 l1 c1, .bool n2, .slice A2 l2 c2]) q) : Fb k W p n1 A1 l1 c1 n2 A2 l2 c2 q :=
  ⟨h.c0, h.c1, h.c2, h.c3, h.lt, hv⟩
/-- a value is stored into a box that is made last -/
theorem fb_new {B k : Nat} {w : World} {T : Nat} {z0 z1 z2 z3 : Value} {n1 : Bool} {A1 : Option Addr} {l1 c1 : Nat} {n2 : Bool} {A2 : Option Addr} {l2 c2 : Nat} {q : Rat} (hv : NRV B w (.agg #[.bool n1, .slice A1 l1 c1, .bool n2, .slice A2 l2 c2]) q) (sq : SmR k q) (hk : k ≤ 137438953472) :
    Fb k (((((w.alloc (.cells #[z0, z1, z2, z3] T)).setCell ⟨w.heap.size, 0, none⟩ (.bool n1)).setCell ⟨w.heap.size, 1, none⟩ (.slice A1 l1 c1)).setCell ⟨w.heap.size, 2, none⟩ (.bool n2)).setCell ⟨w.heap.size, 3, none⟩ (.slice A2 l2 c2)) w.heap.size n1 A1 l1 c1 n2 A2 l2 c2 q :=
  ((Box4.new w w T z0 z1 z2 z3 (Nat.le_refl _)).put _ _ _ _).fb ((hv.hv sq hk).below (below_four (alloc_below _ _) (Nat.le_refl _) _ _ _ _))
/-- a value is stored into a box that was made before the value -/
theorem fb_old {k : Nat} {w0 w wp : World} {p : Nat} {z0 z1 z2 z3 : Value} {n1 : Bool} {A1 : Option Addr} {l1 c1 : Nat} {n2 : Bool} {A2 : Option Addr} {l2 c2 : Nat} {q : Rat} (h : Box4 w0 w p z0 z1 z2 z3) (hv : NRV wp.heap.size w (.agg #[.bool n1, .slice A1 l1 c1, .bool n2, .slice A2 l2 c2]) q) (hp : p < wp.heap.size) (sq : SmR k q) (hk : k ≤ 137438953472) :
    Fb k ((((w.setCell ⟨p, 0, none⟩ (.bool n1)).setCell ⟨p, 1, none⟩ (.slice A1 l1 c1)).setCell ⟨p, 2, none⟩ (.bool n2)).setCell ⟨p, 3, none⟩ (.slice A2 l2 c2)) p n1 A1 l1 c1 n2 A2 l2 c2 q := by
  have h4 := hv.four hp (.bool n1) (.slice A1 l1 c1) (.bool n2) (.slice A2 l2 c2)
  exact (h.put _ _ _ _).fb (h4.hv sq hk)

theorem cmpR_self (a : Rat) : cmpR a a = 0 := by unfold cmpR; rw [if_neg (Rat.lt_irrefl), if_neg (Rat.lt_irrefl)]
theorem cmpR_swap (a b : Rat) : (decide (cmpR a b < 0) == decide (cmpR b a > 0)) = true := by
  unfold cmpR
  by_cases h1 : a < b
  · have h2 : ¬ b < a := by intro h; exact Rat.not_lt.2 (Rat.le_of_lt h) h1
    simp [h1, h2]
  · by_cases h2 : b < a <;> simp [h1, h2]

end Go.Proofs.YtjeaakkbkjhldaaGreatDoor

set_option linter.unusedVariables false
namespace Go.Proofs.YtjeaakkbkjhldaaGreatDoor
open Go.RowKit Go.Joins Go.ChangeShapes Go.WideShapes Go.ChangeAt

theorem cellsU : Tryz.prog.cellsOf 73 = 1 := by kernel_rfl
theorem cellsBig : Tryz.prog.cellsOf 24 = 2 := by kernel_rfl
theorem cellsRat : Tryz.prog.cellsOf 26 = 4 := by kernel_rfl
theorem oneBool : Tryz.prog.cellsOf 4 = 1 := by kernel_rfl
theorem oneSlice : Tryz.prog.cellsOf 22 = 1 := by kernel_rfl

section
variable {H : Type} {enc : TypeId × Value → H} {w : World} {base : Nat} {spare : Nat → Bool} {held : Bool}
/-- a slice of digits, read -/
theorem raw_of_trod {fuel : Nat} {v : Value} {x : DataW H × List MemPlace} (h : DataW.trod enc Tryz.prog w base spare held fuel 22 [v] = some x) : ∃ A n c, v = .slice A n c ∧ RawB w A n c := by
  rcases open_ints Tryz.underlying22 Tryz.underlying73 cellsU h with ⟨hcs, hx⟩ | ⟨a, len, cap, zs, hcs, _, hl, hm, hz, hx, hcell, hwf⟩
  · simp at hcs
    exact ⟨none, 0, 0, hcs, [], RdS.nil _ _, Dgs.nil _⟩
  · simp at hcs
    refine ⟨some a, len, cap, hcs, zs.take len, ?_, ?_⟩
    · have hzl : len ≤ zs.length := by rw [hz]; split <;> omega
      refine ⟨by rw [List.length_take]; omega, hl, ?_, fun j hj => ⟨a, rfl, ?_⟩⟩
      · have : maxLen ≤ 9223372036854775807 := by unfold maxLen; omega
        omega
      · rw [dg_take, if_pos hj]
        exact hcell j (by omega)
    · intro z hz2
      have h1 := hwf z (List.mem_of_mem_take hz2)
      have h2 : 0 ≤ z ∧ z ≤ 4294967295 := by simpa [Lit.wf, IntKind.min, IntKind.max, IntKind.signed, IntKind.bits] using h1
      omega
/-- a number, read -/
theorem big_of_trod {fuel : Nat} {u v : Value} {x : DataW H × List MemPlace} (h : DataW.trod enc Tryz.prog w base spare held fuel 24 [u, v] = some x) : ∃ neg A n c, u = .bool neg ∧ v = .slice A n c ∧ RawB w A n c := by
  obtain ⟨y0, y1, m, hx, _, h0, h1⟩ := trod_struct2 Tryz.underlying24 h
  have h0' : DataW.trod enc Tryz.prog w base spare held m 4 [u] = some y0 := by simpa [oneBool] using h0
  have h1' : DataW.trod enc Tryz.prog w base spare held m 22 [v] = some y1 := by simpa [oneSlice] using h1
  obtain ⟨A, n, c, rfl, hr⟩ := raw_of_trod h1'
  have hb : ∃ neg, u = .bool neg := by
    cases m with
    | zero => simp [DataW.trod] at h0'
    | succ m =>
      cases u <;> simp [DataW.trod, Tryz.underlying4] at h0'
      exact ⟨_, rfl⟩
  obtain ⟨neg, rfl⟩ := hb
  exact ⟨neg, A, n, c, rfl, rfl, hr⟩
set_option maxRecDepth 100000 in
/-- a fraction that came in -/
theorem rat_of_arg {r : Reach} {b0 : Nat} {v : Value} {d : DataW H} {p : List MemPlace} (hv : Value.okWide Tryz.prog w r b0 26 v) (h : DataW.Trod enc Tryz.prog w base spare held 26 v d p) :
    ∃ n1 A1 l1 c1 n2 A2 l2 c2, v = .agg #[.bool n1, .slice A1 l1 c1, .bool n2, .slice A2 l2 c2] ∧ RawB w A1 l1 c1 ∧ RawB w A2 l2 c2 := by
  obtain ⟨cs, rfl, hsz⟩ := okWide_struct Tryz.underlying26 hv
  rw [cellsRat] at hsz
  obtain ⟨c0, c1, c2, c3, rfl⟩ := array4 hsz
  obtain ⟨fuel, hf⟩ := h
  obtain ⟨y0, y1, m, hx, _, h0, h1⟩ := trod_struct2 Tryz.underlying26 hf
  have h0' : DataW.trod enc Tryz.prog w base spare held m 24 [c0, c1] = some y0 := by simpa [Value.cells, cellsBig] using h0
  have h1' : DataW.trod enc Tryz.prog w base spare held m 24 [c2, c3] = some y1 := by simpa [Value.cells, cellsBig] using h1
  obtain ⟨n1, A1, l1, k1, rfl, rfl, r1⟩ := big_of_trod h0'
  obtain ⟨n2, A2, l2, k2, rfl, rfl, r2⟩ := big_of_trod h1'
  exact ⟨n1, A1, l1, k1, n2, A2, l2, k2, rfl, r1, r2⟩
set_option maxRecDepth 100000 in
/-- a number that came in -/
theorem big_of_arg {r : Reach} {b0 : Nat} {v : Value} {d : DataW H} {p : List MemPlace} (hv : Value.okWide Tryz.prog w r b0 24 v) (h : DataW.Trod enc Tryz.prog w base spare held 24 v d p) :
    ∃ n1 A1 l1 c1, v = .agg #[.bool n1, .slice A1 l1 c1] ∧ RawB w A1 l1 c1 := by
  obtain ⟨cs, rfl, hsz⟩ := okWide_struct Tryz.underlying24 hv
  rw [cellsBig] at hsz
  obtain ⟨c0, c1, rfl⟩ := array2 hsz
  obtain ⟨fuel, hf⟩ := h
  obtain ⟨n1, A1, l1, k1, rfl, rfl, r1⟩ := big_of_trod (by simpa [Value.cells] using hf)
  exact ⟨n1, A1, l1, k1, rfl, r1⟩
end

end Go.Proofs.YtjeaakkbkjhldaaGreatDoor
