import Derived.Test.YtjeaakkbkjhldaaGreatDoorK7
import Derived.Test.YtjeaakkbkjhldaaGreatDoorShelf
set_option linter.unusedVariables false
set_option linter.unusedSimpArgs false
namespace Go.Proofs.YtjeaakkbkjhldaaGreatDoor
open Go.RowKit


set_option maxHeartbeats 4000000 in
set_option maxRecDepth 100000 in
theorem scaled_up {w : World} {v : Value} {n d b : Int} {m k k2 : Nat} (h : RV w v n d) (sx : Sm k n) (sy : Sm k d) (b0 : 0 ≤ b) (b1 : b ≤ 16) (hm : m ≤ 1000000) (sp : Sm k2 (b ^ m)) (hk : k + k2 ≤ 137438953472) (hk1 : 1 ≤ k) :
    Calls Tryz.prog 118 #[v, .int .i64 b, .int .i64 m] w (RatRes w (fr (n * b ^ m) d)) := by
  obtain ⟨neg, A1, n1, c1, neg2, A2, n2, c2, rfl, hx, hy⟩ := h
  obtain ⟨hbW, ba, br⟩ := boxQ_facts w 26 26 (.bool neg) (.slice A1 n1 c1) (.bool neg2) (.slice A2 n2 c2) (.bool false) (.slice none 0 0) (.bool false) (.slice none 0 0)
  replace hx := (hx.below hbW).drew
  replace hy := (hy.below hbW).drew
  have hk0 : k ≤ 137438953472 := by omega
  have hk2 : k2 ≤ 137438953472 := by omega
  have hkk1 : 1 ≤ k + k2 := by omega
  have sxm := sx.mono (show k ≤ k + k2 by omega)
  have sym := sy.mono (show k ≤ k + k2 by omega)
  have spx := sx.mul sp
  have spy := sy.mul sp
  have hc : (m : Int) ≥ 0 := by omega
  go_enter Tryz.func118, Tryz.ntmps118
  go_upto_region 2 with fail
  change Code.wp _ _ _ _ (boxQ w 26 26 (.bool neg) (.slice A1 n1 c1) (.bool neg2) (.slice A2 n2 c2) (.bool false) (.slice none 0 0) (.bool false) (.slice none 0 0))
  generalize boxQ w 26 26 (.bool neg) (.slice A1 n1 c1) (.bool neg2) (.slice A2 n2 c2) (.bool false) (.slice none 0 0) (.bool false) (.slice none 0 0) = W at *
  have d1 : ¬ w.heap.size = w.heap.size + 1 := by omega
  generalize w.heap.size + 1 = r at *
  generalize hp : w.heap.size = p at ba d1 ⊢
  clear hp
  replace ba := ba.drew
  replace br := br.drew
  replace hbW := hbW.drew
  have l0 := ba.c0
  have l1 := ba.c1
  have l2 := ba.c2
  have l3 := ba.c3
  go_region_held3 (fun w' => w'.cell? ⟨p, 0, none⟩ = some (.bool neg) ∧ w'.cell? ⟨p, 1, none⟩ = some (.slice A1 n1 c1) ∧ w'.cell? ⟨p, 2, none⟩ = some (.bool neg2) ∧ w'.cell? ⟨p, 3, none⟩ = some (.slice A2 n2 c2)) (first | (with_reducible exact ⟨l0, l1, l2, l3⟩) | (with_reducible exact ⟨cell_far4 d1 l0, cell_far4 d1 l1, cell_far4 d1 l2, cell_far4 d1 l3⟩) | go_keep)
    (first
      | (go_at_call 149; (with_reducible refine (power_calls b0 b1 hm).mono ?_); rintro e w5 ⟨v5, rfl, hvp, hb5⟩; replace hbW := bthen hbW hb5; (replace hx := hx.below hb5; replace hy := hy.below hb5; replace ba := ba.below hb5; replace br := br.below hb5; replace l0 := old_cell hb5 l0; replace l1 := old_cell hb5 l1; replace l2 := old_cell hb5 l2; replace l3 := old_cell hb5 l3); clear hb5)
      | (go_at_call 49; (with_reducible refine (Mul_calls hx (hvp.bv sp hk2)).mono ?_); rintro e w5 ⟨v5, rfl, hvm, hb5⟩; replace hbW := bthen hbW hb5; (replace hx := hx.below hb5; replace hy := hy.below hb5; replace ba := ba.below hb5; replace br := br.below hb5; replace l0 := old_cell hb5 l0; replace l1 := old_cell hb5 l1; replace l2 := old_cell hb5 l2; replace l3 := old_cell hb5 l3); clear hb5)
      | (go_at_call 53; (with_reducible refine (rmade_calls (hvm.bv spx hk) hy spx sym hk hkk1).mono ?_); rintro e w5 ⟨v5, rfl, hv5, hb5⟩; have HL := Shut.mk br.lt; have HS := Shut.mk hbW.size; have HB := Shut.mk (bthen hbW hb5); (replace br := br.below hb5; replace l0 := old_cell hb5 l0; replace l1 := old_cell hb5 l1; replace l2 := old_cell hb5 l2; replace l3 := old_cell hb5 l3); have r0 := br.c0; have r1 := br.c1; have r2 := br.c2; have r3 := br.c3; have g0 := br.f0; have g1 := br.f1; have g2 := br.f2; have g3 := br.f3; have HG := Shut.mk br.ge; have HV := Shut.mk hv5; obtain ⟨ng5, B5, m5, e5, ng6, B6, m6, e6, rfl⟩ := hv5.shape; clear hb5))
  all_goals
    clear l0 l1 l2 l3
    go_wp2_with fail
    refine bodyPost_ret (v := .agg #[.bool ng5, .slice B5 m5 e5, .bool ng6, .slice B6 m6 e6]) (by simp [results, Tryz.results118, go_sem, r0, r1, r2, r3]) rfl ?_
    exact ⟨_, rfl, (HV.out.four HL.out _ _ _ _).mono HS.out, below_four HB.out HG.out _ _ _ _⟩

set_option maxHeartbeats 4000000 in
set_option maxRecDepth 100000 in
theorem scaled_down {w : World} {v : Value} {n d b : Int} {m k k2 : Nat} (h : RV w v n d) (sx : Sm k n) (sy : Sm k d) (b0 : 0 ≤ b) (b1 : b ≤ 16) (hm : m ≤ 1000000) (h0 : 0 < m) (sp : Sm k2 (b ^ m)) (hk : k + k2 ≤ 137438953472) (hk1 : 1 ≤ k) :
    Calls Tryz.prog 118 #[v, .int .i64 b, .int .i64 (-(m : Int))] w (RatRes w (fr n (d * b ^ m))) := by
  obtain ⟨neg, A1, n1, c1, neg2, A2, n2, c2, rfl, hx, hy⟩ := h
  obtain ⟨hbW, ba, br⟩ := boxQ_facts w 26 26 (.bool neg) (.slice A1 n1 c1) (.bool neg2) (.slice A2 n2 c2) (.bool false) (.slice none 0 0) (.bool false) (.slice none 0 0)
  replace hx := (hx.below hbW).drew
  replace hy := (hy.below hbW).drew
  have hk0 : k ≤ 137438953472 := by omega
  have hk2 : k2 ≤ 137438953472 := by omega
  have hkk1 : 1 ≤ k + k2 := by omega
  have sxm := sx.mono (show k ≤ k + k2 by omega)
  have sym := sy.mono (show k ≤ k + k2 by omega)
  have spx := sx.mul sp
  have spy := sy.mul sp
  have hc : ¬ (-(m : Int) ≥ 0) := by omega
  have hwm : IntKind.i64.wrap (m : Int) = m := by rw [IntKind.wrap_i64]; omega
  go_enter Tryz.func118, Tryz.ntmps118
  go_upto_region 3 with fail
  change Code.wp _ _ _ _ (boxQ w 26 26 (.bool neg) (.slice A1 n1 c1) (.bool neg2) (.slice A2 n2 c2) (.bool false) (.slice none 0 0) (.bool false) (.slice none 0 0))
  generalize boxQ w 26 26 (.bool neg) (.slice A1 n1 c1) (.bool neg2) (.slice A2 n2 c2) (.bool false) (.slice none 0 0) (.bool false) (.slice none 0 0) = W at *
  have d1 : ¬ w.heap.size = w.heap.size + 1 := by omega
  generalize w.heap.size + 1 = r at *
  generalize hp : w.heap.size = p at ba d1 ⊢
  clear hp
  replace ba := ba.drew
  replace br := br.drew
  replace hbW := hbW.drew
  have l0 := ba.c0
  have l1 := ba.c1
  have l2 := ba.c2
  have l3 := ba.c3
  go_region_held3 (fun w' => w'.cell? ⟨p, 0, none⟩ = some (.bool neg) ∧ w'.cell? ⟨p, 1, none⟩ = some (.slice A1 n1 c1) ∧ w'.cell? ⟨p, 2, none⟩ = some (.bool neg2) ∧ w'.cell? ⟨p, 3, none⟩ = some (.slice A2 n2 c2)) (first | (with_reducible exact ⟨l0, l1, l2, l3⟩) | (with_reducible exact ⟨cell_far4 d1 l0, cell_far4 d1 l1, cell_far4 d1 l2, cell_far4 d1 l3⟩) | go_keep)
    (first
      | (go_at_call 149; (with_reducible refine (power_calls b0 b1 hm).mono ?_); rintro e w5 ⟨v5, rfl, hvp, hb5⟩; replace hbW := bthen hbW hb5; (replace hx := hx.below hb5; replace hy := hy.below hb5; replace ba := ba.below hb5; replace br := br.below hb5; replace l0 := old_cell hb5 l0; replace l1 := old_cell hb5 l1; replace l2 := old_cell hb5 l2; replace l3 := old_cell hb5 l3); clear hb5)
      | (go_at_call 49; (with_reducible refine (Mul_calls hy (hvp.bv sp hk2)).mono ?_); rintro e w5 ⟨v5, rfl, hvm, hb5⟩; replace hbW := bthen hbW hb5; (replace hx := hx.below hb5; replace hy := hy.below hb5; replace ba := ba.below hb5; replace br := br.below hb5; replace l0 := old_cell hb5 l0; replace l1 := old_cell hb5 l1; replace l2 := old_cell hb5 l2; replace l3 := old_cell hb5 l3); clear hb5)
      | (go_at_call 53; (with_reducible refine (rmade_calls hx (hvm.bv spy hk) sxm spy hk hkk1).mono ?_); rintro e w5 ⟨v5, rfl, hv5, hb5⟩; have HL := Shut.mk br.lt; have HS := Shut.mk hbW.size; have HB := Shut.mk (bthen hbW hb5); (replace br := br.below hb5; replace l0 := old_cell hb5 l0; replace l1 := old_cell hb5 l1; replace l2 := old_cell hb5 l2; replace l3 := old_cell hb5 l3); have r0 := br.c0; have r1 := br.c1; have r2 := br.c2; have r3 := br.c3; have g0 := br.f0; have g1 := br.f1; have g2 := br.f2; have g3 := br.f3; have HG := Shut.mk br.ge; have HV := Shut.mk hv5; obtain ⟨ng5, B5, m5, e5, ng6, B6, m6, e6, rfl⟩ := hv5.shape; clear hb5))
  all_goals
    clear l0 l1 l2 l3
    go_wp2_with fail
    refine bodyPost_ret (v := .agg #[.bool ng5, .slice B5 m5 e5, .bool ng6, .slice B6 m6 e6]) (by simp [results, Tryz.results118, go_sem, r0, r1, r2, r3]) rfl ?_
    exact ⟨_, rfl, (HV.out.four HL.out _ _ _ _).mono HS.out, below_four HB.out HG.out _ _ _ _⟩

end Go.Proofs.YtjeaakkbkjhldaaGreatDoor

set_option linter.unusedVariables false
set_option linter.unusedSimpArgs false
namespace Go.Proofs.YtjeaakkbkjhldaaGreatDoor
open Go.RowKit

/-- what is ahead of the first of a byte, what is behind it, whether it is there -/
def cutAt (s : ByteArray) (i : Int) : ByteArray × ByteArray × Bool := if 0 ≤ i then (s.extract 0 i.toNat, s.extract (i.toNat + 1) s.size, true) else (s, ByteArray.empty, false)

set_option maxHeartbeats 4000000 in
set_option maxRecDepth 100000 in
theorem index_dot {w : World} {s : ByteArray} (hs : s.size ≤ 1000000) :
    Calls Tryz.prog 169 #[.string s, .string ⟨#[46]⟩] w fun e w' => e = .returned (.int .i64 (Lib.indexByte s.data.toList 46)) ∧ w' = w := by
  by_cases hb : ([46] == s.toList) = true
  · have HE : Shut (Lib.indexByte s.data.toList 46 = 0) := ⟨by
      have e : [46] = s.toList := by simpa using hb
      rw [ByteArray.toList_eq] at e
      rw [← e]; rfl⟩
    go_enter Tryz.func169, Tryz.ntmps169
    go_wp2
    go_ret
    exact ⟨congrArg (fun x => Ending.returned (Value.int .i64 x)) HE.out.symm, rfl⟩
  · replace hb : ([46] == s.toList) = false := by simpa using hb
    go_enter Tryz.func169, Tryz.ntmps169
    go_wp2_with fail
    refine (Tryz.stringslite_IndexByte s _ w).mono ?_
    rintro e w' ⟨rfl, hw⟩
    obtain rfl := hw.symm
    go_wp2
    go_ret
    exact ⟨rfl, rfl⟩

theorem indexByte_lt (l : List UInt8) (c : UInt8) : Lib.indexByte l c < l.length ∨ Lib.indexByte l c = -1 := by
  induction l with
  | nil => exact .inr rfl
  | cons b l ih =>
    unfold Lib.indexByte
    split
    · left; simp
    · split
      · exact .inr rfl
      · rename_i h
        rcases ih with h1 | h1
        · left; simp only [List.length_cons]; omega
        · simp [h1] at h
def CutRes (w : World) (c : ByteArray × ByteArray × Bool) (en : Ending) (w' : World) : Prop := en = .returned (.tuple #[.string c.1, .string c.2.1, .bool c.2.2]) ∧ Below w.heap.size w w'

set_option maxHeartbeats 4000000 in
set_option maxRecDepth 100000 in
theorem slcut_dot {w : World} {s : ByteArray} (hs : s.size ≤ 1000000) :
    Calls Tryz.prog 148 #[.string s, .string ⟨#[46]⟩] w (CutRes w (cutAt s (Lib.indexByte s.data.toList 46))) := by
  have hlt := indexByte_lt s.data.toList 46
  have hge := Lib.indexByte_ge s.data.toList 46
  have hl : s.data.toList.length = s.size := rfl
  rw [hl] at hlt
  have hidx := index_dot (w := w) hs
  generalize Lib.indexByte s.data.toList 46 = i at *
  clear hl
  by_cases h0 : 0 ≤ i
  · obtain ⟨j, rfl⟩ : ∃ j : Nat, i = j := ⟨i.toNat, by omega⟩
    have hj : (j : Int) < s.size := by omega
    have hj1 : (j : Int) + 1 ≤ s.size := by omega
    have hj2 : (j : Int) ≤ s.size := by omega
    have hj0 : (0 : Int) ≤ (j : Int) + 1 := by omega
    have HC : Shut (cutAt s (j : Int) = (s.extract 0 j, s.extract (j + 1) s.size, true)) := ⟨by unfold cutAt; rw [if_pos (by omega)]; simp⟩
    clear hlt hge
    go_enter Tryz.func148, Tryz.ntmps148
    go_wp2_with fail
    refine hidx.mono ?_
    rintro e w' ⟨rfl, hw⟩
    obtain rfl := hw.symm
    go_upto_region 3 with fail
    go_quiet (fail)
    go_wp2_with fail
    refine bodyPost_ret (v := .tuple #[.string (s.extract 0 j), .string (s.extract (j + 1) s.size), .bool true]) (by simp [results, Tryz.results148, go_sem]) rfl ?_
    unfold CutRes
    rw [HC.out]
    exact ⟨rfl, (Below.refl _ _).drewN _⟩
  · obtain rfl : i = -1 := by omega
    have HC : Shut (cutAt s (-1) = (s, ByteArray.empty, false)) := ⟨by unfold cutAt; rw [if_neg (by omega)]⟩
    clear hlt hge h0
    go_enter Tryz.func148, Tryz.ntmps148
    go_wp2_with fail
    refine hidx.mono ?_
    rintro e w' ⟨rfl, hw⟩
    obtain rfl := hw.symm
    go_wp2
    refine bodyPost_ret (v := .tuple #[.string s, .string ⟨#[]⟩, .bool false]) (by simp [results, Tryz.results148, go_sem]) rfl ?_
    unfold CutRes
    rw [HC.out]
    exact ⟨rfl, Below.refl _ _⟩

set_option maxHeartbeats 4000000 in
theorem Cut_dot {w : World} {s : ByteArray} (hs : s.size ≤ 1000000) :
    Calls Tryz.prog 117 #[.string s, .string ⟨#[46]⟩] w (CutRes w (cutAt s (Lib.indexByte s.data.toList 46))) := by
  have h := slcut_dot (w := w) hs
  generalize cutAt s (Lib.indexByte s.data.toList 46) = c at *
  go_enter Tryz.func117, Tryz.ntmps117
  go_wp2_with fail
  refine h.mono ?_
  rintro e w' ⟨rfl, hb⟩
  go_wp2
  refine bodyPost_ret (v := .tuple #[.string c.1, .string c.2.1, .bool c.2.2]) (by simp [results, Tryz.results117, go_sem]) rfl ?_
  exact ⟨rfl, hb⟩

end Go.Proofs.YtjeaakkbkjhldaaGreatDoor

set_option linter.unusedVariables false
set_option linter.unusedSimpArgs false
namespace Go.Proofs.YtjeaakkbkjhldaaGreatDoor
open Go.RowKit

theorem indexByte_at {l : List UInt8} {c : UInt8} {i : Nat} (h : l[i]? = some c) (hn : ∀ k, k < i → l[k]? ≠ some c) : Lib.indexByte l c = i := by
  by_cases h1 : Lib.indexByte l c = -1
  · exact absurd h (Lib.indexByte_none h1 i)
  · have hge := Lib.indexByte_ge l c
    obtain ⟨o, ho⟩ : ∃ o : Nat, Lib.indexByte l c = o := ⟨(Lib.indexByte l c).toNat, by omega⟩
    obtain ⟨h2, h3⟩ := Lib.indexByte_some ho
    rcases Nat.lt_trichotomy o i with h4 | h4 | h4
    · exact absurd h2 (hn o h4)
    · omega
    · exact absurd h (h3 i h4)
theorem indexByte_not {l : List UInt8} {c : UInt8} (hn : ∀ k, k < l.length → l[k]? ≠ some c) : Lib.indexByte l c = -1 := by
  by_cases h1 : Lib.indexByte l c = -1
  · exact h1
  · have hge := Lib.indexByte_ge l c
    obtain ⟨o, ho⟩ : ∃ o : Nat, Lib.indexByte l c = o := ⟨(Lib.indexByte l c).toNat, by omega⟩
    obtain ⟨h2, _⟩ := Lib.indexByte_some ho
    have := (List.getElem?_eq_some_iff.1 h2).1
    exact absurd h2 (hn o this)

set_option maxHeartbeats 4000000 in
set_option maxRecDepth 100000 in
theorem cut_calls {w : World} {s : ByteArray} {c : UInt8} (hs : s.size ≤ 1000000) :
    Calls Tryz.prog 115 #[.string s, .string ⟨#[c]⟩] w (CutRes w (cutAt s (Lib.indexByte s.data.toList c))) := by
  go_enter Tryz.func115, Tryz.ntmps115
  go_wp2_with fail
  go_loopw [10] (fun iv wr => ∃ i : Nat, iv = .int .i64 i ∧ i ≤ s.size ∧ Shut (∀ k, k < i → s.data.toList[k]? ≠ some c) ∧ wr = w) (fun iv _ => s.size - (intOf iv).toNat)
  case atStart => exact ⟨0, rfl, by omega, ⟨fun k h => by omega⟩, rfl⟩
  case round =>
    obtain ⟨i, rfl, hi, HI, rfl⟩ := hrel
    by_cases hlt : i < s.size
    · have hidx := Tryz.strings_IndexByte ⟨#[c]⟩ ((s[i]'hlt).toNat : Int) wr
      have hget : s.data.toList[i]? = some (s[i]'hlt) := by
        rw [List.getElem?_eq_getElem (show i < s.data.toList.length from hlt)]; rfl
      have hval : Lib.indexByte [c] (((s[i]'hlt).toNat : Int).toNat.toUInt8) = if c = (s[i]'hlt) then 0 else -1 := by
        have e : (((s[i]'hlt).toNat : Int).toNat.toUInt8) = s[i]'hlt := by simp
        rw [e]; simp [Lib.indexByte]
      have hidx2 : Calls Tryz.prog 147 #[.string ⟨#[c]⟩, .int .u8 ((s[i]'hlt).toNat : Int)] wr fun e w' => e = .returned (.int .i64 (if c = (s[i]'hlt) then 0 else -1)) ∧ w' = wr := by
        refine hidx.mono ?_
        rintro e w' ⟨rfl, h⟩
        exact ⟨by rw [← hval], h⟩
      clear hidx hval
      have HG := Shut.mk hget
      clear hget
      by_cases hc : c = (s[i]'hlt)
      · rw [if_pos hc] at hidx2
        have HC : Shut (Lib.indexByte s.data.toList c = i) := ⟨indexByte_at (by rw [HG.out, hc]) HI.out⟩
        have HC2 : Shut (cutAt s (Lib.indexByte s.data.toList c) = (s.extract 0 i, s.extract (i + 1) s.size, true)) := ⟨by rw [HC.out]; unfold cutAt; rw [if_pos (by omega)]; simp⟩
        have hj : (i : Int) < s.size := by omega
        have hj1 : (i : Int) + 1 ≤ s.size := by omega
        have hj2 : (i : Int) ≤ s.size := by omega
        have hj0 : (0 : Int) ≤ (i : Int) + 1 := by omega
        have HCC := Shut.mk hc
        clear hc HC HI HG
        go_wp2_with fail
        refine hidx2.mono ?_
        rintro e w' ⟨rfl, hw⟩
        obtain rfl := hw.symm
        go_upto_region 5 with fail
        go_quiet (fail)
        go_wp2_with fail
        refine bodyPost_ret (v := .tuple #[.string (s.extract 0 i), .string (s.extract (i + 1) s.size), .bool true]) (by simp [results, Tryz.results115, go_sem]) rfl ?_
        unfold CutRes
        rw [HC2.out]
        exact ⟨rfl, (Below.refl _ _).drewN _⟩
      · rw [if_neg hc] at hidx2
        have HS : Shut (∀ k, k < i + 1 → s.data.toList[k]? ≠ some c) := ⟨fun k hk => by
          rcases Nat.lt_or_ge k i with h | h
          · exact HI.out k h
          · obtain rfl : k = i := by omega
            rw [HG.out]; intro e; exact hc (Option.some.inj e).symm⟩
        have HCC := Shut.mk hc
        clear hc HI HG
        go_wp2_with fail
        refine hidx2.mono ?_
        rintro e w' ⟨rfl, hw⟩
        obtain rfl := hw.symm
        go_wp2
        go_roundw
        case rel => exact ⟨i + 1, by go_num, by omega, HS, by first | rfl | trivial⟩
        case measure => simp [intOf]; omega
    · have HC2 : Shut (cutAt s (Lib.indexByte s.data.toList c) = (s, ByteArray.empty, false)) := ⟨by
        rw [indexByte_not (fun k hk => HI.out k (by have : s.data.toList.length = s.size := rfl; omega))]
        unfold cutAt; rw [if_neg (by omega)]⟩
      clear HI
      go_wp2
      refine bodyPost_ret (v := .tuple #[.string s, .string ⟨#[]⟩, .bool false]) (by simp [results, Tryz.results115, go_sem]) rfl ?_
      unfold CutRes
      rw [HC2.out]
      exact ⟨rfl, Below.refl _ _⟩

end Go.Proofs.YtjeaakkbkjhldaaGreatDoor

set_option linter.unusedVariables false
set_option linter.unusedSimpArgs false
namespace Go.Proofs.YtjeaakkbkjhldaaGreatDoor
open Go.RowKit

/-- an exponent's number, from the text behind its sign -/
def expT (neg : Bool) (o : Option Int) : Option Int := match o with
  | none => none
  | some v => if v ≤ 999 then some (if neg then -v else v) else none
def ExpRes (w : World) (o : Option Int) (en : Ending) (w' : World) : Prop := en = .returned (.tuple #[.int .i64 (o.getD 0), .bool o.isSome]) ∧ Below w.heap.size w w'
theorem parse_sm {t : ByteArray} {b : Int} : Sm (4 * t.size + 1) ((parseI (bys t) b).getD 0) := by
  cases h : parseI (bys t) b with
  | none => exact Sm.zero _
  | some v =>
    have := parseI_lt h
    have e : (16 : Int) ^ (bys t).length = 2 ^ (4 * t.size) := by rw [bys_len, Int.pow_mul]; rfl
    have e2 : (2 : Int) ^ (4 * t.size) ≤ 2 ^ (4 * t.size + 1) := pow_le_pow' (by omega) (by omega)
    unfold Sm
    simp only [Option.getD_some]
    omega
theorem parse_nonneg {t : ByteArray} {b v : Int} (h : parseI (bys t) b = some v) : 0 ≤ v := (parseI_lt h).1
theorem pre_pos {s : ByteArray} {c : UInt8} (h : Lib.hasPrefix s.data.toList [c] = true) : (1 : Int) ≤ s.size := by
  have e : s.data.toList.length = s.size := rfl
  cases hl : s.data.toList with
  | nil => rw [hl] at h; simp [Lib.hasPrefix] at h
  | cons a l => rw [hl] at e; simp at e; omega
theorem extract_size1 (s : ByteArray) : (s.extract 1 s.size).size ≤ s.size := by rw [ByteArray.size_extract]; omega

set_option maxHeartbeats 4000000 in
set_option maxRecDepth 100000 in
theorem exp_neg {w : World} {s : ByteArray} (hs : s.size ≤ 1000000) (h1 : Lib.hasPrefix s.data.toList [45] = true) :
    Calls Tryz.prog 116 #[.string s] w (ExpRes w (expT true (parseI (bys (s.extract 1 s.size)) 10))) := by
  have hz : (1 : Int) ≤ s.size := pre_pos h1
  have hp := Tryz.strings_HasPrefix s ⟨#[45]⟩ w
  have hq := Tryz.strings_HasPrefix s ⟨#[43]⟩ w
  have hts : ((s.extract 1 s.size)).size ≤ 1000000 := Nat.le_trans (extract_size1 s) hs
  have hpar := fun (w' : World) => Parse_calls (w := w') (s := (s.extract 1 s.size)) (b := 10) (by omega) hts
  have hsm := parse_sm (t := (s.extract 1 s.size)) (b := 10)
  have hnn := fun v => parse_nonneg (t := (s.extract 1 s.size)) (b := 10) (v := v)
  generalize parseI (bys (s.extract 1 s.size)) 10 = o at *
  have HK : Shut (4 * ((s.extract 1 s.size)).size + 1 ≤ 137438953472) := ⟨by omega⟩
  clear hts
  go_enter Tryz.func116, Tryz.ntmps116
  go_wp2_with fail
  refine hp.mono ?_
  rintro e w' ⟨rfl, hw⟩
  obtain rfl := hw.symm
  go_wp2_with fail
  refine (hpar _).mono ?_
  rintro e w1 ⟨v, rfl, hv, hb⟩
  obtain ⟨ng, A1, n1, c1, rfl⟩ := hv.shape
  have hbv := hv.bv hsm HK.out
  clear hpar hv hsm hp hq
  obtain ⟨hbW, ba⟩ := box1_facts w1 24 (.bool ng) (.slice A1 n1 c1)
  go_upto_region 5 with fail
  change Code.wp _ _ _ _ (box1 w1 24 (.bool ng) (.slice A1 n1 c1))
  replace hbv := hbv.below hbW
  replace hb := bthen hb hbW
  clear hbW
  generalize box1 w1 24 (.bool ng) (.slice A1 n1 c1) = W at *
  generalize w1.heap.size = p at *
  have l0 := ba.c0
  have l1 := ba.c1
  go_wp2_with fail
  refine (Int64_calls hbv).mono ?_
  rintro e w2 ⟨rfl, hb2⟩
  have HB := Shut.mk (bthen hb hb2)
  clear hb hb2 l0 l1 ba hbv
  cases o with
  | none =>
    have hf : decide (fits64 ((none : Option Int).getD 0)) = true := by decide
    go_wp2
    refine bodyPost_ret (v := .tuple #[.int .i64 0, .bool false]) (by simp [results, Tryz.results116, go_sem]) rfl ?_
    exact ⟨rfl, HB.out⟩
  | some v =>
    have v0 := hnn v rfl
    clear hnn
    simp only [Option.getD_some, Option.isSome_some]
    by_cases h9 : v ≤ 999
    · have HE : Shut (expT true (some v) = some (if true then -v else v)) := ⟨by unfold expT; simp [h9]⟩
      have hf : fits64 v := by unfold fits64; omega
      have hfd : decide (fits64 v) = true := decide_eq_true hf
      rw [if_pos hf, hfd]
      clear hf hfd
      go_wp2
      refine bodyPost_ret (v := .tuple #[.int .i64 (-v), .bool true]) (by simp [results, Tryz.results116, go_sem]) rfl ?_
      unfold ExpRes
      rw [HE.out]
      exact ⟨rfl, HB.out⟩
    · have HE : Shut (expT true (some v) = none) := ⟨by unfold expT; simp [h9]⟩
      by_cases hf : fits64 v
      · have hfd : decide (fits64 v) = true := decide_eq_true hf
        rw [if_pos hf, hfd]
        clear hf hfd
        go_wp2
        refine bodyPost_ret (v := .tuple #[.int .i64 0, .bool false]) (by simp [results, Tryz.results116, go_sem]) rfl ?_
        unfold ExpRes
        rw [HE.out]
        exact ⟨rfl, HB.out⟩
      · have hfd : decide (fits64 v) = false := decide_eq_false hf
        rw [if_neg hf, hfd]
        clear hf hfd
        go_wp2
        refine bodyPost_ret (v := .tuple #[.int .i64 0, .bool false]) (by simp [results, Tryz.results116, go_sem]) rfl ?_
        unfold ExpRes
        rw [HE.out]
        exact ⟨rfl, HB.out⟩

set_option maxHeartbeats 4000000 in
set_option maxRecDepth 100000 in
theorem exp_plus {w : World} {s : ByteArray} (hs : s.size ≤ 1000000) (h0 : Lib.hasPrefix s.data.toList [45] = false) (h1 : Lib.hasPrefix s.data.toList [43] = true) :
    Calls Tryz.prog 116 #[.string s] w (ExpRes w (expT false (parseI (bys (s.extract 1 s.size)) 10))) := by
  have hz : (1 : Int) ≤ s.size := pre_pos h1
  have hp := Tryz.strings_HasPrefix s ⟨#[45]⟩ w
  have hq := Tryz.strings_HasPrefix s ⟨#[43]⟩ w
  have hts : ((s.extract 1 s.size)).size ≤ 1000000 := Nat.le_trans (extract_size1 s) hs
  have hpar := fun (w' : World) => Parse_calls (w := w') (s := (s.extract 1 s.size)) (b := 10) (by omega) hts
  have hsm := parse_sm (t := (s.extract 1 s.size)) (b := 10)
  have hnn := fun v => parse_nonneg (t := (s.extract 1 s.size)) (b := 10) (v := v)
  generalize parseI (bys (s.extract 1 s.size)) 10 = o at *
  have HK : Shut (4 * ((s.extract 1 s.size)).size + 1 ≤ 137438953472) := ⟨by omega⟩
  clear hts
  go_enter Tryz.func116, Tryz.ntmps116
  go_wp2_with fail
  refine hp.mono ?_
  rintro e w' ⟨rfl, hw⟩
  obtain rfl := hw.symm
  go_wp2_with fail
  refine hq.mono ?_
  rintro e w' ⟨rfl, hw2⟩
  obtain rfl := hw2.symm
  go_wp2_with fail
  refine (hpar _).mono ?_
  rintro e w1 ⟨v, rfl, hv, hb⟩
  obtain ⟨ng, A1, n1, c1, rfl⟩ := hv.shape
  have hbv := hv.bv hsm HK.out
  clear hpar hv hsm hp hq
  obtain ⟨hbW, ba⟩ := box1_facts w1 24 (.bool ng) (.slice A1 n1 c1)
  go_upto_region 5 with fail
  change Code.wp _ _ _ _ (box1 w1 24 (.bool ng) (.slice A1 n1 c1))
  replace hbv := hbv.below hbW
  replace hb := bthen hb hbW
  clear hbW
  generalize box1 w1 24 (.bool ng) (.slice A1 n1 c1) = W at *
  generalize w1.heap.size = p at *
  have l0 := ba.c0
  have l1 := ba.c1
  go_wp2_with fail
  refine (Int64_calls hbv).mono ?_
  rintro e w2 ⟨rfl, hb2⟩
  have HB := Shut.mk (bthen hb hb2)
  clear hb hb2 l0 l1 ba hbv
  cases o with
  | none =>
    have hf : decide (fits64 ((none : Option Int).getD 0)) = true := by decide
    go_wp2
    refine bodyPost_ret (v := .tuple #[.int .i64 0, .bool false]) (by simp [results, Tryz.results116, go_sem]) rfl ?_
    exact ⟨rfl, HB.out⟩
  | some v =>
    have v0 := hnn v rfl
    clear hnn
    simp only [Option.getD_some, Option.isSome_some]
    by_cases h9 : v ≤ 999
    · have HE : Shut (expT false (some v) = some (if false then -v else v)) := ⟨by unfold expT; simp [h9]⟩
      have hf : fits64 v := by unfold fits64; omega
      have hfd : decide (fits64 v) = true := decide_eq_true hf
      rw [if_pos hf, hfd]
      clear hf hfd
      go_wp2
      refine bodyPost_ret (v := .tuple #[.int .i64 v, .bool true]) (by simp [results, Tryz.results116, go_sem]) rfl ?_
      unfold ExpRes
      rw [HE.out]
      exact ⟨rfl, HB.out⟩
    · have HE : Shut (expT false (some v) = none) := ⟨by unfold expT; simp [h9]⟩
      by_cases hf : fits64 v
      · have hfd : decide (fits64 v) = true := decide_eq_true hf
        rw [if_pos hf, hfd]
        clear hf hfd
        go_wp2
        refine bodyPost_ret (v := .tuple #[.int .i64 0, .bool false]) (by simp [results, Tryz.results116, go_sem]) rfl ?_
        unfold ExpRes
        rw [HE.out]
        exact ⟨rfl, HB.out⟩
      · have hfd : decide (fits64 v) = false := decide_eq_false hf
        rw [if_neg hf, hfd]
        clear hf hfd
        go_wp2
        refine bodyPost_ret (v := .tuple #[.int .i64 0, .bool false]) (by simp [results, Tryz.results116, go_sem]) rfl ?_
        unfold ExpRes
        rw [HE.out]
        exact ⟨rfl, HB.out⟩

set_option maxHeartbeats 4000000 in
set_option maxRecDepth 100000 in
theorem exp_none {w : World} {s : ByteArray} (hs : s.size ≤ 1000000) (h0 : Lib.hasPrefix s.data.toList [45] = false) (h1 : Lib.hasPrefix s.data.toList [43] = false) :
    Calls Tryz.prog 116 #[.string s] w (ExpRes w (expT false (parseI (bys s) 10))) := by

  have hp := Tryz.strings_HasPrefix s ⟨#[45]⟩ w
  have hq := Tryz.strings_HasPrefix s ⟨#[43]⟩ w
  have hts : (s).size ≤ 1000000 := hs
  have hpar := fun (w' : World) => Parse_calls (w := w') (s := s) (b := 10) (by omega) hts
  have hsm := parse_sm (t := s) (b := 10)
  have hnn := fun v => parse_nonneg (t := s) (b := 10) (v := v)
  generalize parseI (bys s) 10 = o at *
  have HK : Shut (4 * (s).size + 1 ≤ 137438953472) := ⟨by omega⟩
  clear hts
  go_enter Tryz.func116, Tryz.ntmps116
  go_wp2_with fail
  refine hp.mono ?_
  rintro e w' ⟨rfl, hw⟩
  obtain rfl := hw.symm
  go_wp2_with fail
  refine hq.mono ?_
  rintro e w' ⟨rfl, hw2⟩
  obtain rfl := hw2.symm
  go_wp2_with fail
  refine (hpar _).mono ?_
  rintro e w1 ⟨v, rfl, hv, hb⟩
  obtain ⟨ng, A1, n1, c1, rfl⟩ := hv.shape
  have hbv := hv.bv hsm HK.out
  clear hpar hv hsm hp hq
  obtain ⟨hbW, ba⟩ := box1_facts w1 24 (.bool ng) (.slice A1 n1 c1)
  go_upto_region 5 with fail
  change Code.wp _ _ _ _ (box1 w1 24 (.bool ng) (.slice A1 n1 c1))
  replace hbv := hbv.below hbW
  replace hb := bthen hb hbW
  clear hbW
  generalize box1 w1 24 (.bool ng) (.slice A1 n1 c1) = W at *
  generalize w1.heap.size = p at *
  have l0 := ba.c0
  have l1 := ba.c1
  go_wp2_with fail
  refine (Int64_calls hbv).mono ?_
  rintro e w2 ⟨rfl, hb2⟩
  have HB := Shut.mk (bthen hb hb2)
  clear hb hb2 l0 l1 ba hbv
  cases o with
  | none =>
    have hf : decide (fits64 ((none : Option Int).getD 0)) = true := by decide
    go_wp2
    refine bodyPost_ret (v := .tuple #[.int .i64 0, .bool false]) (by simp [results, Tryz.results116, go_sem]) rfl ?_
    exact ⟨rfl, HB.out⟩
  | some v =>
    have v0 := hnn v rfl
    clear hnn
    simp only [Option.getD_some, Option.isSome_some]
    by_cases h9 : v ≤ 999
    · have HE : Shut (expT false (some v) = some (if false then -v else v)) := ⟨by unfold expT; simp [h9]⟩
      have hf : fits64 v := by unfold fits64; omega
      have hfd : decide (fits64 v) = true := decide_eq_true hf
      rw [if_pos hf, hfd]
      clear hf hfd
      go_wp2
      refine bodyPost_ret (v := .tuple #[.int .i64 v, .bool true]) (by simp [results, Tryz.results116, go_sem]) rfl ?_
      unfold ExpRes
      rw [HE.out]
      exact ⟨rfl, HB.out⟩
    · have HE : Shut (expT false (some v) = none) := ⟨by unfold expT; simp [h9]⟩
      by_cases hf : fits64 v
      · have hfd : decide (fits64 v) = true := decide_eq_true hf
        rw [if_pos hf, hfd]
        clear hf hfd
        go_wp2
        refine bodyPost_ret (v := .tuple #[.int .i64 0, .bool false]) (by simp [results, Tryz.results116, go_sem]) rfl ?_
        unfold ExpRes
        rw [HE.out]
        exact ⟨rfl, HB.out⟩
      · have hfd : decide (fits64 v) = false := decide_eq_false hf
        rw [if_neg hf, hfd]
        clear hf hfd
        go_wp2
        refine bodyPost_ret (v := .tuple #[.int .i64 0, .bool false]) (by simp [results, Tryz.results116, go_sem]) rfl ?_
        unfold ExpRes
        rw [HE.out]
        exact ⟨rfl, HB.out⟩

/-- an exponent's number -/
def expI (s : ByteArray) : Option Int := if Lib.hasPrefix s.data.toList [45] then expT true (parseI (bys (s.extract 1 s.size)) 10) else if Lib.hasPrefix s.data.toList [43] then expT false (parseI (bys (s.extract 1 s.size)) 10) else expT false (parseI (bys s) 10)
theorem exponent_calls {w : World} {s : ByteArray} (hs : s.size ≤ 1000000) : Calls Tryz.prog 116 #[.string s] w (ExpRes w (expI s)) := by
  unfold expI
  cases h0 : Lib.hasPrefix s.data.toList [45] with
  | true => exact exp_neg hs h0
  | false =>
    cases h1 : Lib.hasPrefix s.data.toList [43] with
    | true => exact exp_plus hs h0 h1
    | false => exact exp_none hs h0 h1

end Go.Proofs.YtjeaakkbkjhldaaGreatDoor

set_option linter.unusedVariables false
set_option linter.unusedSimpArgs false
namespace Go.Proofs.YtjeaakkbkjhldaaGreatDoor
open Go.RowKit

/-- a fraction times b^n -/
def scaleR (q : Rat) (b n : Int) : Rat := if 0 ≤ n then fr (q.num * b ^ n.toNat) q.den else fr q.num (q.den * b ^ (-n).toNat)
/-- digits with a point or none, and an exponent or none -/
def fracI (s : ByteArray) (mark : UInt8) (digits base : Int) : Option Rat :=
  let c := cutAt s (Lib.indexByte s.data.toList mark)
  let n := if c.2.2 then expI c.2.1 else some 0
  let p := cutAt c.1 (Lib.indexByte c.1.data.toList 46)
  match n, parseI (bys (p.1 ++ p.2.1)) digits with
  | some n, some v => if digits = 16 ∧ c.2.2 = false ∧ p.2.2 = true then none else some (scaleR (scaleR (fr v 1) digits (-(p.2.1.size : Int))) base n)
  | _, _ => none

end Go.Proofs.YtjeaakkbkjhldaaGreatDoor

set_option linter.unusedVariables false
set_option linter.unusedSimpArgs false
namespace Go.Proofs.YtjeaakkbkjhldaaGreatDoor
open Go.RowKit

theorem scaled_calls {w : World} {v : Value} {q : Rat} {b n : Int} {k m : Nat} {B : Nat} (h : NRV B w v q) (sq : SmR k q) (b0 : 0 ≤ b) (b1 : b ≤ 16) (hm : n.natAbs ≤ m) (hm1 : m ≤ 1000000) (hk : k + (5 * m + 1) ≤ 137438953472) (hk1 : 1 ≤ k) :
    Calls Tryz.prog 118 #[v, .int .i64 b, .int .i64 n] w (RatRes w (scaleR q b n)) := by
  have hrv := h.rv sq (by omega)
  have sb : Sm 5 b := by unfold Sm; have : (2 : Int) ^ 5 = 32 := by decide
                         omega
  unfold scaleR
  by_cases h0 : 0 ≤ n
  · rw [if_pos h0]
    obtain ⟨j, rfl⟩ : ∃ j : Nat, n = j := ⟨n.toNat, by omega⟩
    simp only [Int.toNat_natCast]
    exact scaled_up hrv sq.1 sq.2 b0 b1 (by omega) ((sb.pow j).mono (show 5 * j + 1 ≤ 5 * m + 1 by omega)) hk hk1
  · rw [if_neg h0]
    obtain ⟨j, rfl⟩ : ∃ j : Nat, n = -(j : Int) := ⟨n.natAbs, by omega⟩
    simp only [Int.neg_neg, Int.toNat_natCast]
    exact scaled_down hrv sq.1 sq.2 b0 b1 (by omega) (by omega) ((sb.pow j).mono (show 5 * j + 1 ≤ 5 * m + 1 by omega)) hk hk1
theorem SmR.scale {q : Rat} {b n : Int} {k m : Nat} (sq : SmR k q) (b0 : 0 ≤ b) (b1 : b ≤ 16) (hm : n.natAbs ≤ m) (hk1 : 1 ≤ k) : SmR (k + (5 * m + 1)) (scaleR q b n) := by
  have sb : Sm 5 b := by unfold Sm; have : (2 : Int) ^ 5 = 32 := by decide
                         omega
  unfold scaleR
  by_cases h0 : 0 ≤ n
  · rw [if_pos h0]
    exact SmR.fr (sq.1.mul ((sb.pow n.toNat).mono (show 5 * n.toNat + 1 ≤ 5 * m + 1 by omega))) (sq.2.mono (by omega)) (by omega)
  · rw [if_neg h0]
    exact SmR.fr (sq.1.mono (by omega)) (sq.2.mul ((sb.pow (-n).toNat).mono (show 5 * (-n).toNat + 1 ≤ 5 * m + 1 by omega))) (by omega)

end Go.Proofs.YtjeaakkbkjhldaaGreatDoor

set_option linter.unusedVariables false
set_option linter.unusedSimpArgs false
namespace Go.Proofs.YtjeaakkbkjhldaaGreatDoor
open Go.RowKit

def FracRes (w : World) (o : Option Rat) (en : Ending) (w' : World) : Prop := ∃ v, en = .returned (.tuple #[v, .bool o.isSome]) ∧ NRV w.heap.size w' v (o.getD 0) ∧ Below w.heap.size w w'
theorem expT_le {neg : Bool} {o : Option Int} (h : ∀ v, o = some v → 0 ≤ v) : ((expT neg o).getD 0).natAbs ≤ 999 := by
  unfold expT
  cases o with
  | none => simp
  | some v =>
    have := h v rfl
    simp only
    split
    · simp only [Option.getD_some]; split <;> omega
    · simp
theorem expI_le (s : ByteArray) : ((expI s).getD 0).natAbs ≤ 999 := by
  unfold expI
  split
  · exact expT_le (fun v h => parse_nonneg h)
  · split
    · exact expT_le (fun v h => parse_nonneg h)
    · exact expT_le (fun v h => parse_nonneg h)
theorem cutAt_size (s : ByteArray) (i : Int) : (cutAt s i).1.size + (cutAt s i).2.1.size ≤ s.size := by
  unfold cutAt
  split
  · simp only [ByteArray.size_extract]; omega
  · show s.size + ByteArray.empty.size ≤ s.size; rw [show ByteArray.empty.size = 0 from rfl]; omega

/-- what fraction answers, from its parts -/
def fracP (n pv : Option Int) (has point : Bool) (len : Nat) (digits base : Int) : Option Rat :=
  match n, pv with
  | some n, some v => if digits = 16 ∧ has = false ∧ point = true then none else some (scaleR (scaleR (fr v 1) digits (-(len : Int))) base n)
  | _, _ => none

theorem fracP_neg {n v digits base : Int} {has point : Bool} {len : Nat} (h : ¬ (digits = 16 ∧ has = false ∧ point = true)) : fracP (some n) (some v) has point len digits base = some (scaleR (scaleR (fr v 1) digits (-(len : Int))) base n) := by
  unfold fracP; simp only; rw [if_neg h]
theorem fracP_pos {n v digits base : Int} {has point : Bool} {len : Nat} (h : digits = 16 ∧ has = false ∧ point = true) : fracP (some n) (some v) has point len digits base = none := by
  unfold fracP; simp only; rw [if_pos h]
def refB (ok fine h16 has point : Bool) : Bool := !ok || !fine || (h16 && !has && point)
set_option maxHeartbeats 4000000 in
set_option maxRecDepth 100000 in
theorem fraction_calls {w : World} {s : ByteArray} {mark : UInt8} {digits base : Int} (hs : s.size ≤ 1000) (hd : digits = 10 ∨ digits = 16) (hb : base = 2 ∨ base = 10) :
    Calls Tryz.prog 66 #[.string s, .string ⟨#[mark]⟩, .int .i64 digits, .int .i64 base] w (FracRes w (fracI s mark digits base)) := by
  have hcut := fun (w' : World) => cut_calls (w := w') (s := s) (c := mark) (by omega)
  have hcs := cutAt_size s (Lib.indexByte s.data.toList mark)
  have HF : Shut (fracI s mark digits base = fracP (if (cutAt s (Lib.indexByte s.data.toList mark)).2.2 then expI (cutAt s (Lib.indexByte s.data.toList mark)).2.1 else some 0)
      (parseI (bys ((cutAt (cutAt s (Lib.indexByte s.data.toList mark)).1 (Lib.indexByte (cutAt s (Lib.indexByte s.data.toList mark)).1.data.toList 46)).1 ++ (cutAt (cutAt s (Lib.indexByte s.data.toList mark)).1 (Lib.indexByte (cutAt s (Lib.indexByte s.data.toList mark)).1.data.toList 46)).2.1)) digits)
      (cutAt s (Lib.indexByte s.data.toList mark)).2.2 (cutAt (cutAt s (Lib.indexByte s.data.toList mark)).1 (Lib.indexByte (cutAt s (Lib.indexByte s.data.toList mark)).1.data.toList 46)).2.2 (cutAt (cutAt s (Lib.indexByte s.data.toList mark)).1 (Lib.indexByte (cutAt s (Lib.indexByte s.data.toList mark)).1.data.toList 46)).2.1.size digits base) := ⟨by
    unfold fracI fracP; rfl⟩
  generalize cutAt s (Lib.indexByte s.data.toList mark) = c at *
  obtain ⟨s1, e1, has⟩ := c
  simp only at HF hcs
  have hs1 : s1.size ≤ 1000 := by omega
  have he1 : e1.size ≤ 1000 := by omega
  have hdot := fun (w' : World) => Cut_dot (w := w') (s := s1) (by omega)
  have hps := cutAt_size s1 (Lib.indexByte s1.data.toList 46)
  generalize cutAt s1 (Lib.indexByte s1.data.toList 46) = p at *
  obtain ⟨p1, p2, point⟩ := p
  simp only at HF hps
  have hexp := fun (w' : World) => exponent_calls (w := w') (s := e1) (by omega)
  have hle := expI_le e1
  have hcat : (p1 ++ p2).size = p1.size + p2.size := ByteArray.size_append
  have hadd := fun (wx : World) => run_string_add_sum (P := Tryz.prog) wx p1 p2 (by omega)
  have hpar := fun (w' : World) => Parse_calls (w := w') (s := p1 ++ p2) (b := digits) (by omega) (by omega)
  obtain ⟨k0, k01, k02, hsm⟩ : ∃ k0 : Nat, 1 ≤ k0 ∧ k0 ≤ 4001 ∧ Sm k0 ((parseI (bys (p1 ++ p2)) digits).getD 0) := ⟨4 * (p1 ++ p2).size + 1, by omega, by omega, parse_sm⟩
  generalize parseI (bys (p1 ++ p2)) digits = po at *
  generalize p1 ++ p2 = cat at *
  obtain ⟨o, ho⟩ : ∃ o : Option Int, o = (if has then expI e1 else some 0) := ⟨_, rfl⟩
  rw [← ho] at HF
  have HO : Shut ((has = true → expI e1 = o) ∧ (has = false → o = some 0)) := ⟨⟨fun h => by rw [ho, if_pos h], fun h => by rw [ho, h]; rfl⟩⟩
  have hol : (o.getD 0).natAbs ≤ 999 := by
    rw [ho]; split
    · exact hle
    · simp
  have HOL := Shut.mk hol
  clear ho hol hle
  have hp2 : p2.size ≤ 1000 := by omega
  have HB := Shut.mk hb
  have HDg := Shut.mk hd
  clear hcs hps hcat hb
  obtain ⟨hbW, ba⟩ := boxS_facts w 26 (.bool false) (.slice none 0 0) (.bool false) (.slice none 0 0)
  go_enter Tryz.func66, Tryz.ntmps66
  go_wp2_with fail
  change Calls _ _ _ (boxS w 26 (.bool false) (.slice none 0 0) (.bool false) (.slice none 0 0)) _
  generalize boxS w 26 (.bool false) (.slice none 0 0) (.bool false) (.slice none 0 0) = W at *
  have HL := Shut.mk (And.intro ba.ge ba.lt)
  generalize hp : w.heap.size = p at ba HL ⊢
  refine (hcut _).mono ?_
  rintro e w1 ⟨rfl, hb1⟩
  subst hp
  replace hbW := bthen hbW hb1
  (replace ba := ba.below hb1)
  clear hb1 hcut
  go_upto_if 27 with fail
  go_cut [12, 13] (fun s12 s13 wc => s12 = .int .i64 (o.getD 0) ∧ s13 = .bool o.isSome ∧ Shut (Below w.heap.size w wc) ∧ Box4 w wc w.heap.size (.bool false) (.slice none 0 0) (.bool false) (.slice none 0 0))
  case first =>
    cases has with
    | true =>
      have he := HO.out.1 rfl
      rw [he] at hexp
      clear he
      go_wp2_with fail
      refine (hexp _).mono ?_
      rintro e w2 ⟨rfl, hb2⟩
      replace hbW := Shut.mk (bthen hbW hb2)
      (replace ba := ba.below hb2)
      clear hb2 hexp
      go_wp2_with fail
      go_meet
      case rel => exact ⟨rfl, rfl, hbW, ba⟩
    | false =>
      have he := HO.out.2 rfl
      replace hbW := Shut.mk hbW
      clear hexp
      go_wp2_with fail
      go_meet
      case rel => exact ⟨by rw [he]; rfl, by rw [he]; rfl, hbW, ba⟩
  case rest =>
    clear ba hbW hexp
    obtain ⟨rfl, rfl, hbW, ba⟩ := hcut
    replace hbW := hbW.out
    go_wp2_with fail
    refine (hdot _).mono ?_
    rintro e w2 ⟨rfl, hb2⟩
    replace hbW := bthen hbW hb2
    (replace ba := ba.below hb2)
    clear hb2 hdot
    go_wp2_with fail
    refine (hpar _).mono ?_
    rintro e w3 ⟨v, rfl, hv, hb3⟩
    obtain ⟨ng, A1, n1, c1, rfl⟩ := hv.shape
    have hbv := hv.bv hsm (by omega)
    replace hbW := bthen hbW hb3
    (replace ba := ba.below hb3)
    have d1 : ¬ w.heap.size = w3.heap.size := by have := ba.lt; omega
    obtain ⟨hbX, bx⟩ := box1_facts w3 24 (.bool ng) (.slice A1 n1 c1)
    clear hpar hv hadd hb3
    go_upto_region 7 with fail
    change Code.wp _ _ _ _ (box1 w3 24 (.bool ng) (.slice A1 n1 c1))
    replace hbW := bthen hbW hbX
    (replace ba := ba.below hbX; replace hbv := hbv.below hbX)
    generalize box1 w3 24 (.bool ng) (.slice A1 n1 c1) = W2 at *
    generalize w3.heap.size = q at *
    clear hbX
    have HW := Shut.mk hbW
    have HX := Shut.mk bx
    have HA := Shut.mk ba
    have HV := Shut.mk hbv
    have HSM := Shut.mk hsm
    clear hbW bx ba hbv hsm
    generalize hok : o.isSome = ok
    generalize hfi : po.isSome = fine
    have HOK := Shut.mk hok
    have HFI := Shut.mk hfi
    clear hok hfi
    go_upto_region 7 with fail
    go_cut [63] (fun s63 wc => s63 = .bool (refB ok fine (decide (digits = 16)) has point) ∧ wc = W2)
    case first =>
      cases ok with
      | false =>
        go_wp2
        go_meet
        case rel => exact ⟨by simp [refB], by first | rfl | trivial⟩
      | true =>
        cases fine with
        | false =>
          go_wp2
          go_meet
          case rel => exact ⟨by simp [refB], by first | rfl | trivial⟩
        | true =>
          by_cases h16 : digits = 16
          · have h16b : (digits == 16) = true := by simpa using h16
            have H16 : Shut (decide (digits = 16) = true) := ⟨by simpa using h16⟩
            clear h16
            cases has with
            | true =>
              go_wp2
              go_meet
              case rel => exact ⟨by rw [H16.out]; simp [refB], by first | rfl | trivial⟩
            | false =>
              cases point with
              | true =>
                go_wp2
                go_meet
                case rel => exact ⟨by rw [H16.out]; simp [refB], by first | rfl | trivial⟩
              | false =>
                go_wp2
                go_meet
                case rel => exact ⟨by rw [H16.out]; simp [refB], by first | rfl | trivial⟩
          · have h16b : (digits == 16) = false := by simpa using h16
            have H16 : Shut (decide (digits = 16) = false) := ⟨by simpa using h16⟩
            clear h16
            go_wp2
            go_meet
            case rel => exact ⟨by rw [H16.out]; simp [refB], by first | rfl | trivial⟩
    case rest =>
      obtain ⟨rfl, hw⟩ := hcut
      obtain rfl := hw.symm
      cases hr : refB ok fine (decide (digits = 16)) has point with
      | true =>
        have HR : Shut (fracI s mark digits base = none) := ⟨by
          rw [HF.out]
          cases o with
          | none => rfl
          | some n =>
            cases po with
            | none => rfl
            | some v =>
              have e1 := HOK.out
              have e2 := HFI.out
              simp only [Option.isSome_some] at e1 e2
              subst e1 e2
              simp only [refB, Bool.not_true, Bool.false_or, Bool.and_eq_true, decide_eq_true_eq, Bool.not_eq_true'] at hr
              rw [fracP_pos ⟨hr.1.1, hr.1.2, hr.2⟩]⟩
        clear hr hw
        go_wp2_with fail
        refine (Of_calls (by omega) (by omega)).mono ?_
        rintro e w5 ⟨v, rfl, hv, hb5⟩
        have ba := HA.out.below hb5
        have HB5 := Shut.mk (bthen HW.out hb5)
        have HS := Shut.mk HW.out.size
        have HL5 := Shut.mk HA.out.lt
        have r0 := ba.c0
        have r1 := ba.c1
        have r2 := ba.c2
        have r3 := ba.c3
        have g0 := ba.f0
        have g1 := ba.f1
        have g2 := ba.f2
        have g3 := ba.f3
        have HV5 := Shut.mk hv
        obtain ⟨ng5, B1, m1, e1, rfl⟩ := hv.shape
        clear hb5 ba hv
        go_wp2
        refine bodyPost_ret (v := .tuple #[.agg #[.bool false, .slice none 0 0, .bool ng5, .slice B1 m1 e1], .bool false]) (by simp [results, Tryz.results66, go_sem, r0, r1, r2, r3]) rfl ?_
        unfold FracRes
        rw [HR.out]
        exact ⟨_, rfl, ⟨_, _, _, _, _, _, _, _, rfl, NBV.nil _ _, (HV5.out.four HL5.out _ _ _ _).mono HS.out⟩, below_four HB5.out HL.out.1 _ _ _ _⟩
      | false =>
        obtain ⟨n, v, rfl, rfl⟩ : ∃ n v, o = some n ∧ po = some v := by
          have e1 := HOK.out
          have e2 := HFI.out
          cases o with
          | none => simp at e1; subst e1; simp [refB] at hr
          | some n =>
            cases po with
            | none => simp at e2; subst e2; simp [refB] at hr
            | some v => exact ⟨n, v, rfl, rfl⟩
        have HR : Shut (fracI s mark digits base = some (scaleR (scaleR (fr v 1) digits (-(p2.size : Int))) base n)) := ⟨by
          rw [HF.out]
          have e1 := HOK.out
          have e2 := HFI.out
          simp only [Option.isSome_some] at e1 e2
          subst e1 e2
          simp only [refB, Bool.not_true, Bool.false_or] at hr
          rw [fracP_neg (by rintro ⟨h1, h2, h3⟩; subst h2 h3; simp [h1] at hr)]⟩
        have d0 : 0 ≤ digits := by have := HDg.out; omega
        have d16 : digits ≤ 16 := by have := HDg.out; omega
        have b0 : 0 ≤ base := by have := HB.out; omega
        have b16 : base ≤ 16 := by have := HB.out; omega
        have hn := HOL.out
        have hsm := HSM.out
        have hbv := HV.out
        simp only [Option.getD_some] at hn hbv hsm ⊢
        have sw : SmR k0 (fr v 1) := SmR.fr hsm (Sm.of_le (by decide) k01) k01
        have hwhole := fun (w' : World) (h : BV w' (.agg #[.bool ng, .slice A1 n1 c1]) v) => Whole_calls h hsm (by omega) k01
        have hsc1 := fun (w' : World) (v' : Value) (B : Nat) (h : NRV B w' v' (fr v 1)) => scaled_calls (n := -(p2.size : Int)) (m := 1000) h sw d0 d16 (by omega) (by omega) (by omega) k01
        have ss : SmR (k0 + (5 * 1000 + 1)) (scaleR (fr v 1) digits (-(p2.size : Int))) := SmR.scale sw d0 d16 (by omega) k01
        have hsc2 := fun (w' : World) (v' : Value) (B : Nat) (h : NRV B w' v' (scaleR (fr v 1) digits (-(p2.size : Int)))) => scaled_calls (n := n) (m := 1000) h ss b0 b16 (by omega) (by omega) (by omega) (by omega)
        have hneg : IntKind.i64.wrap (-(p2.size : Int)) = -(p2.size : Int) := by rw [IntKind.wrap_i64]; omega
        generalize scaleR (scaleR (fr v 1) digits (-(p2.size : Int))) base n = q2 at *
        generalize scaleR (fr v 1) digits (-(p2.size : Int)) = q1 at *
        generalize fr v 1 = q0 at *
        clear ss sw hsm HF HO HOL hn hr HSM HOK HFI HB HDg hw d0 d16 b0 b16 HV
        have hbW := HW.out
        have ba := HA.out
        have bx := HX.out
        have l0 := bx.c0
        have l1 := bx.c1
        go_wp2_with fail
        refine (hwhole _ hbv).mono ?_
        rintro e w5 ⟨v5, rfl, hv5, hb5⟩
        replace hbW := bthen hbW hb5
        (replace ba := ba.below hb5)
        clear hb5 l0 l1 bx hwhole hbv HW HA HX
        go_wp2_with fail
        refine (hsc1 _ _ _ hv5).mono ?_
        rintro e w6 ⟨v6, rfl, hv6, hb6⟩
        replace hbW := bthen hbW hb6
        (replace ba := ba.below hb6)
        clear hb6 hv5 hsc1
        obtain ⟨ng6, B6, m6, e6, ng7, B7, m7, e7, rfl⟩ := hv6.shape
        have d6 : ¬ w.heap.size = w6.heap.size := by have := ba.lt; omega
        obtain ⟨hb7, by7⟩ := boxS_facts w6 26 (.bool ng6) (.slice B6 m6 e6) (.bool ng7) (.slice B7 m7 e7)
        go_upto_region 10 with fail
        change Code.wp _ _ _ _ (boxS w6 26 (.bool ng6) (.slice B6 m6 e6) (.bool ng7) (.slice B7 m7 e7))
        generalize boxS w6 26 (.bool ng6) (.slice B6 m6 e6) (.bool ng7) (.slice B7 m7 e7) = W8 at *
        replace hbW := bthen hbW hb7
        (replace ba := ba.below hb7; replace hv6 := hv6.below hb7)
        clear hb7
        generalize w6.heap.size = q8 at *
        have l0 := by7.c0
        have l1 := by7.c1
        have l2 := by7.c2
        have l3 := by7.c3
        go_wp2_with fail
        refine (hsc2 _ _ _ hv6).mono ?_
        rintro e w9 ⟨v9, rfl, hv9, hb9⟩
        have HB9 := Shut.mk (bthen hbW hb9)
        have HS := Shut.mk hbW.size
        have HL9 := Shut.mk ba.lt
        (replace ba := ba.below hb9)
        have r0 := ba.c0
        have r1 := ba.c1
        have r2 := ba.c2
        have r3 := ba.c3
        have g0 := ba.f0
        have g1 := ba.f1
        have g2 := ba.f2
        have g3 := ba.f3
        have HV9 := Shut.mk hv9
        obtain ⟨ng9, B9, m9, e9, ng10, B10, m10, e10, rfl⟩ := hv9.shape
        clear hb9 ba hv9 hbW by7 l0 l1 l2 l3 hv6 hsc2
        go_wp2
        refine bodyPost_ret (v := .tuple #[.agg #[.bool ng9, .slice B9 m9 e9, .bool ng10, .slice B10 m10 e10], .bool true]) (by simp [results, Tryz.results66, go_sem, r0, r1, r2, r3]) rfl ?_
        unfold FracRes
        rw [HR.out]
        exact ⟨_, rfl, (HV9.out.four HL9.out _ _ _ _).mono HS.out, below_four HB9.out HL.out.1 _ _ _ _⟩

end Go.Proofs.YtjeaakkbkjhldaaGreatDoor
