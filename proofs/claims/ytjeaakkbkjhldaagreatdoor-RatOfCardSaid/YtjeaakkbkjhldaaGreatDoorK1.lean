import Derived.Lib.ItoaNum
namespace Go.Proofs.YtjeaakkbkjhldaaGreatDoor

/-- digit j of a list (0 beyond its end) -/
def dg (xs : List Int) (j : Nat) : Int := xs.getD j 0
/-- the value of digits, the lowest first, to a base -/
def val (B : Int) : List Int → Int
  | [] => 0
  | x :: xs => x + B * val B xs
/-- all digits are in range -/
def Dgs (B : Int) (xs : List Int) : Prop := ∀ x, x ∈ xs → 0 ≤ x ∧ x < B

theorem dg_lt {B : Int} {xs : List Int} (hB : 0 < B) (h : Dgs B xs) (j : Nat) : 0 ≤ dg xs j ∧ dg xs j < B := by
  unfold dg
  rw [List.getD_eq_getElem?_getD]
  cases hj : xs[j]? with
  | none => simp; exact hB
  | some x => exact h x (List.mem_of_getElem? hj)
theorem dg_nil (j : Nat) : dg [] j = 0 := by simp [dg]
theorem dg_cons_zero (x : Int) (xs : List Int) : dg (x :: xs) 0 = x := rfl
theorem dg_cons_succ (x : Int) (xs : List Int) (j : Nat) : dg (x :: xs) (j + 1) = dg xs j := rfl
theorem dg_ge {xs : List Int} {j : Nat} (h : xs.length ≤ j) : dg xs j = 0 := by
  unfold dg; rw [List.getD_eq_getElem?_getD, List.getElem?_eq_none h]; rfl
theorem dg_set (xs : List Int) (i j : Nat) (x : Int) : dg (xs.set i x) j = if i = j ∧ i < xs.length then x else dg xs j := by
  unfold dg
  rw [List.getD_eq_getElem?_getD, List.getD_eq_getElem?_getD, List.getElem?_set]
  by_cases h : i = j
  · subst h
    by_cases h2 : i < xs.length
    · simp [h2]
    · simp [h2]
  · simp [h]
theorem dg_set_ne (xs : List Int) {i j : Nat} (x : Int) (h : i ≠ j) : dg (xs.set i x) j = dg xs j := by
  rw [dg_set, if_neg (fun h2 => h h2.1)]
theorem dg_set_eq (xs : List Int) {i : Nat} (x : Int) (h : i < xs.length) : dg (xs.set i x) i = x := by
  rw [dg_set, if_pos ⟨rfl, h⟩]
theorem dg_take (xs : List Int) (k j : Nat) : dg (xs.take k) j = if j < k then dg xs j else 0 := by
  unfold dg
  rw [List.getD_eq_getElem?_getD, List.getD_eq_getElem?_getD, List.getElem?_take]
  split <;> simp
theorem dg_drop (xs : List Int) (k j : Nat) : dg (xs.drop k) j = dg xs (k + j) := by
  unfold dg
  rw [List.getD_eq_getElem?_getD, List.getD_eq_getElem?_getD, List.getElem?_drop]
theorem dg_append_lt {xs ys : List Int} {j : Nat} (h : j < xs.length) : dg (xs ++ ys) j = dg xs j := by
  unfold dg
  rw [List.getD_eq_getElem?_getD, List.getD_eq_getElem?_getD, List.getElem?_append_left h]
theorem dg_append_ge {xs ys : List Int} {j : Nat} (h : xs.length ≤ j) : dg (xs ++ ys) j = dg ys (j - xs.length) := by
  unfold dg
  rw [List.getD_eq_getElem?_getD, List.getD_eq_getElem?_getD, List.getElem?_append_right h]
theorem dg_getElem {xs : List Int} {j : Nat} (h : j < xs.length) : xs[j]? = some (dg xs j) := by
  unfold dg
  rw [List.getD_eq_getElem?_getD, List.getElem?_eq_getElem h]; rfl
theorem dg_replicate (n j : Nat) : dg (List.replicate n 0) j = 0 := by
  unfold dg
  rw [List.getD_eq_getElem?_getD, List.getElem?_replicate]
  split <;> rfl
theorem dg_ext {xs ys : List Int} (hl : xs.length = ys.length) (h : ∀ j, j < xs.length → dg xs j = dg ys j) : xs = ys := by
  apply List.ext_getElem? 
  intro j
  by_cases hj : j < xs.length
  · rw [dg_getElem hj, dg_getElem (hl ▸ hj), h j hj]
  · rw [List.getElem?_eq_none (by omega), List.getElem?_eq_none (by omega)]

theorem Dgs.mk {B : Int} {xs : List Int} (h : ∀ j, j < xs.length → 0 ≤ dg xs j ∧ dg xs j < B) : Dgs B xs := by
  intro x hx
  obtain ⟨j, hj, rfl⟩ := List.getElem_of_mem hx
  have := h j hj
  have e := dg_getElem hj
  rw [List.getElem?_eq_getElem hj] at e
  rw [Option.some.inj e]; exact this
theorem Dgs.nil (B : Int) : Dgs B [] := fun _ h => by simp at h
theorem Dgs.set {B : Int} {xs : List Int} (h : Dgs B xs) (i : Nat) {x : Int} (h0 : 0 ≤ x) (h1 : x < B) : Dgs B (xs.set i x) := by
  intro y hy
  rcases List.mem_or_eq_of_mem_set hy with h2 | h2
  · exact h y h2
  · subst h2; exact ⟨h0, h1⟩
theorem Dgs.take {B : Int} {xs : List Int} (h : Dgs B xs) (k : Nat) : Dgs B (xs.take k) := fun x hx => h x (List.mem_of_mem_take hx)
theorem Dgs.drop {B : Int} {xs : List Int} (h : Dgs B xs) (k : Nat) : Dgs B (xs.drop k) := fun x hx => h x (List.mem_of_mem_drop hx)
theorem Dgs.append {B : Int} {xs ys : List Int} (h : Dgs B xs) (h' : Dgs B ys) : Dgs B (xs ++ ys) := by
  intro x hx
  rcases List.mem_append.1 hx with h2 | h2
  · exact h x h2
  · exact h' x h2
theorem Dgs.replicate {B : Int} (hB : 0 < B) (n : Nat) : Dgs B (List.replicate n 0) := by
  intro x hx
  rw [(List.mem_replicate.1 hx).2]; exact ⟨Int.le_refl _, hB⟩
theorem Dgs.cons {B : Int} {x : Int} {xs : List Int} : Dgs B (x :: xs) ↔ (0 ≤ x ∧ x < B) ∧ Dgs B xs := by
  unfold Dgs
  constructor
  · intro h; exact ⟨h x (by simp), fun y hy => h y (by simp [hy])⟩
  · intro ⟨h1, h2⟩ y hy
    rcases List.mem_cons.1 hy with rfl | h3
    · exact h1
    · exact h2 y h3

/-! ### values -/
theorem val_append (B : Int) (xs ys : List Int) : val B (xs ++ ys) = val B xs + B ^ xs.length * val B ys := by
  induction xs with
  | nil => simp [val]
  | cons x xs ih =>
    simp only [List.cons_append, val, List.length_cons, Int.pow_succ, ih]
    grind
theorem val_take_succ (B : Int) (xs : List Int) (k : Nat) : val B (xs.take (k + 1)) = val B (xs.take k) + B ^ k * dg xs k := by
  by_cases h : k < xs.length
  · rw [List.take_succ_eq_append_getElem h, val_append, List.length_take, Nat.min_eq_left (by omega)]
    have e := dg_getElem h
    rw [List.getElem?_eq_getElem h] at e
    rw [Option.some.inj e]
    simp [val]
  · rw [List.take_of_length_le (by omega), List.take_of_length_le (by omega), dg_ge (by omega)]
    simp
theorem val_set_take (B : Int) (xs : List Int) (i : Nat) (x : Int) {k : Nat} (h : k ≤ i) : val B ((xs.set i x).take k) = val B (xs.take k) := by
  rw [List.take_set_of_le h]
theorem val_set (B : Int) (xs : List Int) (i : Nat) (x : Int) (h : i < xs.length) : val B (xs.set i x) = val B xs + B ^ i * (x - dg xs i) := by
  induction xs generalizing i with
  | nil => simp at h
  | cons y ys ih =>
    cases i with
    | zero => simp [val, dg_cons_zero]; omega
    | succ i =>
      simp only [List.set_cons_succ, val, dg_cons_succ]
      rw [ih i (by simpa using h), Int.pow_succ]
      grind
theorem val_replicate (B : Int) (n : Nat) : val B (List.replicate n 0) = 0 := by
  induction n with
  | zero => rfl
  | succ n ih => simp [List.replicate_succ, val, ih]
theorem pow_pos' {B : Int} (hB : 0 < B) (k : Nat) : 0 < B ^ k := Int.pow_pos hB
theorem val_nonneg {B : Int} (hB : 0 < B) {xs : List Int} (h : Dgs B xs) : 0 ≤ val B xs := by
  induction xs with
  | nil => simp [val]
  | cons x xs ih =>
    have := Dgs.cons.1 h
    have h2 := ih this.2
    simp only [val]
    have := Int.mul_nonneg (Int.le_of_lt hB) h2
    omega
theorem val_lt {B : Int} (hB : 0 < B) {xs : List Int} (h : Dgs B xs) : val B xs < B ^ xs.length := by
  induction xs with
  | nil => simp [val]
  | cons x xs ih =>
    have h1 := Dgs.cons.1 h
    have h2 := ih h1.2
    simp only [val, List.length_cons, Int.pow_succ]
    have h3 : B * (val B xs + 1) ≤ B * B ^ xs.length := Int.mul_le_mul_of_nonneg_left (by omega) (Int.le_of_lt hB)
    rw [Int.mul_add, Int.mul_one] at h3
    rw [Int.mul_comm (B ^ xs.length) B]
    omega
theorem val_take_drop (B : Int) (xs : List Int) (k : Nat) (h : k ≤ xs.length) : val B xs = val B (xs.take k) + B ^ k * val B (xs.drop k) := by
  have := val_append B (xs.take k) (xs.drop k)
  rw [List.take_append_drop, List.length_take, Nat.min_eq_left h] at this
  exact this
theorem val_eq_of_dg {B : Int} {xs ys : List Int} (h : ∀ j, dg xs j = dg ys j) : val B xs = val B ys := by
  have e1 : val B xs = val B (xs.take (xs.length + ys.length)) := by rw [List.take_of_length_le (by omega)]
  have e2 : val B ys = val B (ys.take (xs.length + ys.length)) := by rw [List.take_of_length_le (by omega)]
  rw [e1, e2]
  generalize xs.length + ys.length = n
  induction n with
  | zero => simp
  | succ n ih => rw [val_take_succ, val_take_succ, ih, h]

/-! ### the normal form -/
/-- how many digits are left when the zeros at the end are cut -/
def nlen (xs : List Int) : Nat → Nat
  | 0 => 0
  | n + 1 => if dg xs n = 0 then nlen xs n else n + 1
theorem nlen_le (xs : List Int) : ∀ n, nlen xs n ≤ n
  | 0 => Nat.le_refl _
  | n + 1 => by unfold nlen; split; exact Nat.le_succ_of_le (nlen_le xs n); exact Nat.le_refl _
theorem val_nlen (B : Int) (xs : List Int) : ∀ n, val B (xs.take (nlen xs n)) = val B (xs.take n)
  | 0 => rfl
  | n + 1 => by
    unfold nlen
    split
    · rename_i h; rw [val_nlen B xs n, val_take_succ, h]; simp
    · rfl
theorem dg_nlen (xs : List Int) : ∀ n, 0 < nlen xs n → dg xs (nlen xs n - 1) ≠ 0
  | 0, h => by simp [nlen] at h
  | n + 1, h => by
    unfold nlen at h ⊢
    split
    · rename_i h2; rw [if_pos h2] at h; exact dg_nlen xs n h
    · rename_i h2; simpa using h2
/-- no zero at the end -/
def Nrm (xs : List Int) : Prop := xs ≠ [] → dg xs (xs.length - 1) ≠ 0
theorem Nrm.nil : Nrm [] := fun h => absurd rfl h
theorem Nrm.nlen {xs : List Int} {n : Nat} (h : n ≤ xs.length) : Nrm (xs.take (nlen xs n)) := by
  intro h0
  have hle := nlen_le xs n
  rw [List.length_take, Nat.min_eq_left (by omega), dg_take, if_pos]
  · refine dg_nlen xs n ?_
    rcases Nat.eq_zero_or_pos (Go.Proofs.YtjeaakkbkjhldaaGreatDoor.nlen xs n) with h1 | h1
    · rw [h1] at h0; simp at h0
    · exact h1
  · rcases Nat.eq_zero_or_pos (Go.Proofs.YtjeaakkbkjhldaaGreatDoor.nlen xs n) with h1 | h1
    · rw [h1] at h0; simp at h0
    · omega
theorem nlen_of_nrm {xs : List Int} (h : Nrm xs) : Go.Proofs.YtjeaakkbkjhldaaGreatDoor.nlen xs xs.length = xs.length := by
  cases hn : xs.length with
  | zero => rfl
  | succ n =>
    unfold Go.Proofs.YtjeaakkbkjhldaaGreatDoor.nlen
    have := h (by intro e; rw [e] at hn; simp at hn)
    rw [hn] at this
    rw [if_neg (by simpa using this)]
theorem Nrm.val_ge {B : Int} (hB : 0 < B) {xs : List Int} (h : Nrm xs) (hd : Dgs B xs) (h0 : xs ≠ []) : B ^ (xs.length - 1) ≤ val B xs := by
  obtain ⟨n, hn⟩ : ∃ n, xs.length = n + 1 := ⟨xs.length - 1, by have := List.length_pos_iff.2 h0; omega⟩
  have e : val B xs = val B (xs.take (n + 1)) := by rw [List.take_of_length_le (by omega)]
  have h1 := h h0
  have h2 := (dg_lt hB hd (xs.length - 1)).1
  rw [e, val_take_succ]
  rw [hn] at h1 h2 ⊢
  simp only [Nat.add_sub_cancel] at h1 h2 ⊢
  have h3 := val_nonneg hB (hd.take n)
  have h4 : B ^ n * 1 ≤ B ^ n * dg xs n := Int.mul_le_mul_of_nonneg_left (by omega) (Int.le_of_lt (pow_pos' hB n))
  omega
theorem Nrm.val_pos {B : Int} (hB : 0 < B) {xs : List Int} (h : Nrm xs) (hd : Dgs B xs) (h0 : xs ≠ []) : 0 < val B xs :=
  Int.lt_of_lt_of_le (pow_pos' hB _) (h.val_ge hB hd h0)
theorem Nrm.val_zero {B : Int} (hB : 0 < B) {xs : List Int} (h : Nrm xs) (hd : Dgs B xs) : val B xs = 0 ↔ xs = [] := by
  constructor
  · intro h1
    by_cases h0 : xs = []
    · exact h0
    · have := h.val_pos hB hd h0; omega
  · rintro rfl; rfl
theorem pow_le_pow' {B : Int} (hB : 1 ≤ B) {m n : Nat} (h : m ≤ n) : B ^ m ≤ B ^ n := by
  obtain ⟨d, rfl⟩ := Nat.exists_eq_add_of_le h
  rw [Int.pow_add]
  have h1 := pow_pos' (B := B) (by omega) m
  have h2 := pow_pos' (B := B) (by omega) d
  have : B ^ m * 1 ≤ B ^ m * B ^ d := Int.mul_le_mul_of_nonneg_left (by omega) (by omega)
  omega
theorem Nrm.lt_of_len {B : Int} (hB : 1 < B) {xs ys : List Int} (hx : Dgs B xs) (hy : Dgs B ys) (h : Nrm ys) (hl : xs.length < ys.length) : val B xs < val B ys := by
  have h1 := val_lt (by omega) hx
  have h2 := h.val_ge (by omega) hy (by intro e; subst e; simp at hl)
  have h3 : B ^ xs.length ≤ B ^ (ys.length - 1) := pow_le_pow' (by omega) (by omega)
  omega
/-- equal digits above i, the one at i less: the value is less -/
theorem val_lt_at {B : Int} (hB : 0 < B) {xs ys : List Int} (hx : Dgs B xs) (hy : Dgs B ys) {i : Nat} (hi : dg xs i < dg ys i) (ha : ∀ j, i < j → dg xs j = dg ys j) : val B xs < val B ys := by
  have key : ∀ n, val B (xs.take (i + 1 + n)) < val B (ys.take (i + 1 + n)) := by
    intro n
    induction n with
    | zero =>
      simp only [Nat.add_zero]
      rw [val_take_succ, val_take_succ]
      have h1 := val_lt hB (hx.take i)
      have h2 := val_nonneg hB (hy.take i)
      have h3 : B ^ (xs.take i).length ≤ B ^ i := by
        by_cases hB1 : B = 1
        · subst hB1; simp [Int.one_pow]
        · exact pow_le_pow' (by omega) (by rw [List.length_take]; omega)
      have h4 : B ^ i * (dg xs i + 1) ≤ B ^ i * dg ys i := Int.mul_le_mul_of_nonneg_left (by omega) (Int.le_of_lt (pow_pos' hB i))
      rw [Int.mul_add, Int.mul_one] at h4
      omega
    | succ n ih =>
      rw [← Nat.add_assoc, val_take_succ, val_take_succ, ha _ (by omega)]
      omega
  have h := key (xs.length + ys.length)
  rw [List.take_of_length_le (by omega), List.take_of_length_le (by omega)] at h
  exact h
theorem Nrm.inj {B : Int} (hB : 1 < B) {xs ys : List Int} (hx : Dgs B xs) (hy : Dgs B ys) (nx : Nrm xs) (ny : Nrm ys) (h : val B xs = val B ys) : xs = ys := by
  have hl : xs.length = ys.length := by
    rcases Nat.lt_trichotomy xs.length ys.length with h1 | h1 | h1
    · have := ny.lt_of_len hB hx hy h1; omega
    · exact h1
    · have := nx.lt_of_len hB hy hx h1; omega
  refine dg_ext hl ?_
  -- the highest place where they differ
  have key : ∀ n, n ≤ xs.length → (∀ j, xs.length - n ≤ j → dg xs j = dg ys j) := by
    intro n
    induction n with
    | zero => intro _ j hj; rw [dg_ge (by omega), dg_ge (by omega)]
    | succ n ih =>
      intro hn j hj
      have ih' := ih (by omega)
      by_cases hj2 : xs.length - n ≤ j
      · exact ih' j hj2
      · have : j = xs.length - (n + 1) := by omega
        subst this
        rcases Int.lt_trichotomy (dg xs (xs.length - (n + 1))) (dg ys (xs.length - (n + 1))) with h1 | h1 | h1
        · have := val_lt_at (by omega) hx hy h1 (fun j hj => ih' j (by omega)); omega
        · exact h1
        · have := val_lt_at (by omega) hy hx h1 (fun j hj => (ih' j (by omega)).symm); omega
  intro j hj
  exact key xs.length (Nat.le_refl _) j (by omega)

end Go.Proofs.YtjeaakkbkjhldaaGreatDoor

namespace Go.Proofs.YtjeaakkbkjhldaaGreatDoor

/-! ### sums, digit by digit -/
structure PlusInv (B : Int) (xs ys os : List Int) (k : Nat) (c : Int) : Prop where
  c0 : 0 ≤ c
  c1 : c ≤ 1
  dig : Dgs B os
  eq : val B (os.take k) + B ^ k * c = val B (xs.take k) + val B (ys.take k)
theorem PlusInv.start (B : Int) (hB : 0 < B) (xs ys : List Int) (n : Nat) : PlusInv B xs ys (List.replicate n 0) 0 0 :=
  ⟨Int.le_refl _, by omega, Dgs.replicate hB n, by simp [val]⟩
theorem div_mod_bd {B t : Int} (hB : 0 < B) : 0 ≤ t % B ∧ t % B < B ∧ B * (t / B) + t % B = t :=
  ⟨Int.emod_nonneg _ (by omega), Int.emod_lt_of_pos _ hB, Int.mul_ediv_add_emod t B⟩
theorem PlusInv.step {B : Int} (hB : 1 < B) {xs ys os : List Int} {k : Nat} {c : Int} (h : PlusInv B xs ys os k c) (hx : Dgs B xs) (hy : Dgs B ys) (hk : k < os.length)
    {t d c' : Int} (ht : t = c + dg xs k + dg ys k) (hd : d = t % B) (hc : c' = t / B) : PlusInv B xs ys (os.set k d) (k + 1) c' := by
  have h1 := dg_lt (by omega) hx k
  have h2 := dg_lt (by omega) hy k
  obtain ⟨e1, e2, e3⟩ := div_mod_bd (t := t) (B := B) (by omega)
  have h3 := h.c0
  have h4 := h.c1
  refine ⟨?_, ?_, h.dig.set k (by omega) (by omega), ?_⟩
  · rw [hc]; exact Int.ediv_nonneg (by omega) (by omega)
  · rw [hc]
    have : t < 2 * B := by omega
    have : t / B < 2 := Int.ediv_lt_of_lt_mul (by omega) (by omega)
    omega
  · have h5 := h.eq
    rw [val_take_succ, val_take_succ, val_take_succ, val_set_take _ _ _ _ (Nat.le_refl _), dg_set_eq _ _ hk, Int.pow_succ]
    subst hd hc
    have : B ^ k * (t % B) + B ^ k * B * (t / B) = B ^ k * t := by
      rw [Int.mul_assoc, ← Int.mul_add]; congr 1; omega
    have e4 : B ^ k * t = B ^ k * c + B ^ k * dg xs k + B ^ k * dg ys k := by rw [ht, Int.mul_add, Int.mul_add]
    omega
/-- the last digit -/
theorem PlusInv.done {B : Int} (hB : 1 < B) {xs ys os : List Int} {n : Nat} {c : Int} (h : PlusInv B xs ys os n c) (hx : xs.length = n) (hy : ys.length ≤ n) (ho : os.length = n + 1) {d : Int} (hd : d = c) :
    Dgs B (os.set n d) ∧ val B (os.set n d) = val B xs + val B ys := by
  have h3 := h.c0
  have h4 := h.c1
  refine ⟨h.dig.set n (by omega) (by omega), ?_⟩
  have e : val B (os.set n d) = val B ((os.set n d).take (n + 1)) := by rw [List.take_of_length_le (by simp; omega)]
  have h5 := h.eq
  rw [List.take_of_length_le (l := xs) (by omega), List.take_of_length_le (l := ys) hy] at h5
  rw [e, val_take_succ, val_set_take _ _ _ _ (Nat.le_refl _), dg_set_eq _ _ (by omega), hd]
  exact h5

/-! ### differences, digit by digit -/
structure MinusInv (B : Int) (xs ys os : List Int) (k : Nat) (c : Int) : Prop where
  c0 : -1 ≤ c
  c1 : c ≤ 0
  dig : Dgs B os
  eq : val B (os.take k) + B ^ k * c = val B (xs.take k) - val B (ys.take k)
theorem MinusInv.start (B : Int) (hB : 0 < B) (xs ys : List Int) (n : Nat) : MinusInv B xs ys (List.replicate n 0) 0 0 :=
  ⟨by omega, by omega, Dgs.replicate hB n, by simp [val]⟩
theorem MinusInv.step {B : Int} (hB : 1 < B) {xs ys os : List Int} {k : Nat} {c : Int} (h : MinusInv B xs ys os k c) (hx : Dgs B xs) (hy : Dgs B ys) (hk : k < os.length)
    {t d c' : Int} (ht : t = c + dg xs k - dg ys k) (hd : d = t % B) (hc : c' = t / B) : MinusInv B xs ys (os.set k d) (k + 1) c' := by
  have h1 := dg_lt (by omega) hx k
  have h2 := dg_lt (by omega) hy k
  obtain ⟨e1, e2, e3⟩ := div_mod_bd (t := t) (B := B) (by omega)
  have h3 := h.c0
  have h4 := h.c1
  refine ⟨?_, ?_, h.dig.set k (by omega) (by omega), ?_⟩
  · rw [hc]
    have : -1 * B ≤ t := by omega
    exact (Int.le_ediv_iff_mul_le (by omega)).2 this
  · rw [hc]
    have : t / B < 1 := Int.ediv_lt_of_lt_mul (by omega) (by omega)
    omega
  · have h5 := h.eq
    rw [val_take_succ, val_take_succ, val_take_succ, val_set_take _ _ _ _ (Nat.le_refl _), dg_set_eq _ _ hk, Int.pow_succ]
    subst hd hc
    have : B ^ k * (t % B) + B ^ k * B * (t / B) = B ^ k * t := by
      rw [Int.mul_assoc, ← Int.mul_add]; congr 1; omega
    have e4 : B ^ k * t = B ^ k * c + B ^ k * dg xs k - B ^ k * dg ys k := by rw [ht, Int.mul_sub, Int.mul_add]
    omega
theorem MinusInv.done {B : Int} (hB : 1 < B) {xs ys os : List Int} {n : Nat} {c : Int} (h : MinusInv B xs ys os n c) (hx : xs.length = n) (hy : ys.length ≤ n) (ho : os.length = n) (hle : val B ys ≤ val B xs) :
    Dgs B os ∧ val B os = val B xs - val B ys := by
  have h5 := h.eq
  rw [List.take_of_length_le (l := xs) (by omega), List.take_of_length_le (l := ys) hy, List.take_of_length_le (l := os) (by omega)] at h5
  have h3 := h.c0
  have h4 := h.c1
  have h6 := val_lt (by omega) h.dig
  rw [ho] at h6
  refine ⟨h.dig, ?_⟩
  have : c = 0 ∨ c = -1 := by omega
  rcases this with rfl | rfl
  · omega
  · rw [Int.mul_neg_one] at h5
    omega

end Go.Proofs.YtjeaakkbkjhldaaGreatDoor

namespace Go.Proofs.YtjeaakkbkjhldaaGreatDoor

theorem val_drop {B : Int} {xs : List Int} {k : Nat} (h : k < xs.length) : val B (xs.drop k) = dg xs k + B * val B (xs.drop (k + 1)) := by
  rw [List.drop_eq_getElem_cons h]
  have e := dg_getElem h
  rw [List.getElem?_eq_getElem h] at e
  rw [Option.some.inj e]; rfl
theorem drop_set_gt (xs : List Int) {i k : Nat} (x : Int) (h : i < k) : (xs.set i x).drop k = xs.drop k := by
  rw [List.drop_set_of_lt h]

/-! ### division by one digit, from the highest on -/
structure ShrinkInv (B by' : Int) (xs os : List Int) (k : Nat) (r : Int) : Prop where
  r0 : 0 ≤ r
  r1 : r < by'
  dig : Dgs B os
  same : ∀ j, j < k → dg os j = dg xs j
  len : os.length = xs.length
  eq : val B (xs.drop k) = by' * val B (os.drop k) + r
theorem ShrinkInv.start {B by' : Int} (hb : 0 < by') {xs : List Int} (hx : Dgs B xs) : ShrinkInv B by' xs xs xs.length 0 :=
  ⟨Int.le_refl _, hb, hx, fun _ _ => rfl, rfl, by rw [List.drop_of_length_le (Nat.le_refl _)]; simp [val]⟩
theorem ShrinkInv.step {B by' : Int} (hB : 0 < B) (hb : 0 < by') {xs os : List Int} {k : Nat} {r : Int} (h : ShrinkInv B by' xs os (k + 1) r) (hk : k < xs.length)
    {t q r' : Int} (ht : t = r * B + dg os k) (hq : q = t / by') (hr : r' = t % by') : ShrinkInv B by' xs (os.set k q) k r' ∧ 0 ≤ q ∧ q < B := by
  have h0 := h.r0
  have h1 := h.r1
  have h2 := dg_lt hB h.dig k
  have h3 := h.len
  have hrB : 0 ≤ r * B := Int.mul_nonneg h0 (Int.le_of_lt hB)
  have q0 : 0 ≤ q := by rw [hq]; exact Int.ediv_nonneg (by omega) (by omega)
  have q1 : q < B := by
    rw [hq]
    refine Int.ediv_lt_of_lt_mul hb ?_
    have : (r + 1) * B ≤ by' * B := Int.mul_le_mul_of_nonneg_right (by omega) (by omega)
    rw [Int.add_mul, Int.one_mul] at this
    rw [Int.mul_comm B by']
    omega
  refine ⟨⟨?_, ?_, h.dig.set k q0 q1, ?_, by rw [List.length_set]; exact h.len, ?_⟩, q0, q1⟩
  · rw [hr]; exact Int.emod_nonneg _ (by omega)
  · rw [hr]; exact Int.emod_lt_of_pos _ hb
  · intro j hj
    rw [dg_set_ne _ _ (by omega)]
    exact h.same j (by omega)
  · have e := h.eq
    rw [val_drop hk, val_drop (xs := os.set k q) (by rw [List.length_set]; omega), dg_set_eq _ _ (by omega), drop_set_gt _ _ (by omega), ← h.same k (by omega), e]
    have e2 := Int.mul_ediv_add_emod t by'
    rw [← hq, ← hr] at e2
    rw [Int.mul_add, Int.mul_add]
    have e3 : B * (by' * val B (os.drop (k + 1))) = by' * (B * val B (os.drop (k + 1))) := by grind
    have e4 : B * r = r * B := Int.mul_comm _ _
    omega
theorem ShrinkInv.done {B by' : Int} {xs os : List Int} {r : Int} (h : ShrinkInv B by' xs os 0 r) : val B os = val B xs / by' ∧ r = val B xs % by' := by
  have e := h.eq
  simp only [List.drop_zero] at e
  have h0 := h.r0
  have h1 := h.r1
  constructor
  · rw [e, Int.add_comm, Int.add_mul_ediv_left _ _ (by omega), Int.ediv_eq_zero_of_lt h0 h1, Int.zero_add]
  · rw [e, Int.mul_add_emod_self_left, Int.emod_eq_of_lt h0 h1]

/-! ### times a digit, plus a digit -/
structure GrowInv (B by' a : Int) (xs os : List Int) (k : Nat) (c : Int) : Prop where
  c0 : 0 ≤ c
  c1 : c < B
  dig : Dgs B os
  same : ∀ j, k ≤ j → dg os j = dg xs j
  eq : val B (os.take k) + B ^ k * c = by' * val B (xs.take k) + a
theorem GrowInv.start {B by' a : Int} {xs : List Int} (hx : Dgs B xs) (a0 : 0 ≤ a) (a1 : a < B) : GrowInv B by' a xs xs 0 a :=
  ⟨a0, a1, hx, fun _ _ => rfl, by simp [val]⟩
theorem mul_bd {B x y : Int} (x0 : 0 ≤ x) (x1 : x < B) (y0 : 0 ≤ y) (y1 : y < B) : 0 ≤ x * y ∧ x * y ≤ (B - 1) * (B - 1) := by
  refine ⟨Int.mul_nonneg x0 y0, ?_⟩
  have h1 : x * y ≤ (B - 1) * y := Int.mul_le_mul_of_nonneg_right (by omega) y0
  have h2 : (B - 1) * y ≤ (B - 1) * (B - 1) := Int.mul_le_mul_of_nonneg_left (by omega) (by omega)
  omega
theorem GrowInv.step {B by' a : Int} {xs os : List Int} {k : Nat} {c : Int} (h : GrowInv B by' a xs os k c) (b0 : 0 ≤ by') (b1 : by' < B) (hk : k < os.length)
    {t d c' : Int} (ht : t = c + dg os k * by') (hd : d = t % B) (hc : c' = t / B) : GrowInv B by' a xs (os.set k d) (k + 1) c' := by
  have h0 := h.c0
  have h1 := h.c1
  have h2 := dg_lt (by omega) h.dig k
  have h3 := mul_bd h2.1 h2.2 b0 b1
  obtain ⟨e1, e2, e3⟩ := div_mod_bd (t := t) (B := B) (by omega)
  have h4 : (B - 1) * (B - 1) + (B - 1) = (B - 1) * B := by grind
  refine ⟨?_, ?_, h.dig.set k (by omega) (by omega), ?_, ?_⟩
  · rw [hc]; exact Int.ediv_nonneg (by omega) (by omega)
  · rw [hc]
    refine Int.ediv_lt_of_lt_mul (by omega) ?_
    have : (B - 1) * B ≤ B * B - B := by rw [Int.sub_mul]; omega
    omega
  · intro j hj
    rw [dg_set_ne _ _ (by omega)]
    exact h.same j (by omega)
  · have h5 := h.eq
    rw [val_take_succ, val_take_succ, val_set_take _ _ _ _ (Nat.le_refl _), dg_set_eq _ _ hk, Int.pow_succ, ← h.same k (Nat.le_refl _)]
    subst hd hc
    have : B ^ k * (t % B) + B ^ k * B * (t / B) = B ^ k * t := by
      rw [Int.mul_assoc, ← Int.mul_add]; congr 1; omega
    have e4 : B ^ k * t = B ^ k * c + B ^ k * (dg os k * by') := by rw [ht, Int.mul_add]
    have e5 : by' * (val B (xs.take k) + B ^ k * dg os k) = by' * val B (xs.take k) + B ^ k * (dg os k * by') := by grind
    omega
theorem GrowInv.done {B by' a : Int} {xs os : List Int} {n : Nat} {c : Int} (h : GrowInv B by' a xs os n c) (hx : xs.length = n) (ho : os.length = n) : val B os + B ^ n * c = by' * val B xs + a := by
  have h5 := h.eq
  rw [List.take_of_length_le (l := xs) (by omega), List.take_of_length_le (l := os) (by omega)] at h5
  exact h5

/-! ### products -/
structure MulInv (B : Int) (xs ys os : List Int) (i : Nat) : Prop where
  dig : Dgs B os
  zero : ∀ t, i + ys.length ≤ t → dg os t = 0
  eq : val B os = val B (xs.take i) * val B ys
theorem MulInv.start {B : Int} (hB : 0 < B) (xs ys : List Int) (n : Nat) : MulInv B xs ys (List.replicate n 0) 0 :=
  ⟨Dgs.replicate hB n, fun t _ => dg_replicate n t, by simp [val_replicate, val]⟩
structure MulRow (B p : Int) (ys os0 os : List Int) (i j : Nat) (c : Int) : Prop where
  c0 : 0 ≤ c
  c1 : c < B
  dig : Dgs B os
  same : ∀ t, i + j ≤ t → dg os t = dg os0 t
  eq : val B os + B ^ (i + j) * c = val B os0 + B ^ i * (p * val B (ys.take j))
theorem MulRow.start {B p : Int} (hB : 0 < B) {ys os0 : List Int} (h : Dgs B os0) (i : Nat) : MulRow B p ys os0 os0 i 0 0 :=
  ⟨Int.le_refl _, hB, h, fun _ _ => rfl, by simp [val]⟩
theorem MulRow.step {B p : Int} {ys os0 os : List Int} {i j : Nat} {c : Int} (h : MulRow B p ys os0 os i j c) (p0 : 0 ≤ p) (p1 : p < B) (dy : Dgs B ys) (hk : i + j < os.length)
    {t d c' : Int} (ht : t = c + (p * dg ys j + dg os (i + j))) (hd : d = t % B) (hc : c' = t / B) : MulRow B p ys os0 (os.set (i + j) d) i (j + 1) c' := by
  have h0 := h.c0
  have h1 := h.c1
  have h2 := dg_lt (by omega) h.dig (i + j)
  have h2' := dg_lt (by omega) dy j
  have h3 := mul_bd p0 p1 h2'.1 h2'.2
  obtain ⟨e1, e2, e3⟩ := div_mod_bd (t := t) (B := B) (by omega)
  have h4 : (B - 1) * (B - 1) + (B - 1) + (B - 1) = B * B - 1 := by grind
  refine ⟨?_, ?_, h.dig.set (i + j) (by omega) (by omega), ?_, ?_⟩
  · rw [hc]; exact Int.ediv_nonneg (by omega) (by omega)
  · rw [hc]
    exact Int.ediv_lt_of_lt_mul (by omega) (by omega)
  · intro t' ht'
    rw [dg_set_ne _ _ (by omega)]
    exact h.same t' (by omega)
  · have h5 := h.eq
    rw [val_take_succ, val_set _ _ _ _ hk, ← Nat.add_assoc, Int.pow_succ]
    subst hd hc
    have : B ^ (i + j) * (t % B) + B ^ (i + j) * B * (t / B) = B ^ (i + j) * t := by
      rw [Int.mul_assoc, ← Int.mul_add]; congr 1; omega
    have e4 : B ^ (i + j) * t = B ^ (i + j) * c + (B ^ (i + j) * (p * dg ys j) + B ^ (i + j) * dg os (i + j)) := by rw [ht, Int.mul_add, Int.mul_add]
    have e5 : B ^ (i + j) * (t % B - dg os (i + j)) = B ^ (i + j) * (t % B) - B ^ (i + j) * dg os (i + j) := Int.mul_sub ..
    have e6 : B ^ i * (p * (val B (ys.take j) + B ^ j * dg ys j)) = B ^ i * (p * val B (ys.take j)) + B ^ (i + j) * (p * dg ys j) := by
      rw [Int.pow_add]; grind
    omega
theorem MulRow.done {B : Int} {xs ys os0 os : List Int} {i j : Nat} {c : Int} (h : MulRow B (dg xs i) ys os0 os i j c) (h0 : MulInv B xs ys os0 i) (hj : ys.length = j) (hk : i + j < os.length) {d : Int} (hd : d = c) :
    MulInv B xs ys (os.set (i + j) d) (i + 1) := by
  subst hd hj
  have z : dg os (i + ys.length) = 0 := by rw [h.same _ (Nat.le_refl _), h0.zero _ (Nat.le_refl _)]
  refine ⟨h.dig.set _ h.c0 h.c1, ?_, ?_⟩
  · intro t ht
    rw [dg_set_ne _ _ (by omega), h.same _ (by omega), h0.zero _ (by omega)]
  · have h5 := h.eq
    have h6 := h0.eq
    rw [List.take_of_length_le (l := ys) (Nat.le_refl _)] at h5
    rw [val_set _ _ _ _ hk, z, val_take_succ, Int.sub_zero, h5, h6, Int.add_mul]
    grind
end Go.Proofs.YtjeaakkbkjhldaaGreatDoor

namespace Go.Proofs.YtjeaakkbkjhldaaGreatDoor

theorem drop_set_add (xs : List Int) (j i : Nat) (x : Int) : (xs.set (j + i) x).drop j = (xs.drop j).set i x := by
  apply List.ext_getElem?
  intro t
  rw [List.getElem?_drop, List.getElem?_set, List.getElem?_set, List.getElem?_drop, List.length_drop]
  by_cases h : i = t
  · subst h
    simp only [if_true]
    by_cases h2 : j + i < xs.length
    · rw [if_pos h2, if_pos (by omega)]
    · rw [if_neg h2, if_neg (by omega)]
  · rw [if_neg (by omega), if_neg h]
theorem val_seg_succ (B : Int) (xs : List Int) (j i : Nat) : val B ((xs.drop j).take (i + 1)) = val B ((xs.drop j).take i) + B ^ i * dg xs (j + i) := by
  rw [val_take_succ, dg_drop]
theorem val_seg_set (B : Int) (xs : List Int) (j i : Nat) (x : Int) (h : j + i < xs.length) : val B (((xs.set (j + i) x).drop j).take (i + 1)) = val B ((xs.drop j).take i) + B ^ i * x := by
  rw [val_seg_succ, dg_set_eq _ _ h, drop_set_add, List.take_set_of_le (Nat.le_refl _)]

/-! ### subtracting q times d from a stretch -/
structure TakesInv (B q : Int) (ds xs os : List Int) (j i : Nat) (cy bw : Int) : Prop where
  c0 : 0 ≤ cy
  c1 : cy < B
  w0 : -1 ≤ bw
  w1 : bw ≤ 0
  dig : Dgs B os
  same : ∀ t, t < j ∨ j + i ≤ t → dg os t = dg xs t
  zero : ds.length < i → cy = 0
  len : os.length = xs.length
  eq : val B ((os.drop j).take i) + B ^ i * bw - B ^ i * cy = val B ((xs.drop j).take i) - q * val B (ds.take i)
theorem TakesInv.start {B q : Int} (hB : 0 < B) {ds xs : List Int} (hx : Dgs B xs) (j : Nat) : TakesInv B q ds xs xs j 0 0 0 :=
  ⟨Int.le_refl _, hB, by omega, by omega, hx, fun _ _ => rfl, fun h => by omega, rfl, by simp [val]⟩
theorem TakesInv.step {B q : Int} {ds xs os : List Int} {j i : Nat} {cy bw : Int} (h : TakesInv B q ds xs os j i cy bw) (q0 : 0 ≤ q) (q1 : q < B) (dd : Dgs B ds) (hk : j + i < os.length)
    {t u d c' b' : Int} (ht : t = cy + q * dg ds i) (hu : u = bw + (dg os (j + i) - t % B)) (hd : d = u % B) (hc : c' = t / B) (hb : b' = u / B) : TakesInv B q ds xs (os.set (j + i) d) j (i + 1) c' b' := by
  have h0 := h.c0
  have h1 := h.c1
  have g0 := h.w0
  have g1 := h.w1
  have h2 := dg_lt (by omega) h.dig (j + i)
  have h2' := dg_lt (by omega) dd i
  have h3 := mul_bd q0 q1 h2'.1 h2'.2
  obtain ⟨e1, e2, e3⟩ := div_mod_bd (t := t) (B := B) (by omega)
  obtain ⟨f1, f2, f3⟩ := div_mod_bd (t := u) (B := B) (by omega)
  have h4 : (B - 1) * (B - 1) + (B - 1) + (B - 1) = B * B - 1 := by grind
  refine ⟨?_, ?_, ?_, ?_, h.dig.set _ (by omega) (by omega), ?_, ?_, by rw [List.length_set]; exact h.len, ?_⟩
  · rw [hc]; exact Int.ediv_nonneg (by omega) (by omega)
  · rw [hc]; exact Int.ediv_lt_of_lt_mul (by omega) (by omega)
  · rw [hb]
    have : -1 * B ≤ u := by omega
    exact (Int.le_ediv_iff_mul_le (by omega)).2 this
  · rw [hb]
    have : u / B < 1 := Int.ediv_lt_of_lt_mul (by omega) (by omega)
    omega
  · intro t' ht'
    rw [dg_set_ne _ _ (by omega)]
    exact h.same t' (by omega)
  · intro hz
    rw [hc, ht, dg_ge (by omega : ds.length ≤ i), Int.mul_zero, Int.add_zero]
    exact Int.ediv_eq_zero_of_lt h0 h1
  · have h5 := h.eq
    rw [val_seg_set _ _ _ _ _ hk, val_seg_succ, val_take_succ, Int.pow_succ, ← h.same (j + i) (by omega)]
    subst hd hc hb
    have a1 : B ^ i * (u % B) + B ^ i * B * (u / B) = B ^ i * u := by
      rw [Int.mul_assoc, ← Int.mul_add]; congr 1; omega
    have a2 : B ^ i * (t % B) + B ^ i * B * (t / B) = B ^ i * t := by
      rw [Int.mul_assoc, ← Int.mul_add]; congr 1; omega
    have a3 : B ^ i * t = B ^ i * cy + B ^ i * (q * dg ds i) := by rw [ht, Int.mul_add]
    have a4 : B ^ i * u = B ^ i * bw + (B ^ i * dg os (j + i) - B ^ i * (t % B)) := by rw [hu, Int.mul_add, Int.mul_sub]
    have a5 : q * (val B (ds.take i) + B ^ i * dg ds i) = q * val B (ds.take i) + B ^ i * (q * dg ds i) := by grind
    omega
theorem TakesInv.done {B q : Int} {ds xs os : List Int} {j m : Nat} {cy bw : Int} (h : TakesInv B q ds xs os j m cy bw) (hd : ds.length < m) :
    val B ((os.drop j).take m) + B ^ m * bw = val B ((xs.drop j).take m) - q * val B ds := by
  have e := h.eq
  rw [h.zero hd, Int.mul_zero, List.take_of_length_le (l := ds) (by omega)] at e
  omega

/-! ### adding d back to a stretch -/
structure GivesInv (B : Int) (ds xs os : List Int) (j i : Nat) (cy : Int) : Prop where
  c0 : 0 ≤ cy
  c1 : cy ≤ 1
  dig : Dgs B os
  same : ∀ t, t < j ∨ j + i ≤ t → dg os t = dg xs t
  len : os.length = xs.length
  eq : val B ((os.drop j).take i) + B ^ i * cy = val B ((xs.drop j).take i) + val B (ds.take i)
theorem GivesInv.start {B : Int} {ds xs : List Int} (hx : Dgs B xs) (j : Nat) : GivesInv B ds xs xs j 0 0 :=
  ⟨Int.le_refl _, by omega, hx, fun _ _ => rfl, rfl, by simp [val]⟩
theorem GivesInv.step {B : Int} (hB : 1 < B) {ds xs os : List Int} {j i : Nat} {cy : Int} (h : GivesInv B ds xs os j i cy) (dd : Dgs B ds) (hk : j + i < os.length)
    {t d c' : Int} (ht : t = cy + dg os (j + i) + dg ds i) (hd : d = t % B) (hc : c' = t / B) : GivesInv B ds xs (os.set (j + i) d) j (i + 1) c' := by
  have h0 := h.c0
  have h1 := h.c1
  have h2 := dg_lt (by omega) h.dig (j + i)
  have h2' := dg_lt (by omega) dd i
  obtain ⟨e1, e2, e3⟩ := div_mod_bd (t := t) (B := B) (by omega)
  refine ⟨?_, ?_, h.dig.set _ (by omega) (by omega), ?_, by rw [List.length_set]; exact h.len, ?_⟩
  · rw [hc]; exact Int.ediv_nonneg (by omega) (by omega)
  · rw [hc]
    have : t / B < 2 := Int.ediv_lt_of_lt_mul (by omega) (by omega)
    omega
  · intro t' ht'
    rw [dg_set_ne _ _ (by omega)]
    exact h.same t' (by omega)
  · have h5 := h.eq
    rw [val_seg_set _ _ _ _ _ hk, val_seg_succ, val_take_succ, Int.pow_succ, ← h.same (j + i) (by omega)]
    subst hd hc
    have a2 : B ^ i * (t % B) + B ^ i * B * (t / B) = B ^ i * t := by
      rw [Int.mul_assoc, ← Int.mul_add]; congr 1; omega
    have a3 : B ^ i * t = B ^ i * cy + B ^ i * dg os (j + i) + B ^ i * dg ds i := by rw [ht, Int.mul_add, Int.mul_add]
    omega
theorem GivesInv.done {B : Int} {ds xs os : List Int} {j m : Nat} {cy : Int} (h : GivesInv B ds xs os j m cy) (hd : ds.length ≤ m) :
    val B ((os.drop j).take m) + B ^ m * cy = val B ((xs.drop j).take m) + val B ds := by
  have e := h.eq
  rw [List.take_of_length_le (l := ds) (by omega)] at e
  exact e

/-! ### moving up by some bits: p = 2^by, p less than the base -/
structure ShiftInv (B p : Int) (xs os : List Int) (i : Nat) : Prop where
  dig : Dgs B os
  top : dg os i < p
  zero : ∀ t, i < t → dg os t = 0
  eq : val B (os.take (i + 1)) = p * val B (xs.take i)
theorem ShiftInv.start {B p : Int} (hB : 0 < B) (hp : 0 < p) (xs : List Int) {n : Nat} : ShiftInv B p xs (List.replicate (n + 1) 0) 0 := by
  refine ⟨Dgs.replicate hB _, by rw [dg_replicate]; exact hp, fun t _ => dg_replicate _ t, ?_⟩
  rw [val_take_succ, dg_replicate]; simp [val]
/-- B = p * m: the digit's lower part times p fits beside what came up; its upper part goes on. -/
theorem ShiftInv.step {B p m : Int} (hB : B = p * m) (hp : 0 < p) (hm : 0 < m) {xs os : List Int} {i : Nat} (h : ShiftInv B p xs os i) (hx : Dgs B xs) (hk : i + 1 < os.length)
    {d u : Int} (hd : d = dg os i + (dg xs i * p) % B) (hu : u = (dg xs i * p) / B) : ShiftInv B p xs ((os.set i d).set (i + 1) u) (i + 1) ∧ 0 ≤ d ∧ d < B ∧ 0 ≤ u ∧ u < p := by
  have hB0 : 0 < B := by rw [hB]; exact Int.mul_pos hp hm
  have h1 := dg_lt hB0 hx i
  have h2 := dg_lt hB0 h.dig i
  have h3 := h.top
  have x0 : 0 ≤ dg xs i * p := Int.mul_nonneg h1.1 (Int.le_of_lt hp)
  obtain ⟨e1, e2, e3⟩ := div_mod_bd (t := dg xs i * p) hB0
  have u0 : 0 ≤ u := by rw [hu]; exact Int.ediv_nonneg x0 (Int.le_of_lt hB0)
  have u1 : u < p := by
    rw [hu]
    refine Int.ediv_lt_of_lt_mul hB0 ?_
    rw [Int.mul_comm p B]
    exact Int.mul_lt_mul_of_pos_right h1.2 hp
  -- the lower part is a multiple of p below B
  have hmul : ∃ z, (dg xs i * p) % B = p * z ∧ z ≤ m - 1 := by
    refine ⟨dg xs i - m * (dg xs i * p / B), ?_, ?_⟩
    · have : B * (dg xs i * p / B) = p * (m * (dg xs i * p / B)) := by rw [hB]; exact Int.mul_assoc ..
      rw [Int.mul_sub, ← this, Int.mul_comm p (dg xs i)]; omega
    · have : p * (dg xs i - m * (dg xs i * p / B)) < p * m := by
        have e : B * (dg xs i * p / B) = p * (m * (dg xs i * p / B)) := by
          conv => lhs; lhs; rw [hB]
          exact Int.mul_assoc ..
        rw [Int.mul_sub, ← e, Int.mul_comm p (dg xs i), ← hB]; omega
      have := Int.lt_of_mul_lt_mul_left this (Int.le_of_lt hp)
      omega
  have d1 : d < B := by
    obtain ⟨z, hz, hz1⟩ := hmul
    have : p * z ≤ p * (m - 1) := Int.mul_le_mul_of_nonneg_left hz1 (Int.le_of_lt hp)
    rw [Int.mul_sub, Int.mul_one, ← hB] at this
    rw [hd, hz]; omega
  have d0 : 0 ≤ d := by omega
  refine ⟨⟨(h.dig.set i d0 d1).set (i + 1) u0 (by
      have : p * 1 ≤ p * m := Int.mul_le_mul_of_nonneg_left (by omega) (Int.le_of_lt hp)
      omega), ?_, ?_, ?_⟩, d0, d1, u0, u1⟩
  · rw [dg_set_eq _ _ (by rw [List.length_set]; omega)]; exact u1
  · intro t ht
    rw [dg_set_ne _ _ (by omega), dg_set_ne _ _ (by omega)]
    exact h.zero t (by omega)
  · have h5 := h.eq
    rw [val_take_succ] at h5
    rw [val_take_succ, val_set_take _ _ _ _ (Nat.le_refl _), dg_set_eq _ _ (by rw [List.length_set]; omega), val_take_succ, val_set_take _ _ _ _ (Nat.le_refl _), dg_set_eq _ _ (by omega), val_take_succ, Int.mul_add, ← h5, hd, hu, Int.pow_succ, Int.mul_add]
    have e4 : B ^ i * (dg xs i * p % B) + B ^ i * B * (dg xs i * p / B) = B ^ i * (dg xs i * p) := by
      rw [Int.mul_assoc, ← Int.mul_add]; congr 1; omega
    have e5 : p * (B ^ i * dg xs i) = B ^ i * (dg xs i * p) := by grind
    omega
theorem ShiftInv.done {B p : Int} {xs os : List Int} {n : Nat} (h : ShiftInv B p xs os n) (hx : xs.length = n) (ho : os.length = n + 1) : val B os = p * val B xs := by
  have e := h.eq
  rw [List.take_of_length_le (l := os) (by omega), List.take_of_length_le (l := xs) (by omega)] at e
  exact e

end Go.Proofs.YtjeaakkbkjhldaaGreatDoor

namespace Go.Proofs.YtjeaakkbkjhldaaGreatDoor

/-- how many binary digits -/
def bl (n : Nat) : Nat := if n = 0 then 0 else Nat.log2 n + 1
theorem bl_bounds {n : Nat} (h : n ≠ 0) : 1 ≤ bl n ∧ 2 ^ (bl n - 1) ≤ n ∧ n < 2 ^ bl n := by
  unfold bl
  rw [if_neg h]
  exact ⟨by omega, by simpa using Nat.log2_self_le h, Nat.lt_log2_self⟩
theorem bl_eq {n k : Nat} (hk : 1 ≤ k) (h1 : 2 ^ (k - 1) ≤ n) (h2 : n < 2 ^ k) : bl n = k := by
  have h0 : n ≠ 0 := by
    have : 0 < 2 ^ (k - 1) := Nat.two_pow_pos _
    omega
  obtain ⟨b1, b2, b3⟩ := bl_bounds h0
  rcases Nat.lt_trichotomy (bl n) k with h | h | h
  · have : 2 ^ bl n ≤ 2 ^ (k - 1) := Nat.pow_le_pow_right (by omega) (by omega)
    omega
  · exact h
  · have : 2 ^ k ≤ 2 ^ (bl n - 1) := Nat.pow_le_pow_right (by omega) (by omega)
    omega
theorem bl_zero : bl 0 = 0 := rfl
theorem bl_eq_zero {n : Nat} : bl n = 0 ↔ n = 0 := by
  unfold bl; split <;> simp_all
theorem bitLen_bl {x : Nat} (h : x < 4294967296) : Go.Lib.bitLen x = bl x := by
  by_cases h0 : x = 0
  · subst h0; rfl
  · have := Go.Lib.bitLenAux_bounds 64 x (by omega) h0
    exact (bl_eq this.1 this.2.1 this.2.2).symm
theorem bl_le {n k : Nat} (h : n < 2 ^ k) : bl n ≤ k := by
  by_cases h0 : n = 0
  · subst h0; simp [bl_zero]
  · obtain ⟨b1, b2, b3⟩ := bl_bounds h0
    rcases Nat.lt_or_ge k (bl n) with h1 | h1
    · have : 2 ^ k ≤ 2 ^ (bl n - 1) := Nat.pow_le_pow_right (by omega) (by omega)
      omega
    · exact h1
/-- of a number in normal form: 32 for each digit but the last, and the last one's -/
theorem bl_val {xs : List Int} {m : Nat} (hd : Dgs 4294967296 xs) (hn : Nrm xs) (hm : xs.length = m + 1) {t : Nat} (ht : (t : Int) = dg xs m) {v : Nat} (hv : (v : Int) = val 4294967296 xs) : bl v = 32 * m + bl t := by
  have h0 := hn (by intro e; subst e; simp at hm)
  rw [hm] at h0
  simp only [Nat.add_sub_cancel] at h0
  have ht0 : t ≠ 0 := by intro e; subst e; simp at ht; exact h0 ht.symm
  obtain ⟨b1, b2, b3⟩ := bl_bounds ht0
  have e : val 4294967296 xs = val 4294967296 (xs.take (m + 1)) := by rw [List.take_of_length_le (by omega)]
  rw [val_take_succ] at e
  have l1 := val_nonneg (by omega) (hd.take m)
  have l2 := val_lt (by omega) (hd.take m)
  rw [List.length_take, Nat.min_eq_left (by omega)] at l2
  obtain ⟨lo, hlo⟩ := Int.eq_ofNat_of_zero_le l1
  have hpow : ((4294967296 : Int)) ^ m = ((2 ^ (32 * m) : Nat) : Int) := by
    rw [Int.natCast_pow, Int.pow_mul]; rfl
  rw [hlo] at l2 e
  rw [hpow] at l2 e
  rw [← ht, ← hv] at e
  have e2 : v = lo + 2 ^ (32 * m) * t := by
    have : ((lo + 2 ^ (32 * m) * t : Nat) : Int) = (lo : Int) + ((2 ^ (32 * m) : Nat) : Int) * (t : Int) := by
      rw [Int.natCast_add, Int.natCast_mul]
    omega
  have l3 : lo < 2 ^ (32 * m) := by omega
  refine bl_eq (by omega) ?_ ?_
  · have a1 : 2 ^ (32 * m + bl t - 1) = 2 ^ (32 * m) * 2 ^ (bl t - 1) := by rw [← Nat.pow_add]; congr 1; omega
    have a2 : 2 ^ (32 * m) * 2 ^ (bl t - 1) ≤ 2 ^ (32 * m) * t := Nat.mul_le_mul_left _ b2
    omega
  · have a1 : 2 ^ (32 * m + bl t) = 2 ^ (32 * m) * 2 ^ bl t := Nat.pow_add ..
    have a2 : 2 ^ (32 * m) * (t + 1) ≤ 2 ^ (32 * m) * 2 ^ bl t := Nat.mul_le_mul_left _ b3
    rw [Nat.mul_add, Nat.mul_one] at a2
    omega

end Go.Proofs.YtjeaakkbkjhldaaGreatDoor

namespace Go.Proofs.YtjeaakkbkjhldaaGreatDoor

/-- the digits from n on are zero where the value is below B^n -/
theorem dg_high {B : Int} (hB : 1 < B) {xs : List Int} (hd : Dgs B xs) {n : Nat} (h : val B xs < B ^ n) {t : Nat} (ht : n ≤ t) : dg xs t = 0 := by
  have h0 := dg_lt (by omega) hd t
  rcases Int.lt_or_eq_of_le h0.1 with h1 | h1
  · exfalso
    by_cases hl : t < xs.length
    · have e := val_take_drop B xs t (by omega)
      rw [val_drop hl] at e
      have a0 := val_nonneg (by omega) (hd.take t)
      have a1 := val_nonneg (by omega) (hd.drop (t + 1))
      have a2 : 0 ≤ B * val B (xs.drop (t + 1)) := Int.mul_nonneg (by omega) a1
      have a3 : B ^ t * 1 ≤ B ^ t * (dg xs t + B * val B (xs.drop (t + 1))) := Int.mul_le_mul_of_nonneg_left (by omega) (Int.le_of_lt (pow_pos' (by omega) t))
      have a4 : B ^ n ≤ B ^ t := pow_le_pow' (by omega) ht
      omega
    · rw [dg_ge (by omega)] at h1; omega
  · exact h1.symm

theorem drop_eq_of_dg {B : Int} {xs ys : List Int} {k : Nat} (h : ∀ t, k ≤ t → dg xs t = dg ys t) : val B (xs.drop k) = val B (ys.drop k) :=
  val_eq_of_dg (fun j => by rw [dg_drop, dg_drop]; exact h _ (by omega))
theorem take_eq_of_dg {B : Int} {xs ys : List Int} {k : Nat} (h : ∀ t, t < k → dg xs t = dg ys t) : val B (xs.take k) = val B (ys.take k) :=
  val_eq_of_dg (fun j => by rw [dg_take, dg_take]; split; exact h _ (by assumption); rfl)
/-- a stretch of a list that was changed -/
theorem val_seg {B : Int} {xs os : List Int} {j m : Nat} (hl : os.length = xs.length) (hj : j + m ≤ xs.length) (h : ∀ t, t < j ∨ j + m ≤ t → dg os t = dg xs t) :
    val B os = val B xs - B ^ j * (val B ((xs.drop j).take m) - val B ((os.drop j).take m)) := by
  rw [val_take_drop B xs j (by omega), val_take_drop B os j (by omega), val_take_drop B (xs.drop j) m (by rw [List.length_drop]; omega), val_take_drop B (os.drop j) m (by rw [List.length_drop]; omega), List.drop_drop, List.drop_drop]
  rw [take_eq_of_dg (B := B) (xs := os) (ys := xs) (k := j) (fun t ht => h t (.inl ht)), drop_eq_of_dg (B := B) (xs := os) (ys := xs) (k := j + m) (fun t ht => h t (.inr ht))]
  grind

/-! ### long division -/
structure DivInv (B D : Int) (rs0 rs qs : List Int) (J : Nat) : Prop where
  rdig : Dgs B rs
  qdig : Dgs B qs
  rlen : rs.length = rs0.length
  lt : val B (rs.drop J) < D
  eq : val B rs0 = B ^ J * (D * val B (qs.drop J)) + val B rs
theorem DivInv.start {B D p A Bv : Int} (hB : 1 < B) {rs0 qs : List Int} {n1 n2 : Nat} (hr : Dgs B rs0) (hq : Dgs B qs) (hlr : rs0.length = n1 + 1) (hlq : qs.length = n1 - n2 + 1) (h12 : n2 ≤ n1) (h2 : 1 ≤ n2)
    (hp : 0 < p) (hA : val B rs0 = p * A) (hA1 : A < B ^ n1) (hD : D = p * Bv) (hB1 : B ^ (n2 - 1) ≤ Bv) : DivInv B D rs0 rs0 qs (n1 - n2 + 1) := by
  refine ⟨hr, hq, rfl, ?_, ?_⟩
  · have e := val_take_drop B rs0 (n1 - n2 + 1) (by omega)
    have a0 := val_nonneg (by omega) (hr.take (n1 - n2 + 1))
    have a1 : p * A < p * B ^ n1 := Int.mul_lt_mul_of_pos_left hA1 hp
    have a2 : B ^ n1 = B ^ (n1 - n2 + 1) * B ^ (n2 - 1) := by rw [← Int.pow_add]; congr 1; omega
    have a3 : p * B ^ n1 = B ^ (n1 - n2 + 1) * (p * B ^ (n2 - 1)) := by rw [a2]; grind
    have a4 : B ^ (n1 - n2 + 1) * val B (rs0.drop (n1 - n2 + 1)) < B ^ (n1 - n2 + 1) * (p * B ^ (n2 - 1)) := by omega
    have a5 := Int.lt_of_mul_lt_mul_left a4 (Int.le_of_lt (pow_pos' (by omega) _))
    have a6 : p * B ^ (n2 - 1) ≤ p * Bv := Int.mul_le_mul_of_nonneg_left hB1 (Int.le_of_lt hp)
    omega
  · rw [List.drop_of_length_le (l := qs) (by omega)]; simp [val]
/-- the guess of a digit is not too small -/
theorem guess_ge {B D : Int} (hB : 1 < B) {ds : List Int} {n : Nat} (hd : Dgs B ds) (hn : 1 ≤ n) (hl : ds.length = n) (hD : val B ds = D) (ht : 0 < dg ds (n - 1)) {rs : List Int} {j : Nat} (hr : Dgs B rs)
    (hlr : j + n + 1 ≤ rs.length) (hlt : val B (rs.drop (j + 1)) < D) {top g : Int} (htop : top = dg rs (j + n) * B + dg rs (j + n - 1)) (hg : g = min (top / dg ds (n - 1)) (B - 1)) :
    0 ≤ g ∧ g < B ∧ val B ((rs.drop j).take (n + 1)) < (g + 1) * D ∧ val B (rs.drop j) = val B ((rs.drop j).take (n + 1)) := by
  have d1 := val_lt (by omega) hd
  rw [hl, hD] at d1
  have dz : ∀ t, j + 1 + n ≤ t → dg rs t = 0 := by
    intro t ht
    have := dg_high hB (hr.drop (j + 1)) (n := n) (by omega) (t := t - (j + 1)) (by omega)
    rw [dg_drop] at this
    rw [show t = j + 1 + (t - (j + 1)) by omega]; exact this
  have hfull : val B (rs.drop j) = val B ((rs.drop j).take (n + 1)) := by
    rw [val_take_drop B (rs.drop j) (n + 1) (by rw [List.length_drop]; omega), List.drop_drop]
    have : val B (rs.drop (j + (n + 1))) = 0 := by
      rw [val_eq_of_dg (ys := []) (fun t => by rw [dg_drop, dz _ (by omega), dg_nil])]; rfl
    rw [this]; simp
  have t0 := dg_lt (by omega) hr (j + n)
  have t1 := dg_lt (by omega) hr (j + n - 1)
  have tp0 : 0 ≤ top := by
    have : 0 ≤ dg rs (j + n) * B := Int.mul_nonneg t0.1 (by omega)
    omega
  have q0 : 0 ≤ top / dg ds (n - 1) := Int.ediv_nonneg tp0 (by omega)
  have g0 : 0 ≤ g := by omega
  have g1 : g < B := by omega
  refine ⟨g0, g1, ?_, hfull⟩
  by_cases hc : top / dg ds (n - 1) ≤ B - 1
  · have hg2 : g = top / dg ds (n - 1) := by omega
    -- V0 = low + B^(n-1) top
    have e1 : val B ((rs.drop j).take (n + 1)) = val B ((rs.drop j).take (n - 1)) + B ^ (n - 1) * top := by
      have en : n = (n - 1) + 1 := by omega
      rw [val_seg_succ]
      conv => lhs; lhs; rw [en]
      rw [val_seg_succ, htop]
      have e5 : j + (n - 1) = j + n - 1 := by omega
      have e6 : B ^ n = B ^ (n - 1) * B := by rw [← Int.pow_succ]; congr 1
      rw [e5, e6]; grind
    have e2 := val_lt (by omega) ((hr.drop j).take (n - 1))
    have e3 : ((rs.drop j).take (n - 1)).length = n - 1 := by rw [List.length_take, List.length_drop]; omega
    rw [e3] at e2
    have e4 : top + 1 ≤ (g + 1) * dg ds (n - 1) := by
      have := Int.lt_mul_ediv_self_add (x := top) (k := dg ds (n - 1)) ht
      rw [← hg2] at this
      have e5 : dg ds (n - 1) * g + dg ds (n - 1) = (g + 1) * dg ds (n - 1) := by grind
      omega
    have e5 : B ^ (n - 1) * (top + 1) ≤ B ^ (n - 1) * ((g + 1) * dg ds (n - 1)) := Int.mul_le_mul_of_nonneg_left e4 (Int.le_of_lt (pow_pos' (by omega) _))
    have e6 : B ^ (n - 1) * dg ds (n - 1) ≤ D := by
      have en : ds = ds.take ((n - 1) + 1) := by rw [List.take_of_length_le (by omega)]
      rw [← hD]
      conv => rhs; rw [en]
      rw [val_take_succ]
      have := val_nonneg (by omega) (hd.take (n - 1))
      omega
    have e7 : (g + 1) * (B ^ (n - 1) * dg ds (n - 1)) ≤ (g + 1) * D := Int.mul_le_mul_of_nonneg_left e6 (by omega)
    have e8 : B ^ (n - 1) * ((g + 1) * dg ds (n - 1)) = (g + 1) * (B ^ (n - 1) * dg ds (n - 1)) := by grind
    rw [Int.mul_add, Int.mul_one] at e5
    omega
  · have hg2 : g + 1 = B := by omega
    rw [← hfull, hg2, val_drop (by omega)]
    have t2 := dg_lt (by omega) hr j
    have : B * (val B (rs.drop (j + 1)) + 1) ≤ B * D := Int.mul_le_mul_of_nonneg_left (by omega) (by omega)
    rw [Int.mul_add, Int.mul_one] at this
    omega
/-- a digit is done -/
theorem DivInv.step {B D : Int} {rs0 rs qs os : List Int} {j m : Nat} (h : DivInv B D rs0 rs qs (j + 1)) {g : Int} (g0 : 0 ≤ g) (g1 : g < B) (hq : j < qs.length) (hm : j + m ≤ rs.length)
    (hod : Dgs B os) (hol : os.length = rs.length) (hs : ∀ t, t < j ∨ j + m ≤ t → dg os t = dg rs t) (hz : val B (rs.drop j) = val B ((rs.drop j).take m))
    (he : val B ((os.drop j).take m) = val B ((rs.drop j).take m) - g * D) (hlt : val B ((os.drop j).take m) < D) : DivInv B D rs0 os (qs.set j g) j := by
  have e := val_seg hol hm hs (B := B)
  refine ⟨hod, h.qdig.set j g0 g1, by rw [hol]; exact h.rlen, ?_, ?_⟩
  · have e2 := val_take_drop B (os.drop j) m (by rw [List.length_drop]; omega)
    have e3 := val_take_drop B (rs.drop j) m (by rw [List.length_drop]; omega)
    rw [List.drop_drop] at e2 e3
    rw [drop_eq_of_dg (B := B) (xs := os) (ys := rs) (k := j + m) (fun t ht => hs t (.inr ht))] at e2
    have e4 : B ^ m * val B (rs.drop (j + m)) = 0 := by omega
    omega
  · rw [val_drop (xs := qs.set j g) (by rw [List.length_set]; exact hq), dg_set_eq _ _ hq, drop_set_gt _ _ (by omega), h.eq, e, he, Int.pow_succ]
    grind
theorem DivInv.done {B D p A Bv : Int} {rs0 rs qs : List Int} (h : DivInv B D rs0 rs qs 0) (hp : 0 < p) (hA : val B rs0 = p * A) (hD : D = p * Bv) :
    val B rs = p * (A - Bv * val B qs) ∧ A - Bv * val B qs < Bv := by
  have e := h.eq
  have l := h.lt
  simp only [List.drop_zero, Int.pow_zero, Int.one_mul] at e l
  have e2 : val B rs = p * (A - Bv * val B qs) := by
    rw [Int.mul_sub, ← hA, e, hD, Int.mul_assoc]; omega
  refine ⟨e2, ?_⟩
  rw [e2, hD] at l
  exact Int.lt_of_mul_lt_mul_left l (Int.le_of_lt hp)

/-! ### the rest, moved back -/
structure BackInv (B p : Int) (rs os : List Int) (i : Nat) : Prop where
  dig : Dgs B os
  eq : p * val B (os.take i) + dg rs 0 % p = val B (rs.take i) + B ^ i * (dg rs i % p)
theorem BackInv.start {B p : Int} (hB : 0 < B) (rs : List Int) (n : Nat) : BackInv B p rs (List.replicate n 0) 0 :=
  ⟨Dgs.replicate hB n, by simp [val]⟩
theorem BackInv.step {B p m : Int} (hB : B = p * m) (hp : 0 < p) (hm : 0 < m) {rs os : List Int} {i : Nat} (h : BackInv B p rs os i) (hr : Dgs B rs) (hi : i < os.length) {d : Int}
    (hd : d = (dg rs (i + 1) * B + dg rs i) / p % B) : BackInv B p rs (os.set i d) (i + 1) := by
  have hB0 : 0 < B := by rw [hB]; exact Int.mul_pos hp hm
  have r0 := dg_lt hB0 hr i
  have r1 := dg_lt hB0 hr (i + 1)
  obtain ⟨a1, a2, a3⟩ := div_mod_bd (t := dg rs i) hp
  obtain ⟨b1, b2, b3⟩ := div_mod_bd (t := dg rs (i + 1)) hp
  have e1 : (dg rs (i + 1) * B + dg rs i) / p = dg rs (i + 1) * m + dg rs i / p := by
    have : dg rs (i + 1) * B + dg rs i = dg rs i + p * (dg rs (i + 1) * m) := by rw [hB]; grind
    rw [this, Int.add_mul_ediv_left _ _ (by omega)]; omega
  have h0 : 0 ≤ dg rs i / p := Int.ediv_nonneg r0.1 (by omega)
  have h1 : dg rs i / p < m := Int.ediv_lt_of_lt_mul hp (by rw [Int.mul_comm, ← hB]; exact r0.2)
  have e2 : dg rs (i + 1) * m + dg rs i / p = (m * (dg rs (i + 1) % p) + dg rs i / p) + B * (dg rs (i + 1) / p) := by
    have : dg rs (i + 1) * m = m * (p * (dg rs (i + 1) / p) + dg rs (i + 1) % p) := by rw [b3, Int.mul_comm]
    rw [this, hB]; grind
  have l0 : 0 ≤ m * (dg rs (i + 1) % p) := Int.mul_nonneg (Int.le_of_lt hm) b1
  have l1 : m * (dg rs (i + 1) % p) ≤ m * (p - 1) := Int.mul_le_mul_of_nonneg_left (by omega) (Int.le_of_lt hm)
  have l2 : m * (p - 1) = B - m := by rw [hB]; grind
  have e3 : d = m * (dg rs (i + 1) % p) + dg rs i / p := by
    rw [hd, e1, e2, Int.add_mul_emod_self_left, Int.emod_eq_of_lt (by omega) (by omega)]
  refine ⟨h.dig.set i (by omega) (by omega), ?_⟩
  have e4 := h.eq
  rw [val_take_succ, val_set_take _ _ _ _ (Nat.le_refl _), dg_set_eq _ _ hi, val_take_succ, Int.pow_succ, Int.mul_add]
  have e5 : p * (B ^ i * d) = B ^ i * (B * (dg rs (i + 1) % p)) + B ^ i * (dg rs i - dg rs i % p) := by
    have : p * d = B * (dg rs (i + 1) % p) + (dg rs i - dg rs i % p) := by rw [e3, hB]; grind
    have e6 : p * (B ^ i * d) = B ^ i * (p * d) := by grind
    rw [e6, this, Int.mul_add]
  rw [Int.mul_sub] at e5
  have e7 : B ^ i * B * (dg rs (i + 1) % p) = B ^ i * (B * (dg rs (i + 1) % p)) := Int.mul_assoc ..
  omega
theorem BackInv.done {B p R : Int} (hB : 1 < B) (hp : 0 < p) {rs os : List Int} {n : Nat} (h : BackInv B p rs os n) (hr : Dgs B rs) (ho : os.length = n) (hv : val B rs = p * R) (hR : val B rs < B ^ n) (hn : n ≤ rs.length) : val B os = R := by
  have e := h.eq
  rw [List.take_of_length_le (l := os) (by omega), dg_high hB hr hR (Nat.le_refl _)] at e
  have e2 : val B (rs.take n) = val B rs := by
    rw [val_take_drop B rs n hn]
    rw [val_eq_of_dg (xs := rs.drop n) (ys := []) (fun t => by rw [dg_drop, dg_high hB hr hR (by omega), dg_nil])]
    simp [val]
  rw [e2, hv] at e
  simp only [Int.zero_emod, Int.mul_zero, Int.add_zero] at e
  have e3 : dg rs 0 % p = p * (R - val B os) := by rw [Int.mul_sub]; omega
  have e4 : dg rs 0 % p < p := Int.emod_lt_of_pos _ hp
  have e5 : 0 ≤ dg rs 0 % p := Int.emod_nonneg _ (by omega)
  have e6 : R - val B os < 1 := Int.lt_of_mul_lt_mul_left (by rw [← e3, Int.mul_one]; exact e4 : p * (R - val B os) < p * 1) (Int.le_of_lt hp)
  have e7 : -1 < R - val B os := Int.lt_of_mul_lt_mul_left (by rw [← e3]; omega : p * (-1) < p * (R - val B os)) (Int.le_of_lt hp)
  omega

end Go.Proofs.YtjeaakkbkjhldaaGreatDoor

namespace Go.Proofs.YtjeaakkbkjhldaaGreatDoor

/-! ### a row that is turned round -/
structure RevInv (xs os : List Int) (k : Nat) : Prop where
  len : os.length = xs.length
  eq : ∀ t, t < xs.length → dg os t = if t < k ∨ xs.length ≤ t + k then dg xs (xs.length - 1 - t) else dg xs t
theorem RevInv.start (xs : List Int) : RevInv xs xs 0 := ⟨rfl, fun t ht => by rw [if_neg (by omega)]⟩
theorem RevInv.step {xs os : List Int} {k j : Nat} (h : RevInv xs os k) (hk : k < j) (hj : k + j + 1 = xs.length) : RevInv xs ((os.set k (dg os j)).set j (dg os k)) (k + 1) := by
  refine ⟨by simp [h.len], fun t ht => ?_⟩
  have e1 := h.eq k (by omega)
  have e2 := h.eq j (by omega)
  have e3 := h.eq t ht
  have hl := h.len
  rw [if_neg (by omega)] at e1 e2
  rw [dg_set, dg_set, List.length_set]
  by_cases h1 : j = t
  · subst h1
    rw [if_pos ⟨rfl, by omega⟩, if_pos (by omega), e1]
    congr 1; omega
  · rw [if_neg (by omega)]
    by_cases h2 : k = t
    · subst h2
      rw [if_pos ⟨rfl, by omega⟩, if_pos (by omega), e2]
      congr 1; omega
    · rw [if_neg (by omega), e3]
      by_cases h3 : t < k ∨ xs.length ≤ t + k
      · rw [if_pos h3, if_pos (by omega)]
      · rw [if_neg h3, if_neg (by omega)]
theorem RevInv.done {xs os : List Int} {k : Nat} (h : RevInv xs os k) (hk : xs.length ≤ 2 * k + 1) : os = xs.reverse := by
  refine dg_ext (by rw [h.len, List.length_reverse]) fun t ht => ?_
  have hl := h.len
  rw [h.eq t (by omega)]
  have e : dg xs.reverse t = dg xs (xs.length - 1 - t) := by
    unfold dg
    rw [List.getD_eq_getElem?_getD, List.getElem?_reverse (by omega), ← List.getD_eq_getElem?_getD]
  rw [e]
  by_cases h3 : t < k ∨ xs.length ≤ t + k
  · rw [if_pos h3]
  · rw [if_neg h3]; congr 1; omega

/-! ### decimal digits -/
/-- the decimal digits of n, the lowest first; none of 0 -/
def dec (n : Nat) : List Int := if n = 0 then [] else ((n % 10 : Nat) : Int) :: dec (n / 10)
theorem dec_zero : dec 0 = [] := by unfold dec; rfl
theorem dec_pos {n : Nat} (h : 0 < n) : dec n = ((n % 10 : Nat) : Int) :: dec (n / 10) := by
  conv => lhs; unfold dec
  rw [if_neg (by omega)]
/-- the bytes of the decimal digits, so far: those of N but for V -/
structure DecInv (N V : Nat) (bs : List Int) : Prop where
  eq : (dec N).map (· + 48) = bs ++ (dec V).map (· + 48)
theorem DecInv.start (N : Nat) : DecInv N N [] := ⟨rfl⟩
theorem DecInv.step {N V : Nat} {bs : List Int} (h : DecInv N V bs) (hV : 0 < V) {c : Int} (hc : c = ((V % 10 : Nat) : Int) + 48) : DecInv N (V / 10) (bs ++ [c]) :=
  ⟨by rw [h.eq, dec_pos hV, hc]; simp⟩
theorem DecInv.done {N : Nat} {bs : List Int} (h : DecInv N 0 bs) : bs = (dec N).map (· + 48) := by
  rw [h.eq, dec_zero]; simp
theorem dec_len (k : Nat) : ∀ n, n < 10 ^ k → (dec n).length ≤ k := by
  induction k with
  | zero => intro n h; have : n = 0 := by omega
            subst this; rw [dec_zero]; exact Nat.le_refl _
  | succ k ih =>
    intro n h
    rcases Nat.eq_zero_or_pos n with h0 | h0
    · subst h0; rw [dec_zero]; simp
    · rw [dec_pos h0]
      have := ih (n / 10) (by rw [Nat.pow_succ] at h; omega)
      simp only [List.length_cons]; omega

theorem DecInv.len {N V : Nat} {bs : List Int} (h : DecInv N V bs) {k : Nat} (hk : N < 10 ^ k) : bs.length ≤ k ∧ (0 < V → bs.length < k) := by
  have h1 := congrArg List.length h.eq
  simp only [List.length_map, List.length_append] at h1
  have h2 := dec_len k N hk
  refine ⟨by omega, fun hV => ?_⟩
  rw [dec_pos hV] at h1
  simp only [List.length_cons] at h1; omega
/-- the digits of one part of nine: j of them are written; rest is what is left of the part, M what is left of the number -/
structure TInv (N M : Nat) (rest : Int) (j : Nat) (bs : List Int) : Prop where
  r0 : 0 ≤ rest
  r1 : rest < 10 ^ (9 - j)
  dec : DecInv N (rest.toNat + 10 ^ (9 - j) * M) bs
theorem TInv.start {N V M : Nat} {bs : List Int} (h : DecInv N V bs) {rest : Int} (h1 : rest = (V : Int) % 1000000000) (h2 : (M : Int) = (V : Int) / 1000000000) : TInv N M rest 0 bs := by
  refine ⟨by omega, by show rest < 1000000000; omega, ?_⟩
  have e : rest.toNat + 10 ^ (9 - 0) * M = V := by show rest.toNat + 1000000000 * M = V; omega
  rw [e]; exact h
theorem TInv.step {N M : Nat} {rest : Int} {j : Nat} {bs : List Int} (h : TInv N M rest j bs) (hj : j < 9) (hp : 0 < M ∨ 0 < rest) : TInv N M (rest / 10) (j + 1) (bs ++ [48 + rest % 10]) := by
  have h0 := h.r0
  have h1 := h.r1
  obtain ⟨q, hq, hq2⟩ : ∃ q, q = 10 ^ (8 - j) ∧ 0 < q := ⟨_, rfl, Nat.pow_pos (by omega)⟩
  have e1 : (10 : Nat) ^ (9 - j) = 10 * q := by rw [hq, ← Nat.pow_succ']; congr 1; omega
  have e2 : (10 : Nat) ^ (9 - (j + 1)) = q := by rw [hq]; congr 1; omega
  have e3 : (10 : Int) ^ (9 - j) = 10 * (q : Int) := by have := congrArg (Nat.cast (R := Int)) e1; simpa using this
  have e4 : (10 : Int) ^ (9 - (j + 1)) = (q : Int) := by have := congrArg (Nat.cast (R := Int)) e2; simpa using this
  rw [e3] at h1
  have hd := h.dec
  rw [e1] at hd
  have hm : 10 * q * M = 10 * (q * M) := Nat.mul_assoc ..
  rw [hm] at hd
  have hV : 0 < rest.toNat + 10 * (q * M) := by
    rcases hp with h | h
    · have := Nat.mul_pos hq2 h; omega
    · omega
  have hs := hd.step hV (c := 48 + rest % 10) (by omega)
  refine ⟨by omega, by rw [e4]; omega, ?_⟩
  rw [e2]
  have e5 : (rest.toNat + 10 * (q * M)) / 10 = (rest / 10).toNat + q * M := by omega
  rw [e5] at hs; exact hs
theorem TInv.out {N M : Nat} {rest : Int} {j : Nat} {bs : List Int} (h : TInv N M rest j bs) (hp : j = 9 ∨ (M = 0 ∧ rest = 0)) : DecInv N M bs := by
  have h0 := h.r0
  have h1 := h.r1
  have hd := h.dec
  rcases hp with rfl | ⟨rfl, rfl⟩
  · have : rest = 0 := by simp at h1; omega
    subst this
    simpa using hd
  · simpa using hd
theorem TInv.len {N M : Nat} {rest : Int} {j : Nat} {bs : List Int} (h : TInv N M rest j bs) {k : Nat} (hk : N < 10 ^ k) : bs.length ≤ k ∧ (0 < M ∨ 0 < rest → bs.length < k) := by
  have h1 := h.dec.len hk
  refine ⟨h1.1, fun hp => h1.2 ?_⟩
  rcases hp with h | h
  · have := Nat.mul_pos (Nat.pow_pos (n := 9 - j) (show 0 < 10 by omega)) h; omega
  · omega
theorem TInv.lt {N M : Nat} {rest : Int} {j : Nat} {bs : List Int} (h : TInv N M rest j bs) : rest < 1000000000 := by
  have h1 := h.r1
  have h2 : (10 : Int) ^ (9 - j) ≤ 10 ^ 9 := pow_le_pow' (by omega) (by omega)
  have h3 : (10 : Int) ^ 9 = 1000000000 := by decide
  omega
/-- the bytes of a number in decimal -/
def decB (z : Int) : List Int := if z = 0 then [48] else (if z < 0 then [45] else []) ++ ((dec z.natAbs).map (· + 48)).reverse

end Go.Proofs.YtjeaakkbkjhldaaGreatDoor

namespace Go.Proofs.YtjeaakkbkjhldaaGreatDoor

/-! ### numbers that are read -/
/-- a byte's value as a digit; 99: it is none -/
def digV (c : Int) : Int := if 48 ≤ c ∧ c ≤ 57 then c - 48 else if 97 ≤ c ∧ c ≤ 102 then c - 97 + 10 else if 65 ≤ c ∧ c ≤ 70 then c - 65 + 10 else 99
theorem digV_bd (c : Int) : 0 ≤ digV c ∧ digV c ≤ 99 := by unfold digV; split <;> (try split) <;> (try split) <;> omega
/-- the bytes of a text as numbers -/
def bys (s : ByteArray) : List Int := s.data.toList.map (fun b => (b.toNat : Int))
theorem bys_len (s : ByteArray) : (bys s).length = s.size := by unfold bys; rw [List.length_map]; rfl
/-- digits behind the number a, in base b -/
def pval (b : Int) : List Int → Int → Option Int
  | [], a => some a
  | c :: cs, a => if b ≤ digV c then none else pval b cs (b * a + digV c)
/-- a number's text: none, where it is no number in the base -/
def parseI (bs : List Int) (b : Int) : Option Int := if bs = [] ∨ ¬ (b = 2 ∨ b = 8 ∨ b = 10 ∨ b = 16) then none else pval b bs 0
structure PInv (b : Int) (bs : List Int) (i : Nat) (V : Int) : Prop where
  v0 : 0 ≤ V
  eq : pval b bs 0 = pval b (bs.drop i) V
theorem PInv.start (b : Int) (bs : List Int) : PInv b bs 0 0 := ⟨by omega, rfl⟩
theorem PInv.split {b : Int} {bs : List Int} {i : Nat} {V : Int} (h : PInv b bs i V) (hi : i < bs.length) : pval b bs 0 = if b ≤ digV (dg bs i) then none else pval b (bs.drop (i + 1)) (b * V + digV (dg bs i)) := by
  have e : bs.drop i = dg bs i :: bs.drop (i + 1) := by
    rw [List.drop_eq_getElem_cons hi]
    congr 1
    have := dg_getElem (xs := bs) hi
    rw [List.getElem?_eq_getElem hi] at this
    exact Option.some.inj this
  rw [h.eq, e]; rfl
theorem PInv.step {b : Int} {bs : List Int} {i : Nat} {V : Int} (h : PInv b bs i V) (hb : 0 ≤ b) (hi : i < bs.length) (hd : digV (dg bs i) < b) : PInv b bs (i + 1) (b * V + digV (dg bs i)) := by
  refine ⟨?_, ?_⟩
  · have := Int.mul_nonneg hb h.v0
    have := (digV_bd (dg bs i)).1
    omega
  · rw [h.split hi, if_neg (by omega)]
theorem PInv.none {b : Int} {bs : List Int} {i : Nat} {V : Int} (h : PInv b bs i V) (hi : i < bs.length) (hd : b ≤ digV (dg bs i)) : pval b bs 0 = none := by
  rw [h.split hi, if_pos hd]
theorem PInv.done {b : Int} {bs : List Int} {i : Nat} {V : Int} (h : PInv b bs i V) (hi : bs.length ≤ i) : pval b bs 0 = some V := by
  rw [h.eq, List.drop_of_length_le hi]; rfl

theorem pval_lt {b : Int} (hb : b ≤ 16) (b0 : 0 ≤ b) : ∀ (bs : List Int) (a v : Int), 0 ≤ a → pval b bs a = some v → 0 ≤ v ∧ v < (a + 1) * 16 ^ bs.length
  | [], a, v, ha, h => by
    simp only [pval, Option.some.injEq] at h
    subst h
    exact ⟨ha, by simp; omega⟩
  | c :: cs, a, v, ha, h => by
    unfold pval at h
    split at h
    · cases h
    · rename_i hd
      have hd0 := (digV_bd c).1
      have hba : 0 ≤ b * a := Int.mul_nonneg b0 ha
      have hba2 : b * a ≤ 16 * a := Int.mul_le_mul_of_nonneg_right hb ha
      obtain ⟨h1, h2⟩ := pval_lt hb b0 cs (b * a + digV c) v (by omega) h
      refine ⟨h1, Int.lt_of_lt_of_le h2 ?_⟩
      rw [List.length_cons, Int.pow_succ, Int.mul_comm (16 ^ cs.length) 16, ← Int.mul_assoc]
      refine Int.mul_le_mul_of_nonneg_right (by omega) (Int.le_of_lt (Int.pow_pos (by omega)))

theorem parseI_lt {bs : List Int} {b v : Int} (h : parseI bs b = some v) : 0 ≤ v ∧ v < 16 ^ bs.length := by
  unfold parseI at h
  split at h
  · cases h
  · rename_i hc
    have hb : 0 ≤ b ∧ b ≤ 16 := by
      rcases Classical.em (b = 2 ∨ b = 8 ∨ b = 10 ∨ b = 16) with h1 | h1
      · omega
      · exact absurd (.inr h1) hc
    have := pval_lt hb.2 hb.1 bs 0 v (by omega) h
    simpa using this

end Go.Proofs.YtjeaakkbkjhldaaGreatDoor

namespace Go.Proofs.YtjeaakkbkjhldaaGreatDoor

/-! ### digits in halves, and in pairs -/
theorem pow_two_mul (B : Int) (i : Nat) : (B * B) ^ i = B ^ (2 * i) := by
  rw [Int.pow_mul, Int.pow_succ, Int.pow_succ, Int.pow_zero, Int.one_mul]
structure SplitInv (B : Int) (xs os : List Int) (i : Nat) : Prop where
  len : os.length = 2 * i
  dig : Dgs B os
  eq : val B os = val (B * B) (xs.take i)
theorem SplitInv.start (B : Int) (xs : List Int) : SplitInv B xs [] 0 := ⟨rfl, Dgs.nil _, by simp [val]⟩
theorem SplitInv.step {B : Int} (hB : 1 < B) {xs os : List Int} {i : Nat} (h : SplitInv B xs os i) (hx : Dgs (B * B) xs) : SplitInv B xs (os ++ [dg xs i % B, dg xs i / B]) (i + 1) := by
  have d := dg_lt (B := B * B) (Int.mul_pos (by omega) (by omega)) hx i
  obtain ⟨e1, e2, e3⟩ := div_mod_bd (t := dg xs i) (B := B) (by omega)
  refine ⟨by simp [h.len]; omega, h.dig.append (Dgs.cons.2 ⟨⟨e1, e2⟩, Dgs.cons.2 ⟨⟨Int.ediv_nonneg d.1 (by omega), Int.ediv_lt_of_lt_mul (by omega) d.2⟩, Dgs.nil _⟩⟩), ?_⟩
  rw [val_append, val_take_succ, h.eq, h.len, pow_two_mul]
  simp only [val, Int.mul_zero, Int.add_zero]
  rw [show dg xs i % B + B * (dg xs i / B) = dg xs i by omega]
theorem SplitInv.done {B : Int} {xs os : List Int} {i : Nat} (h : SplitInv B xs os i) (hx : xs.length = i) : val B os = val (B * B) xs := by
  rw [h.eq, List.take_of_length_le (by omega)]

structure JoinInv (B : Int) (ds os : List Int) (j : Nat) : Prop where
  len : os.length = j
  dig : Dgs (B * B) os
  at' : ∀ t, t < j → dg os t = dg ds (2 * t) + B * dg ds (2 * t + 1)
  eq : val (B * B) os = val B (ds.take (2 * j))
theorem JoinInv.start (B : Int) (ds : List Int) : JoinInv B ds [] 0 := ⟨rfl, Dgs.nil _, fun t h => by omega, by simp [val]⟩
theorem JoinInv.step {B : Int} (hB : 1 < B) {ds os : List Int} {j : Nat} (h : JoinInv B ds os j) (hd : Dgs B ds) {d : Int} (e : d = dg ds (2 * j) + B * dg ds (2 * j + 1)) : JoinInv B ds (os ++ [d]) (j + 1) := by
  have d0 := dg_lt (by omega) hd (2 * j)
  have d1 := dg_lt (by omega) hd (2 * j + 1)
  have m0 : 0 ≤ B * dg ds (2 * j + 1) := Int.mul_nonneg (by omega) d1.1
  have m1 : B * (dg ds (2 * j + 1) + 1) ≤ B * B := Int.mul_le_mul_of_nonneg_left (by omega) (by omega)
  rw [Int.mul_add, Int.mul_one] at m1
  refine ⟨by simp [h.len], h.dig.append (Dgs.cons.2 ⟨⟨by omega, by omega⟩, Dgs.nil _⟩), ?_, ?_⟩
  · intro t ht
    rcases Nat.lt_or_ge t j with h1 | h1
    · rw [dg_append_lt (by rw [h.len]; exact h1)]; exact h.at' t h1
    · obtain rfl : t = j := by omega
      rw [dg_append_ge (by rw [h.len]; exact Nat.le_refl _), h.len, Nat.sub_self, dg_cons_zero, e]
  · rw [val_append, h.eq, h.len, show 2 * (j + 1) = 2 * j + 1 + 1 by omega, val_take_succ, val_take_succ, pow_two_mul]
    simp only [val, Int.mul_zero, Int.add_zero]
    rw [e, Int.pow_succ]
    grind
theorem JoinInv.done {B : Int} {ds os : List Int} {j : Nat} (hB : 1 < B) (h : JoinInv B ds os j) (hd : Dgs B ds) (hn : Nrm ds) (h1 : ds.length ≤ 2 * j) (h2 : 2 * j ≤ ds.length + 1) : Nrm os ∧ val (B * B) os = val B ds := by
  refine ⟨?_, by rw [h.eq, List.take_of_length_le h1]⟩
  intro h0 hz
  have hj : 0 < j := by
    rcases Nat.eq_zero_or_pos j with e | e
    · have := h.len; rw [e] at this; exact absurd (List.eq_nil_of_length_eq_zero this) h0
    · exact e
  rw [h.len, h.at' (j - 1) (by omega)] at hz
  have d0 := dg_lt (by omega) hd (2 * (j - 1))
  have d1 := dg_lt (by omega) hd (2 * (j - 1) + 1)
  have m0 : 0 ≤ B * dg ds (2 * (j - 1) + 1) := Int.mul_nonneg (by omega) d1.1
  have z0 : dg ds (2 * (j - 1)) = 0 := by omega
  have z1 : dg ds (2 * (j - 1) + 1) = 0 := by
    have : B * dg ds (2 * (j - 1) + 1) = 0 := by omega
    rcases Int.mul_eq_zero.1 this with h3 | h3
    · omega
    · exact h3
  have hne : ds ≠ [] := by intro e; rw [e] at h2; simp at h2; omega
  have := hn hne
  rcases Nat.lt_or_ge ds.length (2 * j) with h3 | h3
  · rw [show ds.length - 1 = 2 * (j - 1) by omega] at this; exact this z0
  · rw [show ds.length - 1 = 2 * (j - 1) + 1 by omega] at this; exact this z1

/-! ### times one digit, into a new list -/
structure TimesInv (B m : Int) (xs os : List Int) (k : Nat) (c : Int) : Prop where
  c0 : 0 ≤ c
  c1 : c < B
  dig : Dgs B os
  eq : val B (os.take k) + B ^ k * c = m * val B (xs.take k)
theorem TimesInv.start {B m : Int} (hB : 0 < B) (xs : List Int) (n : Nat) : TimesInv B m xs (List.replicate n 0) 0 0 :=
  ⟨Int.le_refl _, hB, Dgs.replicate hB n, by simp [val]⟩
theorem TimesInv.step {B m : Int} {xs os : List Int} {k : Nat} {c : Int} (h : TimesInv B m xs os k c) (m0 : 0 ≤ m) (m1 : m < B) (hx : Dgs B xs) (hk : k < os.length)
    {t d c' : Int} (ht : t = c + dg xs k * m) (hd : d = t % B) (hc : c' = t / B) : TimesInv B m xs (os.set k d) (k + 1) c' := by
  have h0 := h.c0
  have h1 := h.c1
  have h2 := dg_lt (by omega) hx k
  have h3 := mul_bd h2.1 h2.2 m0 m1
  obtain ⟨e1, e2, e3⟩ := div_mod_bd (t := t) (B := B) (by omega)
  have h4 : (B - 1) * (B - 1) + (B - 1) = B * (B - 1) := by grind
  have h5 : B * (B - 1) = B * B - B := by grind
  refine ⟨?_, ?_, h.dig.set k (by omega) (by omega), ?_⟩
  · rw [hc]; exact Int.ediv_nonneg (by omega) (by omega)
  · rw [hc]; exact Int.ediv_lt_of_lt_mul (by omega) (by omega)
  · rw [val_take_succ, val_take_succ, val_set_take _ _ _ _ (Nat.le_refl _), dg_set_eq _ _ hk, Int.pow_succ, Int.mul_add, ← h.eq]
    subst hd hc
    have a1 : B ^ k * (t % B) + B ^ k * B * (t / B) = B ^ k * t := by
      rw [Int.mul_assoc, ← Int.mul_add]; congr 1; omega
    have a2 : B ^ k * t = B ^ k * c + m * (B ^ k * dg xs k) := by rw [ht]; grind
    omega
theorem TimesInv.done {B m : Int} {xs os : List Int} {n : Nat} {c : Int} (h : TimesInv B m xs os n c) (hx : xs.length = n) (ho : os.length = n + 1) {d : Int} (hd : d = c) : Dgs B (os.set n d) ∧ val B (os.set n d) = m * val B xs := by
  have h0 := h.c0
  have h1 := h.c1
  refine ⟨h.dig.set n (by omega) (by omega), ?_⟩
  have e : val B (os.set n d) = val B ((os.set n d).take (n + 1)) := by rw [List.take_of_length_le (by simp; omega)]
  have h5 := h.eq
  rw [List.take_of_length_le (l := xs) (by omega)] at h5
  rw [e, val_take_succ, val_set_take _ _ _ _ (Nat.le_refl _), dg_set_eq _ _ (by omega), hd]
  exact h5

/-! ### by one digit, from the top, into a new list -/
structure SmallInv (B m : Int) (xs os : List Int) (k : Nat) (r : Int) : Prop where
  r0 : 0 ≤ r
  r1 : r < m
  dig : Dgs B os
  len : os.length = xs.length
  eq : m * val B (os.drop k) + r = val B (xs.drop k)
theorem SmallInv.start {B m : Int} (hB : 0 < B) (hm : 0 < m) (xs : List Int) : SmallInv B m xs (List.replicate xs.length 0) xs.length 0 :=
  ⟨Int.le_refl _, hm, Dgs.replicate hB _, by simp, by rw [List.drop_of_length_le (by simp), List.drop_of_length_le (by simp)]; simp [val]⟩
theorem SmallInv.step {B m : Int} (hB : 0 < B) (hm : 0 < m) {xs os : List Int} {k : Nat} {r : Int} (h : SmallInv B m xs os (k + 1) r) (hx : Dgs B xs) (hk : k < xs.length)
    {t q r' : Int} (ht : t = r * B + dg xs k) (hq : q = t / m) (hr : r' = t % m) : SmallInv B m xs (os.set k q) k r' := by
  have h0 := h.r0
  have h1 := h.r1
  have h2 := dg_lt hB hx k
  obtain ⟨e1, e2, e3⟩ := div_mod_bd (t := t) (B := m) hm
  have t0 : 0 ≤ r * B := Int.mul_nonneg h0 (by omega)
  have t1 : (r + 1) * B ≤ m * B := Int.mul_le_mul_of_nonneg_right (by omega) (by omega)
  rw [Int.add_mul, Int.one_mul] at t1
  have q0 : 0 ≤ q := by rw [hq]; exact Int.ediv_nonneg (by omega) (by omega)
  have q1 : q < B := by rw [hq]; exact Int.ediv_lt_of_lt_mul hm (by rw [Int.mul_comm]; omega)
  refine ⟨by omega, by omega, h.dig.set k q0 q1, by rw [List.length_set]; exact h.len, ?_⟩
  rw [val_drop (xs := os.set k q) (by rw [List.length_set, h.len]; exact hk), val_drop hk, dg_set_eq _ _ (by rw [h.len]; exact hk), drop_set_gt _ _ (by omega), ← h.eq]
  have a1 : m * (q + B * val B (os.drop (k + 1))) = m * q + B * (m * val B (os.drop (k + 1))) := by grind
  have a2 : B * (m * val B (os.drop (k + 1)) + r) = B * (m * val B (os.drop (k + 1))) + r * B := by grind
  subst hq hr
  omega
theorem SmallInv.done {B m : Int} (hm : 0 < m) {xs os : List Int} {r : Int} (h : SmallInv B m xs os 0 r) : val B os = val B xs / m ∧ r = val B xs % m := by
  have e := h.eq
  have h0 := h.r0
  have h1 := h.r1
  simp only [List.drop_zero] at e
  rw [← e]
  refine ⟨?_, ?_⟩
  · rw [Int.add_comm, Int.add_mul_ediv_left _ _ (by omega), Int.ediv_eq_zero_of_lt h0 h1, Int.zero_add]
  · rw [Int.add_comm, Int.add_mul_emod_self_left, Int.emod_eq_of_lt h0 h1]

/-! ### differences with a borrow that is 0 or 1 -/
theorem borrow_at {B t : Int} (h0 : -B ≤ t) (h1 : t < B) : (t < 0 → t + B = t % B ∧ (-1 : Int) = t / B) ∧ (¬ t < 0 → t = t % B ∧ (0 : Int) = t / B) := by
  refine ⟨fun h => ?_, fun h => ⟨(Int.emod_eq_of_lt (by omega) h1).symm, (Int.ediv_eq_zero_of_lt (by omega) h1).symm⟩⟩
  have e : t = (t + B) + B * (-1) := by omega
  refine ⟨?_, ?_⟩
  · conv => rhs; rw [e]
    rw [Int.add_mul_emod_self_left, Int.emod_eq_of_lt (by omega) (by omega)]
  · conv => rhs; rw [e]
    rw [Int.add_mul_ediv_left _ _ (by omega), Int.ediv_eq_zero_of_lt (by omega) (by omega)]; rfl

/-! ### a stretch less g times d, into a new list -/
structure LessInv (B g : Int) (ds us ws : List Int) (k i : Nat) (c : Int) : Prop where
  c0 : 0 ≤ c
  c1 : c ≤ B
  dig : ∀ t, t < i → 0 ≤ dg ws t ∧ dg ws t < B
  eq : val B (ws.take i) - B ^ i * c = val B ((us.drop k).take i) - g * val B (ds.take i)
theorem LessInv.start {B g : Int} (hB : 0 < B) (ds us ws : List Int) (k : Nat) : LessInv B g ds us ws k 0 0 :=
  ⟨Int.le_refl _, by omega, fun t h => by omega, by simp [val]⟩
theorem LessInv.step {B g : Int} (hB : 1 < B) {ds us ws : List Int} {k i : Nat} {c : Int} (h : LessInv B g ds us ws k i c) (g0 : 0 ≤ g) (g1 : g < B) (hd : Dgs B ds) (hu : Dgs B us) (hi : i < ws.length)
    {t x x' c' : Int} (ht : t = c + dg ds i * g) (hx : x = dg us (k + i) - t % B) (hneg : x < 0 → x' = x + B ∧ c' = t / B + 1) (hpos : ¬ x < 0 → x' = x ∧ c' = t / B) : LessInv B g ds us (ws.set i x') k (i + 1) c' := by
  have h0 := h.c0
  have h1 := h.c1
  have h2 := dg_lt (by omega) hd i
  have h3 := dg_lt (by omega) hu (k + i)
  have h4 := mul_bd h2.1 h2.2 g0 g1
  obtain ⟨e1, e2, e3⟩ := div_mod_bd (t := t) (B := B) (by omega)
  have h5 : (B - 1) * (B - 1) + B = B * (B - 1) + 1 := by grind
  have hq0 : 0 ≤ t / B := Int.ediv_nonneg (by omega) (by omega)
  have hq1 : t / B < B := by
    refine Int.ediv_lt_of_lt_mul (by omega) ?_
    have : B * (B - 1) = B * B - B := by grind
    omega
  have hx' : 0 ≤ x' ∧ x' < B ∧ 0 ≤ c' ∧ c' ≤ B ∧ x' - B * c' = dg us (k + i) - t := by
    by_cases hn : x < 0
    · obtain ⟨rfl, rfl⟩ := hneg hn
      refine ⟨by omega, by omega, by omega, by omega, ?_⟩
      rw [Int.mul_add, Int.mul_one]; omega
    · obtain ⟨rfl, rfl⟩ := hpos hn
      exact ⟨by omega, by omega, by omega, by omega, by omega⟩
  refine ⟨hx'.2.2.1, hx'.2.2.2.1, ?_, ?_⟩
  · intro s hs
    rcases Nat.lt_or_ge s i with h6 | h6
    · rw [dg_set_ne _ _ (by omega)]; exact h.dig s h6
    · obtain rfl : s = i := by omega
      rw [dg_set_eq _ _ hi]; exact ⟨hx'.1, hx'.2.1⟩
  · rw [val_take_succ, val_take_succ, val_take_succ, val_set_take _ _ _ _ (Nat.le_refl _), dg_set_eq _ _ hi, dg_drop, Int.pow_succ]
    have a0 := h.eq
    have a1 : B ^ i * (x' - B * c') = B ^ i * x' - B ^ i * B * c' := by grind
    have a2 : B ^ i * (dg us (k + i) - t) = B ^ i * dg us (k + i) - B ^ i * c - g * (B ^ i * dg ds i) := by rw [ht]; grind
    rw [hx'.2.2.2.2, a2] at a1
    have a3 : g * (val B (ds.take i) + B ^ i * dg ds i) = g * val B (ds.take i) + g * (B ^ i * dg ds i) := by grind
    omega
theorem LessInv.done {B g : Int} (hB : 1 < B) {ds us ws : List Int} {k m : Nat} {c : Int} (h : LessInv B g ds us ws k m c) (hd : ds.length ≤ m) (hw : ws.length = m) :
    Dgs B ws ∧ (c = 0 → val B ws = val B ((us.drop k).take m) - g * val B ds) ∧ (c ≠ 0 → val B ((us.drop k).take m) < g * val B ds) := by
  have e := h.eq
  have h0 := h.c0
  have hdg : Dgs B ws := Dgs.mk (fun j hj => h.dig j (by omega))
  rw [List.take_of_length_le (l := ds) hd, List.take_of_length_le (l := ws) (by omega)] at e
  have hlt := val_lt (by omega) hdg
  rw [hw] at hlt
  refine ⟨hdg, fun hc => ?_, fun hc => ?_⟩
  · rw [hc, Int.mul_zero, Int.sub_zero] at e; exact e
  · have : B ^ m * 1 ≤ B ^ m * c := Int.mul_le_mul_of_nonneg_left (by omega) (Int.le_of_lt (pow_pos' (by omega) m))
    omega

end Go.Proofs.YtjeaakkbkjhldaaGreatDoor
