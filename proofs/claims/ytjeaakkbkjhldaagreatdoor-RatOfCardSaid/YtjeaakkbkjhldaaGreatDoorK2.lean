import Derived.WalkKit
import Derived.KernelRfl
import Derived.Deep.QuietTactic
import Derived.BigQuiet
import Derived.Deep.LoopGhost
import Derived.Deep.RegionHeld3
import Derived.Deep.DeepCutAuto
import Derived.Deep.AppendLies
import Derived.WalkLawsBesides
import Derived.WalkSpells
import Derived.Test.YtjeaakkbkjhldaaGreatDoorK1
import Derived.Test.YtjeaakkbkjhldaaGreatDoorProg
import Derived.StillTailTactics
namespace Go.Proofs.YtjeaakkbkjhldaaGreatDoor
open Go.RowKit

/-! ### worlds -/
theorem bthen {w w1 w2 : World} (h : Below w.heap.size w w1) (k : Below w1.heap.size w1 w2) : Below w.heap.size w w2 :=
  h.trans (k.mono h.size)
theorem bthen' {B : Nat} {w w1 w2 : World} (h : Below B w w1) (hB : B ≤ w1.heap.size) (k : Below w1.heap.size w1 w2) : Below B w w2 :=
  h.trans (k.mono hB)
theorem bcell {W w1 : World} (hb : Below W.heap.size W w1) : (∀ b o, b < W.heap.size → w1.cell? ⟨b, o, none⟩ = W.cell? ⟨b, o, none⟩) ∧ (∀ b o, b < W.heap.size → w1.frozen? ⟨b, o, none⟩ = W.frozen? ⟨b, o, none⟩) :=
  ⟨fun b o h => hb.cell (p := ⟨b, o, none⟩) h, fun b o h => hb.frozen (p := ⟨b, o, none⟩) h⟩
theorem old_cell {w w1 : World} (hb : Below w.heap.size w w1) {a : Addr} {v : Value} (h : w.cell? a = some v) : w1.cell? a = some v :=
  (hb.cell (World.block_lt_of_cell? w _ h)).trans h

/-! ### a slice of numbers that is read -/
/-- A slice of numbers of kind k at A, of n elements and capacity c, reads as xs. -/
structure RdS (w : World) (k : IntKind) (A : Option Addr) (n c : Nat) (xs : List Int) : Prop where
  len : xs.length = n
  cap : n ≤ c
  big : c ≤ 9223372036854775807
  cell : ∀ j, j < n → ∃ ad, A = some ad ∧ w.cell? (ad.add j) = some (.int k (dg xs j))

theorem RdS.below {w w1 : World} {k : IntKind} {A : Option Addr} {n c : Nat} {xs : List Int} (h : RdS w k A n c xs) (hb : Below w.heap.size w w1) : RdS w1 k A n c xs :=
  ⟨h.len, h.cap, h.big, fun j hj => by
    obtain ⟨ad, e, hc⟩ := h.cell j hj
    exact ⟨ad, e, old_cell hb hc⟩⟩
theorem RdS.take {w : World} {k : IntKind} {A : Option Addr} {n c : Nat} {xs : List Int} (h : RdS w k A n c xs) {m : Nat} (hm : m ≤ n) : RdS w k A m c (xs.take m) :=
  ⟨by rw [List.length_take, h.len]; omega, Nat.le_trans hm h.cap, h.big, fun j hj => by
    obtain ⟨ad, e, hc⟩ := h.cell j (by omega)
    exact ⟨ad, e, by rw [dg_take, if_pos hj]; exact hc⟩⟩
theorem RdS.drew {w : World} {k : IntKind} {A : Option Addr} {n c : Nat} {xs : List Int} (h : RdS w k A n c xs) : RdS w.drew k A n c xs := h.below ⟨rfl, rfl, rfl, Nat.le_refl _, fun _ _ => rfl⟩
theorem RdS.nil (w : World) (k : IntKind) : RdS w k none 0 0 [] := ⟨rfl, Nat.le_refl _, by omega, fun j h => by omega⟩

theorem addr_add_block (a : Addr) (j : Nat) : (a.add j).block = a.block := by unfold Addr.add; split <;> rfl
theorem RdS.far {w : World} {k : IntKind} {A : Option Addr} {n c : Nat} {xs : List Int} (h : RdS w k A n c xs) {p : Addr} (hA : ∀ ad, A = some ad → ad.block ≠ p.block) (u : Value) : RdS (w.setCell p u) k A n c xs :=
  ⟨h.len, h.cap, h.big, fun j hj => by
    obtain ⟨ad, rfl, hc⟩ := h.cell j hj
    refine ⟨ad, rfl, ?_⟩
    rw [World.cell?_of_block (w := w) (heap_setCell_other w p _ u (by rw [addr_add_block]; exact hA ad rfl))]
    exact hc⟩

/-! ### a slice of numbers of the call's own, at the head of a block -/
structure OwnS (w : World) (k : IntKind) (e g n c : Nat) (ys : List Int) : Prop where
  len : ys.length = n
  cap : n ≤ c
  big : c ≤ 9223372036854775807
  blk : ∃ cur, w.heap[g]? = some (.cells cur e (0, 0)) ∧ cur.size = c ∧ cur.toList.take n = ys.map (.int k)

section
variable {w w1 : World} {k : IntKind} {e g n c : Nat} {ys : List Int}
theorem OwnS.lt (h : OwnS w k e g n c ys) : g < w.heap.size := by
  obtain ⟨cur, hc, _⟩ := h.blk
  exact (Array.getElem?_eq_some_iff.1 hc).1
theorem OwnS.cell (h : OwnS w k e g n c ys) (j : Nat) (hj : j < n) : w.cell? ⟨g, j, none⟩ = some (.int k (dg ys j)) := by
  obtain ⟨cur, hc, hs, ht⟩ := h.blk
  rw [cell_of_row w g j cur e (0, 0) hc]
  have : (cur.toList.take n)[j]? = (ys.map (Value.int k))[j]? := by rw [ht]
  rw [List.getElem?_take, if_pos hj, List.getElem?_map, dg_getElem (by rw [h.len]; exact hj)] at this
  simpa using this
theorem OwnS.frozen (h : OwnS w k e g n c ys) (j : Nat) : w.frozen? ⟨g, j, none⟩ = false := by
  obtain ⟨cur, hc, hs, ht⟩ := h.blk
  exact frozen_of_row w g j cur e hc
theorem OwnS.set (h : OwnS w k e g n c ys) (j : Nat) (x : Int) : OwnS (w.setCell ⟨g, j, none⟩ (.int k x)) k e g n c (ys.set j x) := by
  obtain ⟨cur, hc, hs, ht⟩ := h.blk
  refine ⟨by rw [List.length_set]; exact h.len, h.cap, h.big, cur.setIfInBounds j (.int k x), heap_setCell_same w g j cur e _ hc, by simpa using hs, ?_⟩
  rw [Array.toList_setIfInBounds, List.map_set, ← ht]
  by_cases hj : j < n
  · rw [List.take_set]
  · rw [List.take_set_of_le (by omega), List.set_eq_of_length_le]
    rw [List.length_take]; omega
theorem OwnS.below (h : OwnS w k e g n c ys) (hb : Below w.heap.size w w1) : OwnS w1 k e g n c ys := by
  obtain ⟨cur, hc, r⟩ := h.blk
  exact ⟨h.len, h.cap, h.big, cur, (hb.block g h.lt).trans hc, r⟩
theorem OwnS.alloc (h : OwnS w k e g n c ys) (o : Obj) : OwnS (w.alloc o) k e g n c ys := h.below ((Below.refl _ _).alloc (Nat.le_refl _) o)
theorem OwnS.drew (h : OwnS w k e g n c ys) : OwnS w.drew k e g n c ys := h.below ⟨rfl, rfl, rfl, Nat.le_refl _, fun _ _ => rfl⟩
theorem dN_below (w : World) (N : Nat) : Below w.heap.size w (w.drewN N) := ⟨rfl, rfl, rfl, Nat.le_refl _, fun _ _ => rfl⟩
theorem OwnS.drewN (h : OwnS w k e g n c ys) (N : Nat) : OwnS (w.drewN N) k e g n c ys := h.below (dN_below w N)
theorem OwnS.far (h : OwnS w k e g n c ys) {p : Addr} (hp : p.block ≠ g) (u : Value) : OwnS (w.setCell p u) k e g n c ys := by
  obtain ⟨cur, hc, r⟩ := h.blk
  exact ⟨h.len, h.cap, h.big, cur, (heap_setCell_other w p g u (fun e => hp e.symm)).trans hc, r⟩
theorem OwnS.rd (h : OwnS w k e g n c ys) : RdS w k (some ⟨g, 0, none⟩) n c ys :=
  ⟨h.len, h.cap, h.big, fun j hj => ⟨⟨g, 0, none⟩, rfl, by rw [Addr.add_lit, Nat.zero_add]; exact h.cell j hj⟩⟩
theorem OwnS.take (h : OwnS w k e g n c ys) {m : Nat} (hm : m ≤ n) : OwnS w k e g m c (ys.take m) := by
  obtain ⟨cur, hc, hs, ht⟩ := h.blk
  refine ⟨by rw [List.length_take, h.len]; omega, Nat.le_trans hm h.cap, h.big, cur, hc, hs, ?_⟩
  rw [List.map_take, ← ht, List.take_take, Nat.min_eq_left hm]
theorem OwnS.of_row {base : Nat} {vs : List Value} (h : w.ownsRow base e 1 (.slice (some ⟨g, 0, none⟩) n c) n vs) (hv : vs = ys.map (.int k)) : OwnS w k e g n c ys := by
  subst hv
  rcases h.2 with ⟨h', _⟩ | ⟨g', cap', cur, h', _, hg, h1, h2, h3, h4⟩
  · simp at h'
  · simp only [Value.slice.injEq, Option.some.injEq, Addr.mk.injEq, and_true, true_and] at h'
    obtain ⟨rfl, rfl⟩ := h'
    exact ⟨by simpa using h.1, h1, h2, cur, hg, by simpa using h3, by simpa using h4⟩
theorem OwnS.row {base : Nat} (h : OwnS w k e g n c ys) (hb : base ≤ g) : w.ownsRow base e 1 (.slice (some ⟨g, 0, none⟩) n c) n (ys.map (.int k)) := by
  obtain ⟨cur, hc, hs, ht⟩ := h.blk
  exact ⟨by simp [h.len], .inr ⟨g, c, cur, rfl, hb, hc, h.cap, h.big, by simpa using hs, by simpa using ht⟩⟩
end

theorem bset {B : Nat} {w0 w : World} (h : Below B w0 w) {g j : Nat} (hg : B ≤ g) (u : Value) : Below B w0 (w.setCell ⟨g, j, none⟩ u) := h.setCell (p := ⟨g, j, none⟩) hg u

theorem RdS.drewN {w : World} {k : IntKind} {A : Option Addr} {n c : Nat} {xs : List Int} (h : RdS w k A n c xs) (N : Nat) : RdS (w.drewN N) k A n c xs := h.below (dN_below w N)
theorem _root_.Go.RowKit.Below.drewN {B : Nat} {a w : World} (h : Below B a w) (N : Nat) : Below B a (w.drewN N) := ⟨h.os, h.tape, h.output, h.size, h.block⟩

/-- 'make([]T, n)' of a kind of numbers -/
theorem wpl_make {P : Program} {w : World} {ops : Array Oper} {rest : List Oper} {o : Oper} {a : Act} {Q : Exit → Act → World → Prop}
    (hg : o.guard = none) (l c : Operand) (t : TypeId) (hop : o.op = Op.makeSlice t l c)
    (e : TypeId) (k : IntKind) (bytes : Nat) (h1 : P.underlying t = some (.slice e)) (hinfo : (P.info? e).map (fun i => (i.zero, i.size, i.bytes)) = some (some (.int k 0), 1, bytes))
    (kl kc : IntKind) (L C : Int) (n : Nat) (hl : a.eval l = .int kl L) (hc : a.eval c = .int kc C) (hL : L = (n : Int)) (hC : C = (n : Int)) (b2 : bytes * n ≤ 281474976710656) (b3 : n ≤ 9223372036854775807)
    (hK : ∀ w' g, w.heap.size ≤ g → OwnS w' k e g n n (List.replicate n 0) → Below w.heap.size w w' → wpList P ops Q rest (a.put o.dst (.slice (some ⟨g, 0, none⟩) n n)) w') :
    wpList P ops Q (o :: rest) a w := by
  obtain ⟨i, hi, hz0, hz1, hz2⟩ := info_parts hinfo
  refine wpList_make_full w hg l c t hop 0 e i (.int k 0) 1 h1 hi hz0 hz1 kl kc L C n hl hc hL hC (by rw [hz2]; exact b2) b3 (Nat.zero_le _) ?_
  intro w' hown hgr
  refine hK w' w.heap.size (Nat.le_refl _) (OwnS.of_row hown ?_) ⟨hgr.os, hgr.tape, hgr.output, hgr.size, fun i hi => hgr.block i hi (by simp)⟩
  simp only [Nat.mul_one]
  apply List.ext_getElem?
  intro j
  by_cases hj : j < n
  · have hc1 : (Value.int k 0).cells = #[Value.int k 0] := rfl
    simp [madeCells, hc1, hj, Nat.mod_one]
  · simp [madeCells, hj]

/-- The cell of a literal of one number, in the block that was just laid. -/
theorem rd_one (w : World) (k : IntKind) (e : TypeId) (x : Int) : RdS (w.alloc (.cells #[.int k x] e)) k (some ⟨w.heap.size, 0, none⟩) 1 1 [x] :=
  ⟨rfl, Nat.le_refl _, by omega, fun j hj => by
    obtain rfl : j = 0 := by omega
    refine ⟨_, rfl, ?_⟩
    have hb : (w.alloc (.cells #[.int k x] e)).heap[w.heap.size]? = some (.cells #[.int k x] e) := heap_alloc_new w _
    rw [Addr.add_lit, Nat.add_zero, cell_of_row _ _ _ _ _ _ hb]; rfl⟩

/-- 'append(s, x...)' of numbers onto nothing, or onto a row of the call's own. -/
theorem wpl_append {P : Program} {w : World} {ops : Array Oper} {rest : List Oper} {o : Oper} {a : Act} {Q : Exit → Act → World → Prop} (hgd : o.guard = none) (s x : Operand) (t : TypeId)
    (ho : o.op = .call { callee := .builtin .append, args := #[s, x], argTypes := #[t, t] })
    (B0 : Nat) (e : TypeId) (k : IntKind) (bytes : Nat) (ht : P.underlying t = some (.slice e)) (hinfo : (P.info? e).map (fun i => (i.zero, i.size, i.bytes)) = some (some (.int k 0), 1, bytes))
    (v : Value) (n : Nat) (ys : List Int) (hs : a.eval s = v) (hown : w.ownsRow B0 e 1 v n (ys.map (.int k)))
    (ad : Addr) (m c : Nat) (zs : List Int) (hx : a.eval x = .slice (some ad) m c) (hr : RdS w k (some ad) m c zs) (hm : 0 < m) (hn : n + m ≤ 4398046511104) (hby : bytes ≤ 8)
    (w0 : World) (hB : Below B0 w0 w) (hB0 : B0 ≤ w.heap.size)
    (h : ∀ g cap w', B0 ≤ g → OwnS w' k e g (n + m) cap (ys ++ zs) → Below B0 w0 w' → w.grownBy w' v.ownBlock → wpList P ops Q rest (a.put o.dst (.slice (some ⟨g, 0, none⟩) (n + m) cap)) w') : wpList P ops Q (o :: rest) a w := by
  obtain ⟨i, hi, hz0, hz1, hz2⟩ := info_parts hinfo
  refine wpList_append_lies w hgd s x t ho B0 e i (.int k 0) 1 bytes ht hi hz0 hz1 hz2 rfl (by omega) v n (ys.map (.int k)) hs hown ad m c (zs.map (.int k)) hx (by simp [hr.len]) ?_ ?_ hm (by unfold maxLen; omega) ?_ hB0 _ rfl ?_
  · intro j u hu
    rw [List.getElem?_map] at hu
    by_cases hj : j < m
    · obtain ⟨ad', e', hc⟩ := hr.cell j hj
      obtain rfl := Option.some.inj e'
      rw [dg_getElem (by rw [hr.len]; exact hj)] at hu
      rw [hc]; simpa using hu
    · rw [List.getElem?_eq_none (by rw [hr.len]; omega)] at hu
      simp at hu
  · intro u hu
    obtain ⟨_, _, rfl⟩ := List.mem_map.1 hu
    rfl
  · have : (n + m) * bytes ≤ (n + m) * 8 := Nat.mul_le_mul_left _ hby
    omega
  · intro g cap w' hown' hgr hat hlt
    have hb : ∀ k, v.ownBlock = some k → B0 ≤ k := by
      intro k hk
      rcases hown.2 with ⟨rfl, _⟩ | ⟨g2, cap2, cur2, rfl, hg2, _⟩
      · simp [Value.ownBlock] at hk
      · simp [Value.ownBlock] at hk; omega
    refine h g cap w' ?_ (OwnS.of_row hown' (by rw [List.map_append])) (hB.grown hgr hB0 hb) hgr
    rcases hat with hat | rfl
    · exact hb g hat
    · exact hB0

/-- A Lean proposition that the walk does not look into. -/
structure Shut (p : Prop) : Prop where mk :: (out : p)

end Go.Proofs.YtjeaakkbkjhldaaGreatDoor

namespace Go.Proofs.YtjeaakkbkjhldaaGreatDoor
open Go.RowKit

theorem info_u32 : (Tryz.prog.info? 73).map (fun i => (i.zero, i.size, i.bytes)) = some (some (.int .u32 0), 1, 4) := by kernel_rfl

/-! ### norm -/
set_option maxHeartbeats 400000 in
theorem norm_calls {w : World} {A : Option Addr} {n c : Nat} {xs : List Int} (h : RdS w .u32 A n c xs) :
    Calls Tryz.prog 91 #[.slice A n c] w fun e w' => e = .returned (.slice A (nlen xs n) c) ∧ w = w' := by
  have hbig := h.big
  have hcap := h.cap
  go_enter Tryz.func91, Tryz.ntmps91
  go_wp2
  go_loop [3] (fun i => ∃ k : Nat, k ≤ n ∧ i = .int .i64 k ∧ nlen xs k = nlen xs n) (fun i => (intOf i).toNat)
  case atStart => exact ⟨n, Nat.le_refl _, rfl, rfl⟩
  case round =>
    obtain ⟨k, hk, rfl, hn⟩ := hrel
    have HN : Hid (nlen xs k = nlen xs n) := hn
    clear hn
    match k with
    | 0 =>
      go_wp2
      go_ret
      rw [← HN.out]; exact ⟨rfl, rfl⟩
    | k + 1 =>
      obtain ⟨ad, rfl, hc⟩ := h.cell k (by omega)
      by_cases h0 : dg xs k = 0
      · have h1 : (dg xs k == 0) = true := by simpa using h0
        have H0 : Hid (dg xs k = 0) := h0
        clear h0
        go_wp2
        go_round
        case rel => exact ⟨k, by omega, by go_num, by rw [← HN.out, nlen, if_pos H0.out]⟩
        case measure => simp [intOf]
      · have h1 : (dg xs k == 0) = false := by simpa using h0
        have H0 : Hid (¬ dg xs k = 0) := h0
        clear h0
        go_wp2
        go_ret
        rw [← HN.out, nlen, if_neg H0.out]; exact ⟨rfl, rfl⟩

/-- what norm leaves of a slice that is read -/
theorem nrm_of {w : World} {k : IntKind} {A : Option Addr} {n c : Nat} {xs : List Int} {B : Int} (h : RdS w k A n c xs) (d : Dgs B xs) :
    ∃ m xs', RdS w k A m c xs' ∧ Dgs B xs' ∧ m ≤ n ∧ val B xs' = val B xs ∧ Nrm xs' ∧ nlen xs n = m := by
  refine ⟨nlen xs n, xs.take (nlen xs n), h.take (nlen_le _ _), d.take _, nlen_le _ _, ?_, Nrm.nlen (by rw [h.len]; exact Nat.le_refl _), rfl⟩
  rw [val_nlen, List.take_of_length_le (by rw [h.len]; exact Nat.le_refl _)]

end Go.Proofs.YtjeaakkbkjhldaaGreatDoor

namespace Go.Proofs.YtjeaakkbkjhldaaGreatDoor
open Go.RowKit

/-! ### plus -/
set_option maxHeartbeats 1000000 in
theorem plus_le {w : World} {A1 A2 : Option Addr} {n1 c1 n2 c2 : Nat} {xs ys : List Int} (hx : RdS w .u32 A1 n1 c1 xs) (hy : RdS w .u32 A2 n2 c2 ys) (dx : Dgs 4294967296 xs) (dy : Dgs 4294967296 ys) (hl : n1 ≤ 1099511627776) (hle : n2 ≤ n1) :
    Calls Tryz.prog 99 #[.slice A1 n1 c1, .slice A2 n2 c2] w fun e w' => ∃ g n c os, e = .returned (.slice (some ⟨g, 0, none⟩) n c) ∧ w.heap.size ≤ g ∧ OwnS w' .u32 73 g n c os ∧ Dgs 4294967296 os ∧ val 4294967296 os = val 4294967296 xs + val 4294967296 ys ∧ n ≤ n1 + 1 ∧ Below w.heap.size w w' := by
  have hlt : ¬ n1 < n2 := by omega
  have hltb : decide (n1 < n2) = false := by simp; omega
  have b1 := hx.big
  have b2 := hx.cap
  have b3 := hy.big
  have b4 := hy.cap
  go_enter Tryz.func99, Tryz.ntmps99
  go_wp2_with (at_make; refine wpl_make rfl _ _ 22 rfl 73 .u32 4 Tryz.underlying22 info_u32 .i64 .i64 _ _ (n1 + 1) rfl rfl (by omega) (by omega) (by omega) (by omega) ?_; intro w1 g hg own hb)
  go_loopw [6, 22] (fun c i wr => ∃ (k : Nat) (cc : Int) (os : List Int), k ≤ n1 ∧ i = .int .i64 k ∧ c = .int .u64 cc ∧ Shut (PlusInv 4294967296 xs ys os k cc) ∧ OwnS wr .u32 73 g (n1 + 1) (n1 + 1) os ∧ Below w.heap.size w wr) (fun _ i _ => n1 - (intOf i).toNat)
  case atStart => exact ⟨0, 0, _, Nat.zero_le _, rfl, rfl, ⟨PlusInv.start _ (by omega) xs ys _⟩, own, hb⟩
  case round =>
    clear own hb
    obtain ⟨k, cc, os, hk, rfl, rfl, HI, own, hb⟩ := hrel
    have i0 := HI.out.c0
    have i1 := HI.out.c1
    have hos := own.len
    by_cases hlt2 : k < n1
    · obtain ⟨ad, rfl, hcell⟩ := hx.cell k hlt2
      have hcell2 := old_cell hb hcell
      have r1 := dg_lt (by omega) dx k
      have r2 := dg_lt (by omega) dy k
      clear hcell
      have HS := HI.out.step (by omega) dx dy (by omega) rfl rfl rfl
      have fz := own.frozen k
      have fc := own.cell k (by omega)
      by_cases hk2 : k < n2
      · obtain ⟨ad2, rfl, hcell3⟩ := hy.cell k hk2
        have hcell4 := old_cell hb hcell3
        clear hcell3
        go_wp2
        go_roundw
        case rel => exact ⟨k + 1, _, _, by omega, by go_num, rfl, ⟨HS⟩, own.set k _, bset hb hg _⟩
        case measure => simp [intOf]; omega
      · have hz : dg ys k = 0 := dg_ge (by rw [hy.len]; omega)
        rw [hz, Int.add_zero] at HS
        clear hz
        go_wp2
        go_roundw
        case rel => exact ⟨k + 1, _, _, by omega, by go_num, rfl, ⟨HS⟩, own.set k _, bset hb hg _⟩
        case measure => simp [intOf]; omega
    · obtain rfl : k = n1 := by omega
      have fz := own.frozen k
      have fc := own.cell k (by omega)
      have hd : cc % 4294967296 = cc := Int.emod_eq_of_lt i0 (by omega)
      have HD := Shut.mk (HI.out.done (by omega) hx.len (by rw [hy.len]; omega) (by omega) (d := cc) rfl)
      go_wp2
      go_ret
      exact ⟨g, _, _, _, rfl, hg, own.set k _, HD.out.1, HD.out.2, Nat.le_refl _, bset hb hg _⟩

set_option maxHeartbeats 1000000 in
theorem plus_gt {w : World} {A1 A2 : Option Addr} {n1 c1 n2 c2 : Nat} {xs ys : List Int} (hx : RdS w .u32 A1 n1 c1 xs) (hy : RdS w .u32 A2 n2 c2 ys) (dx : Dgs 4294967296 xs) (dy : Dgs 4294967296 ys) (hl : n1 ≤ 1099511627776) (hle : n2 < n1) :
    Calls Tryz.prog 99 #[.slice A2 n2 c2, .slice A1 n1 c1] w fun e w' => ∃ g n c os, e = .returned (.slice (some ⟨g, 0, none⟩) n c) ∧ w.heap.size ≤ g ∧ OwnS w' .u32 73 g n c os ∧ Dgs 4294967296 os ∧ val 4294967296 os = val 4294967296 xs + val 4294967296 ys ∧ n ≤ n1 + 1 ∧ Below w.heap.size w w' := by
  have hltb : decide (n2 < n1) = true := by simp; omega
  have b1 := hx.big
  have b2 := hx.cap
  have b3 := hy.big
  have b4 := hy.cap
  go_enter Tryz.func99, Tryz.ntmps99
  go_wp2_with (at_make; refine wpl_make rfl _ _ 22 rfl 73 .u32 4 Tryz.underlying22 info_u32 .i64 .i64 _ _ (n1 + 1) rfl rfl (by omega) (by omega) (by omega) (by omega) ?_; intro w1 g hg own hb)
  go_loopw [6, 22] (fun c i wr => ∃ (k : Nat) (cc : Int) (os : List Int), k ≤ n1 ∧ i = .int .i64 k ∧ c = .int .u64 cc ∧ Shut (PlusInv 4294967296 xs ys os k cc) ∧ OwnS wr .u32 73 g (n1 + 1) (n1 + 1) os ∧ Below w.heap.size w wr) (fun _ i _ => n1 - (intOf i).toNat)
  case atStart => exact ⟨0, 0, _, Nat.zero_le _, rfl, rfl, ⟨PlusInv.start _ (by omega) xs ys _⟩, own, hb⟩
  case round =>
    clear own hb
    obtain ⟨k, cc, os, hk, rfl, rfl, HI, own, hb⟩ := hrel
    have i0 := HI.out.c0
    have i1 := HI.out.c1
    have hos := own.len
    by_cases hlt2 : k < n1
    · obtain ⟨ad, rfl, hcell⟩ := hx.cell k hlt2
      have hcell2 := old_cell hb hcell
      have r1 := dg_lt (by omega) dx k
      have r2 := dg_lt (by omega) dy k
      clear hcell
      have HS := HI.out.step (by omega) dx dy (by omega) rfl rfl rfl
      have fz := own.frozen k
      have fc := own.cell k (by omega)
      by_cases hk2 : k < n2
      · obtain ⟨ad2, rfl, hcell3⟩ := hy.cell k hk2
        have hcell4 := old_cell hb hcell3
        clear hcell3
        go_wp2
        go_roundw
        case rel => exact ⟨k + 1, _, _, by omega, by go_num, rfl, ⟨HS⟩, own.set k _, bset hb hg _⟩
        case measure => simp [intOf]; omega
      · have hz : dg ys k = 0 := dg_ge (by rw [hy.len]; omega)
        rw [hz, Int.add_zero] at HS
        clear hz
        go_wp2
        go_roundw
        case rel => exact ⟨k + 1, _, _, by omega, by go_num, rfl, ⟨HS⟩, own.set k _, bset hb hg _⟩
        case measure => simp [intOf]; omega
    · obtain rfl : k = n1 := by omega
      have fz := own.frozen k
      have fc := own.cell k (by omega)
      have hd : cc % 4294967296 = cc := Int.emod_eq_of_lt i0 (by omega)
      have HD := Shut.mk (HI.out.done (by omega) hx.len (by rw [hy.len]; omega) (by omega) (d := cc) rfl)
      go_wp2
      go_ret
      exact ⟨g, _, _, _, rfl, hg, own.set k _, HD.out.1, HD.out.2, Nat.le_refl _, bset hb hg _⟩

theorem plus_calls {w : World} {A1 A2 : Option Addr} {n1 c1 n2 c2 : Nat} {xs ys : List Int} (hx : RdS w .u32 A1 n1 c1 xs) (hy : RdS w .u32 A2 n2 c2 ys) (dx : Dgs 4294967296 xs) (dy : Dgs 4294967296 ys) (hl : n1 ≤ 1099511627776) (hl2 : n2 ≤ 1099511627776) :
    Calls Tryz.prog 99 #[.slice A1 n1 c1, .slice A2 n2 c2] w fun e w' => ∃ g n c os, e = .returned (.slice (some ⟨g, 0, none⟩) n c) ∧ w.heap.size ≤ g ∧ OwnS w' .u32 73 g n c os ∧ Dgs 4294967296 os ∧ val 4294967296 os = val 4294967296 xs + val 4294967296 ys ∧ n ≤ max n1 n2 + 1 ∧ Below w.heap.size w w' := by
  by_cases h : n2 ≤ n1
  · refine (plus_le hx hy dx dy hl h).mono ?_
    rintro e w' ⟨g, n, c, os, h1, h2, h3, h4, h5, h6, h7⟩
    exact ⟨g, n, c, os, h1, h2, h3, h4, h5, by omega, h7⟩
  · refine (plus_gt hy hx dy dx hl2 (by omega)).mono ?_
    rintro e w' ⟨g, n, c, os, h1, h2, h3, h4, h5, h6, h7⟩
    exact ⟨g, n, c, os, h1, h2, h3, h4, by omega, by omega, h7⟩

/-! ### minus -/
set_option maxHeartbeats 1000000 in
theorem minus_calls {w : World} {A1 A2 : Option Addr} {n1 c1 n2 c2 : Nat} {xs ys : List Int} (hx : RdS w .u32 A1 n1 c1 xs) (hy : RdS w .u32 A2 n2 c2 ys) (dx : Dgs 4294967296 xs) (dy : Dgs 4294967296 ys) (hl : n1 ≤ 1099511627776) (hle : val 4294967296 ys ≤ val 4294967296 xs) :
    Calls Tryz.prog 100 #[.slice A1 n1 c1, .slice A2 n2 c2] w fun e w' => ∃ g n c os, e = .returned (.slice (some ⟨g, 0, none⟩) n c) ∧ w.heap.size ≤ g ∧ OwnS w' .u32 73 g n c os ∧ Dgs 4294967296 os ∧ val 4294967296 os = val 4294967296 xs - val 4294967296 ys ∧ n ≤ n1 ∧ Below w.heap.size w w' := by
  obtain ⟨m1, xs', hx', dx', hm1, hv1, hn1, hnl1⟩ := nrm_of hx dx
  obtain ⟨m2, ys', hy', dy', hm2, hv2, hn2, hnl2⟩ := nrm_of hy dy
  have HLE : Shut (val 4294967296 ys' ≤ val 4294967296 xs') := ⟨by rw [hv1, hv2]; exact hle⟩
  have HM : m2 ≤ m1 := by
    rcases Nat.lt_or_ge m1 m2 with h | h
    · have := hn2.lt_of_len (B := 4294967296) (by omega) dx' dy' (by rw [hx'.len, hy'.len]; exact h)
      have := HLE.out
      omega
    · exact h
  have HN1 := Shut.mk hnl1
  have HN2 := Shut.mk hnl2
  have HV1 := Shut.mk hv1
  have HV2 := Shut.mk hv2
  clear hle hn1 hn2 hnl1 hnl2 hv1 hv2
  have b1 := hx'.big
  have b2 := hx'.cap
  have b3 := hy'.big
  have b4 := hy'.cap
  go_enter Tryz.func100, Tryz.ntmps100
  go_wp2_with fail
  refine (norm_calls hx).mono ?_
  rintro e w' ⟨rfl, rfl⟩
  rw [HN1.out]
  go_wp2_with fail
  refine (norm_calls hy).mono ?_
  rintro e w' ⟨rfl, rfl⟩
  rw [HN2.out]
  go_wp2_with (at_make; refine wpl_make rfl _ _ 22 rfl 73 .u32 4 Tryz.underlying22 info_u32 .i64 .i64 _ _ m1 rfl rfl (by omega) (by omega) (by omega) (by omega) ?_; intro w1 g hg own hb)
  go_loopw [6, 18] (fun c i wr => ∃ (k : Nat) (cc : Int) (os : List Int), k ≤ m1 ∧ i = .int .i64 k ∧ c = .int .i64 cc ∧ Shut (MinusInv 4294967296 xs' ys' os k cc) ∧ OwnS wr .u32 73 g m1 m1 os ∧ Below w.heap.size w wr) (fun _ i _ => m1 - (intOf i).toNat)
  case atStart => exact ⟨0, 0, _, Nat.zero_le _, rfl, rfl, ⟨MinusInv.start _ (by omega) xs' ys' _⟩, own, hb⟩
  case round =>
    clear own hb
    obtain ⟨k, cc, os, hk, rfl, rfl, HI, own, hb⟩ := hrel
    have i0 := HI.out.c0
    have i1 := HI.out.c1
    have hos := own.len
    by_cases hlt2 : k < m1
    · obtain ⟨ad, rfl, hcell⟩ := hx'.cell k hlt2
      have hcell2 := old_cell hb hcell
      have r1 := dg_lt (by omega) dx' k
      have r2 := dg_lt (by omega) dy' k
      clear hcell
      have HS := HI.out.step (by omega) dx' dy' (by omega) rfl rfl rfl
      have fz := own.frozen k
      have fc := own.cell k (by omega)
      by_cases hk2 : k < m2
      · obtain ⟨ad2, rfl, hcell3⟩ := hy'.cell k hk2
        have hcell4 := old_cell hb hcell3
        clear hcell3
        go_wp2
        go_roundw
        case rel => exact ⟨k + 1, _, _, by omega, by go_num, rfl, ⟨HS⟩, own.set k _, bset hb hg _⟩
        case measure => simp [intOf]; omega
      · have hz : dg ys' k = 0 := dg_ge (by rw [hy'.len]; omega)
        rw [hz, Int.sub_zero] at HS
        clear hz
        go_wp2
        go_roundw
        case rel => exact ⟨k + 1, _, _, by omega, by go_num, rfl, ⟨HS⟩, own.set k _, bset hb hg _⟩
        case measure => simp [intOf]; omega
    · obtain rfl : k = m1 := by omega
      have HD := Shut.mk (HI.out.done (by omega) hx'.len (by rw [hy'.len]; omega) own.len HLE.out)
      go_wp2
      go_ret
      exact ⟨g, _, _, _, rfl, hg, own, HD.out.1, by rw [HD.out.2, HV1.out, HV2.out], hm1, hb⟩

end Go.Proofs.YtjeaakkbkjhldaaGreatDoor

namespace Go.Proofs.YtjeaakkbkjhldaaGreatDoor
open Go.RowKit

theorem wraps_u64 (n : Int) (h0 : 0 ≤ n) (h1 : n < 2 ^ 64) : IntKind.u64.wrap n = n := by rw [IntKind.wrap_u64]; omega
theorem or_add32 {a b : Int} (a0 : 0 ≤ a) (a1 : a < 4294967296) (b0 : 0 ≤ b) (b1 : b < 4294967296) : bits .or .u64 (a * 4294967296) b = a * 4294967296 + b :=
  bits_join .u64 64 (by decide) wraps_u64 32 (a * 4294967296) b (by omega) (by omega) (by omega) b0 (by omega) (by omega)

/-- The block g apart, the world is as it was below its size; it has not shrunk. -/
structure Only (w w' : World) (g : Nat) : Prop where
  os : w'.os = w.os
  tape : w'.tape = w.tape
  output : w'.output = w.output
  size : w'.heap.size = w.heap.size
  block : ∀ k, k ≠ g → w'.heap[k]? = w.heap[k]?
theorem Only.refl (w : World) (g : Nat) : Only w w g := ⟨rfl, rfl, rfl, rfl, fun _ _ => rfl⟩
theorem Only.set {w w1 : World} {g : Nat} (h : Only w w1 g) (j : Nat) (u : Value) : Only w (w1.setCell ⟨g, j, none⟩ u) g :=
  ⟨h.os, h.tape, h.output, by rw [← h.size]; simp [World.setCell], fun k hk => (heap_setCell_other w1 ⟨g, j, none⟩ k u hk).trans (h.block k hk)⟩
theorem Only.drew {w w1 : World} {g : Nat} (h : Only w w1 g) : Only w w1.drew g := ⟨h.os, h.tape, h.output, h.size, h.block⟩
theorem Only.drewN {w w1 : World} {g : Nat} (h : Only w w1 g) (n : Nat) : Only w (w1.drewN n) g := ⟨h.os, h.tape, h.output, h.size, h.block⟩
theorem Only.trans {w w1 w2 : World} {g : Nat} (h : Only w w1 g) (k : Only w1 w2 g) : Only w w2 g :=
  ⟨k.os.trans h.os, k.tape.trans h.tape, k.output.trans h.output, k.size.trans h.size, fun i hi => (k.block i hi).trans (h.block i hi)⟩
theorem Only.below {B : Nat} {w0 w w1 : World} {g : Nat} (h : Only w w1 g) (hb : Below B w0 w) (hg : B ≤ g) : Below B w0 w1 :=
  hb.trans ⟨h.os, h.tape, h.output, by rw [h.size]; exact Nat.le_refl _, fun k hk => h.block k (by omega)⟩
theorem Only.cell {w w1 : World} {g : Nat} (h : Only w w1 g) {a : Addr} (ha : a.block ≠ g) : w1.cell? a = w.cell? a := World.cell?_of_block (w := w) (h.block a.block ha)
theorem Only.own {w w1 : World} {g : Nat} (h : Only w w1 g) {k : IntKind} {e g' n c : Nat} {ys : List Int} (ho : OwnS w k e g' n c ys) (hg : g' ≠ g) : OwnS w1 k e g' n c ys := by
  obtain ⟨cur, hc, r⟩ := ho.blk
  exact ⟨ho.len, ho.cap, ho.big, cur, (h.block g' hg).trans hc, r⟩
theorem Only.rd {w w1 : World} {g : Nat} (h : Only w w1 g) {k : IntKind} {A : Option Addr} {n c : Nat} {xs : List Int} (hr : RdS w k A n c xs) (hA : ∀ ad, A = some ad → ad.block ≠ g) : RdS w1 k A n c xs :=
  ⟨hr.len, hr.cap, hr.big, fun j hj => by
    obtain ⟨ad, rfl, hc⟩ := hr.cell j hj
    exact ⟨ad, rfl, (h.cell (by rw [addr_add_block]; exact hA ad rfl)).trans hc⟩⟩

/-! ### shrink -/
set_option maxHeartbeats 1000000 in
theorem shrink_calls {w : World} {g n c : Nat} {xs : List Int} {by' : Int} (h : OwnS w .u32 73 g n c xs) (dx : Dgs 4294967296 xs) (b0 : 0 < by') (b1 : by' ≤ 4294967295) :
    Calls Tryz.prog 92 #[.slice (some ⟨g, 0, none⟩) n c, .int .u32 by'] w fun e w' => ∃ ys, e = .returned (.int .u32 (val 4294967296 xs % by')) ∧ OwnS w' .u32 73 g n c ys ∧ Dgs 4294967296 ys ∧ val 4294967296 ys = val 4294967296 xs / by' ∧ Only w w' g := by
  have hbig := h.big
  have hcap := h.cap
  have hlen := h.len
  have HS := Shut.mk (ShrinkInv.start (B := 4294967296) b0 dx)
  rw [hlen] at HS
  clear hlen
  go_enter Tryz.func92, Tryz.ntmps92
  go_wp2
  go_loopw [5, 6] (fun r i wr => ∃ (k : Nat) (rr : Int) (os : List Int), k ≤ n ∧ i = .int .i64 ((k : Int) - 1) ∧ r = .int .u64 rr ∧ Shut (ShrinkInv 4294967296 by' xs os k rr) ∧ OwnS wr .u32 73 g n c os ∧ Only w wr g) (fun _ i _ => (intOf i + 1).toNat)
  case atStart => exact ⟨n, 0, _, by omega, rfl, rfl, HS, h, Only.refl _ _⟩
  case round =>
    clear HS
    obtain ⟨k, rr, os, hk, rfl, rfl, HI, own, ho⟩ := hrel
    have r0 := HI.out.r0
    have r1 := HI.out.r1
    match k with
    | 0 =>
      have HD := Shut.mk HI.out.done
      go_wp2
      go_ret
      exact ⟨os, congrArg (fun x => Ending.returned (Value.int IntKind.u32 x)) HD.out.2, own, HI.out.dig, HD.out.1, ho⟩
    | k + 1 =>
      have fz := own.frozen k
      have fc := own.cell k (by omega)
      have hd := dg_lt (by omega) HI.out.dig k
      have hor := or_add32 r0 (by omega) hd.1 hd.2
      obtain ⟨HN, q0, q1⟩ := HI.out.step (by omega) b0 (by rw [h.len]; omega) rfl rfl rfl
      have HN' := Shut.mk HN
      clear HN
      go_wp2
      go_roundw
      case rel => exact ⟨k, _, _, by omega, rfl, rfl, HN', own.set k _, ho.set k _⟩
      case measure => simp [intOf]

end Go.Proofs.YtjeaakkbkjhldaaGreatDoor

namespace Go.Proofs.YtjeaakkbkjhldaaGreatDoor
open Go.RowKit

/-- -1, 0, 1 -/
def cmpI (x y : Int) : Int := if x < y then -1 else if x = y then 0 else 1
theorem cmpI_lt {x y : Int} (h : x < y) : cmpI x y = -1 := if_pos h
theorem cmpI_gt {x y : Int} (h : y < x) : cmpI x y = 1 := by unfold cmpI; rw [if_neg (by omega), if_neg (by omega)]
theorem cmpI_eq {x y : Int} (h : x = y) : cmpI x y = 0 := by unfold cmpI; rw [if_neg (by omega), if_pos h]

/-! ### order -/
set_option maxHeartbeats 2000000 in
theorem order_calls {w : World} {A1 A2 : Option Addr} {n1 c1 n2 c2 : Nat} {xs ys : List Int} (hx : RdS w .u32 A1 n1 c1 xs) (hy : RdS w .u32 A2 n2 c2 ys) (dx : Dgs 4294967296 xs) (dy : Dgs 4294967296 ys) :
    Calls Tryz.prog 96 #[.slice A1 n1 c1, .slice A2 n2 c2] w fun e w' => e = .returned (.int .i64 (cmpI (val 4294967296 xs) (val 4294967296 ys))) ∧ ∃ N, w' = w.drewN N := by
  obtain ⟨m1, xs', hx', dx', hm1, hv1, hn1, hnl1⟩ := nrm_of hx dx
  obtain ⟨m2, ys', hy', dy', hm2, hv2, hn2, hnl2⟩ := nrm_of hy dy
  have HN1 := Shut.mk hnl1
  have HN2 := Shut.mk hnl2
  rw [← hv1, ← hv2]
  clear hnl1 hnl2 hv1 hv2
  have b1 := hx'.big
  have b2 := hx'.cap
  have b3 := hy'.big
  have b4 := hy'.cap
  by_cases hne : m1 = m2
  · subst hne
    generalize hz : cmpI (val 4294967296 xs') (val 4294967296 ys') = z
    have HZ := Shut.mk hz
    clear hz
    go_enter Tryz.func96, Tryz.ntmps96
    go_wp2_with fail
    refine (norm_calls hx).mono ?_
    rintro e w' ⟨rfl, rfl⟩
    rw [HN1.out]
    go_wp2_with fail
    refine (norm_calls hy).mono ?_
    rintro e w' ⟨rfl, rfl⟩
    rw [HN2.out]
    go_wp2
    go_loopw [5] (fun i wr => ∃ (k N : Nat), k ≤ m1 ∧ i = .int .i64 ((k : Int) - 1) ∧ Shut (∀ j, k ≤ j → dg xs' j = dg ys' j) ∧ wr = w.drewN N) (fun i _ => (intOf i + 1).toNat)
    case atStart => exact ⟨m1, 0, by omega, rfl, ⟨fun j hj => by rw [dg_ge (by rw [hx'.len]; exact hj), dg_ge (by rw [hy'.len]; exact hj)]⟩, rfl⟩
    case round =>
      obtain ⟨k, N, hk, rfl, HS, rfl⟩ := hrel
      match k with
      | 0 =>
        go_wp2
        go_ret
        have : z = 0 := by
          rw [← HZ.out]
          exact cmpI_eq (val_eq_of_dg (fun j => HS.out j (Nat.zero_le _)))
        exact ⟨congrArg (fun x => Ending.returned (Value.int IntKind.i64 x)) this.symm, N, rfl⟩
      | k + 1 =>
        obtain ⟨ad, rfl, hc⟩ := hx'.cell k (by omega)
        obtain ⟨ad2, rfl, hc2⟩ := hy'.cell k (by omega)
        have p0 : (0 : Int) ≤ (k : Int) := by omega
        have p1 : (k : Int) < (m1 : Int) := by omega
        rcases Int.lt_trichotomy (dg xs' k) (dg ys' k) with h0 | h0 | h0
        · have HR : Shut (z = -1) := ⟨by rw [← HZ.out]; exact cmpI_lt (val_lt_at (by omega) dx' dy' h0 (fun j hj => HS.out j (by omega)))⟩
          have h1 : (dg xs' k != dg ys' k) = true := by simp; omega
          have h2 : decide (dg xs' k < dg ys' k) = true := by simp; omega
          clear h0
          go_wp2
          go_quiet (fail)
          go_wp2
          go_quiet (fail)
          go_wp2
          go_ret
          exact ⟨congrArg (fun x => Ending.returned (Value.int IntKind.i64 x)) HR.out.symm, _, by first | rfl | (simp only [World.drewN_drewN]; rfl)⟩
        · have h1 : (dg xs' k != dg ys' k) = false := by simp; omega
          have H0 := Shut.mk h0
          clear h0
          go_wp2
          go_quiet (fail)
          go_wp2
          go_roundw
          case rel => exact ⟨k, _, by omega, rfl, ⟨fun j hj => by
            rcases Nat.lt_or_ge k j with h3 | h3
            · exact HS.out j (by omega)
            · have : j = k := by omega
              subst this; exact H0.out⟩, by first | rfl | (simp only [World.drewN_drewN]; rfl)⟩
          case measure => simp [intOf]
        · have HR : Shut (z = 1) := ⟨by rw [← HZ.out]; exact cmpI_gt (val_lt_at (by omega) dy' dx' h0 (fun j hj => (HS.out j (by omega)).symm))⟩
          have h1 : (dg xs' k != dg ys' k) = true := by simp; omega
          have h2 : decide (dg xs' k < dg ys' k) = false := by simp; omega
          clear h0
          go_wp2
          go_quiet (fail)
          go_wp2
          go_quiet (fail)
          go_wp2
          go_ret
          exact ⟨congrArg (fun x => Ending.returned (Value.int IntKind.i64 x)) HR.out.symm, _, by first | rfl | (simp only [World.drewN_drewN]; rfl)⟩
  · have hne2 : ((m1 : Int) != (m2 : Int)) = true := by simp; omega
    have hne3 : (m1 != m2) = true := by simp; omega
    have hl1 := hx'.len
    have hl2 := hy'.len
    have HC : Shut (cmpI (val 4294967296 xs') (val 4294967296 ys') = if m1 < m2 then -1 else 1) := ⟨by
      by_cases h : m1 < m2
      · rw [if_pos h]; exact cmpI_lt (hn2.lt_of_len (by omega) dx' dy' (by omega))
      · rw [if_neg h]; exact cmpI_gt (hn1.lt_of_len (by omega) dy' dx' (by omega))⟩
    clear hne hl1 hl2
    by_cases h : m1 < m2
    all_goals
      go_enter Tryz.func96, Tryz.ntmps96
      go_wp2_with fail
      refine (norm_calls hx).mono ?_
      rintro e w' ⟨rfl, rfl⟩
      rw [HN1.out]
      go_wp2_with fail
      refine (norm_calls hy).mono ?_
      rintro e w' ⟨rfl, rfl⟩
      rw [HN2.out]
      go_wp2
      go_ret
      exact ⟨congrArg (fun x => Ending.returned (Value.int IntKind.i64 x)) (by rw [HC.out]; first | rw [if_pos h] | rw [if_neg h]), 0, rfl⟩

end Go.Proofs.YtjeaakkbkjhldaaGreatDoor

namespace Go.Proofs.YtjeaakkbkjhldaaGreatDoor
open Go.RowKit

/-- what takes and gives leave of a stretch of a row: q times d less (or more), up to a multiple of B^m -/
structure Seg (q e : Int) (ds xs os : List Int) (j m : Nat) : Prop where
  dig : Dgs 4294967296 os
  same : ∀ t, t < j ∨ j + m ≤ t → dg os t = dg xs t
  eq : val 4294967296 ((os.drop j).take m) + 4294967296 ^ m * e = val 4294967296 ((xs.drop j).take m) + q * val 4294967296 ds

/-! ### takes -/
set_option maxHeartbeats 2000000 in
theorem takes_calls {w : World} {g N c j m c' : Nat} {xs : List Int} {A2 : Option Addr} {n2 c2 : Nat} {ds : List Int} {q : Int}
    (h : OwnS w .u32 73 g N c xs) (hj : j + m ≤ N) (hm : m ≤ c') (hc' : c' ≤ 9223372036854775807) (dx : Dgs 4294967296 xs) (hd : RdS w .u32 A2 n2 c2 ds) (dd : Dgs 4294967296 ds) (hA : ∀ ad, A2 = some ad → ad.block ≠ g) (hn : n2 < m) (q0 : 0 ≤ q) (q1 : q ≤ 4294967295) :
    Calls Tryz.prog 161 #[.slice (some ⟨g, j, none⟩) m c', .slice A2 n2 c2, .int .u64 q] w fun e w' => ∃ (t : Bool) (os : List Int), e = .returned (.bool t) ∧ OwnS w' .u32 73 g N c os ∧ Seg (-q) (if t then -1 else 0) ds xs os j m ∧ Only w w' g := by
  have hbig := h.big
  have hcap := h.cap
  have b3 := hd.big
  have b4 := hd.cap
  go_enter Tryz.func161, Tryz.ntmps161
  go_wp2
  go_loopw [7, 8, 12] (fun cy bw i wr => ∃ (k : Nat) (cc bb : Int) (os : List Int), k ≤ m ∧ i = .int .i64 k ∧ cy = .int .u64 cc ∧ bw = .int .i64 bb ∧ Shut (TakesInv 4294967296 q ds xs os j k cc bb) ∧ OwnS wr .u32 73 g N c os ∧ Only w wr g) (fun _ _ i _ => m - (intOf i).toNat)
  case atStart => exact ⟨0, 0, 0, _, Nat.zero_le _, rfl, rfl, rfl, ⟨TakesInv.start (by omega) dx j⟩, h, Only.refl _ _⟩
  case round =>
    obtain ⟨k, cc, bb, os, hk, rfl, rfl, rfl, HI, own, ho⟩ := hrel
    have i0 := HI.out.c0
    have i1 := HI.out.c1
    have i2 := HI.out.w0
    have i3 := HI.out.w1
    by_cases hlt2 : k < m
    · have r1 := dg_lt (by omega) HI.out.dig (j + k)
      have r2 := dg_lt (by omega) dd k
      have HS := Shut.mk (HI.out.step q0 (by omega) dd (by rw [own.len]; omega) rfl rfl rfl rfl rfl)
      have fz := own.frozen (j + k)
      have fc := own.cell (j + k) (by omega)
      have hmb := mul_bd q0 (by omega : q < 4294967296) r2.1 r2.2
      have m0 := hmb.1
      have m1 : q * dg ds k ≤ 18446744065119617025 := by have := hmb.2; omega
      clear hmb
      by_cases hk2 : k < n2
      · obtain ⟨ad2, rfl, hcell3⟩ := hd.cell k hk2
        have hcell4 := (ho.cell (a := ad2.add k) (by rw [addr_add_block]; exact hA ad2 rfl)).trans hcell3
        clear hcell3
        go_wp2
        go_roundw
        case rel => exact ⟨k + 1, _, _, _, by omega, by go_num, rfl, rfl, HS, own.set (j + k) _, ho.set (j + k) _⟩
        case measure => simp [intOf]; omega
      · have hz : dg ds k = 0 := dg_ge (by rw [hd.len]; omega)
        rw [hz, Int.mul_zero, Int.add_zero, Int.emod_eq_of_lt i0 i1] at HS
        clear hz
        go_wp2
        go_roundw
        case rel => exact ⟨k + 1, _, _, _, by omega, by go_num, rfl, rfl, HS, own.set (j + k) _, ho.set (j + k) _⟩
        case measure => simp [intOf]; omega
    · obtain rfl : k = m := by omega
      have HD := Shut.mk (HI.out.done (by rw [hd.len]; exact hn))
      go_wp2
      go_ret
      refine ⟨decide (bb < 0), os, rfl, own, ⟨HI.out.dig, HI.out.same, ?_⟩, ho⟩
      have e := HD.out
      have : (if decide (bb < 0) = true then (-1 : Int) else 0) = bb := by
        by_cases hb : bb < 0
        · simp [hb]; omega
        · simp [hb]; omega
      rw [this, Int.neg_mul]
      omega

/-! ### gives -/
set_option maxHeartbeats 2000000 in
theorem gives_calls {w : World} {g N c j m c' : Nat} {xs : List Int} {A2 : Option Addr} {n2 c2 : Nat} {ds : List Int}
    (h : OwnS w .u32 73 g N c xs) (hj : j + m ≤ N) (hm : m ≤ c') (hc' : c' ≤ 9223372036854775807) (dx : Dgs 4294967296 xs) (hd : RdS w .u32 A2 n2 c2 ds) (dd : Dgs 4294967296 ds) (hA : ∀ ad, A2 = some ad → ad.block ≠ g) (hn : n2 < m) :
    Calls Tryz.prog 162 #[.slice (some ⟨g, j, none⟩) m c', .slice A2 n2 c2] w fun e w' => ∃ (t : Bool) (os : List Int), e = .returned (.bool t) ∧ OwnS w' .u32 73 g N c os ∧ Seg 1 (if t then 1 else 0) ds xs os j m ∧ Only w w' g := by
  have hbig := h.big
  have hcap := h.cap
  have b3 := hd.big
  have b4 := hd.cap
  go_enter Tryz.func162, Tryz.ntmps162
  go_wp2
  go_loopw [5, 9] (fun cy i wr => ∃ (k : Nat) (cc : Int) (os : List Int), k ≤ m ∧ i = .int .i64 k ∧ cy = .int .u64 cc ∧ Shut (GivesInv 4294967296 ds xs os j k cc) ∧ OwnS wr .u32 73 g N c os ∧ Only w wr g) (fun _ i _ => m - (intOf i).toNat)
  case atStart => exact ⟨0, 0, _, Nat.zero_le _, rfl, rfl, ⟨GivesInv.start dx j⟩, h, Only.refl _ _⟩
  case round =>
    obtain ⟨k, cc, os, hk, rfl, rfl, HI, own, ho⟩ := hrel
    have i0 := HI.out.c0
    have i1 := HI.out.c1
    by_cases hlt2 : k < m
    · have r1 := dg_lt (by omega) HI.out.dig (j + k)
      have r2 := dg_lt (by omega) dd k
      have HS := Shut.mk (HI.out.step (by omega) dd (by rw [own.len]; omega) rfl rfl rfl)
      have fz := own.frozen (j + k)
      have fc := own.cell (j + k) (by omega)
      by_cases hk2 : k < n2
      · obtain ⟨ad2, rfl, hcell3⟩ := hd.cell k hk2
        have hcell4 := (ho.cell (a := ad2.add k) (by rw [addr_add_block]; exact hA ad2 rfl)).trans hcell3
        clear hcell3
        go_wp2
        go_roundw
        case rel => exact ⟨k + 1, _, _, by omega, by go_num, rfl, HS, own.set (j + k) _, ho.set (j + k) _⟩
        case measure => simp [intOf]; omega
      · have hz : dg ds k = 0 := dg_ge (by rw [hd.len]; omega)
        rw [hz, Int.add_zero] at HS
        clear hz
        go_wp2
        go_roundw
        case rel => exact ⟨k + 1, _, _, by omega, by go_num, rfl, HS, own.set (j + k) _, ho.set (j + k) _⟩
        case measure => simp [intOf]; omega
    · obtain rfl : k = m := by omega
      have HD := Shut.mk (HI.out.done (by rw [hd.len]; omega))
      go_wp2
      go_ret
      refine ⟨decide (0 < cc), os, rfl, own, ⟨HI.out.dig, HI.out.same, ?_⟩, ho⟩
      have e := HD.out
      have : (if decide (0 < cc) = true then (1 : Int) else 0) = cc := by
        by_cases hb : 0 < cc
        · simp [hb]; omega
        · simp [hb]; omega
      rw [this, Int.one_mul]
      exact e

end Go.Proofs.YtjeaakkbkjhldaaGreatDoor

namespace Go.Proofs.YtjeaakkbkjhldaaGreatDoor
open Go.RowKit

theorem pow31 {b : Nat} (hb : b < 32) : (0 : Int) < 2 ^ b ∧ (2 : Int) ^ b ≤ 2147483648 := by
  refine ⟨Int.pow_pos (by omega), ?_⟩
  have h : (2 : Int) ^ b ≤ 2 ^ 31 := pow_le_pow' (by omega) (by omega)
  have e : (2 : Int) ^ 31 = 2147483648 := rfl
  omega
theorem pow_split {b : Nat} (hb : b < 32) : (4294967296 : Int) = 2 ^ b * 2 ^ (32 - b) := by
  rw [← Int.pow_add]
  have : b + (32 - b) = 32 := by omega
  rw [this]; rfl
theorem or_shift {a d : Int} {b : Nat} (hb : b < 32) (a0 : 0 ≤ a) (a1 : a < 2 ^ b) : bits .or .u32 a (IntKind.u32.wrap (d * 2 ^ b)) = a + (d * 2 ^ b) % 4294967296 := by
  rw [IntKind.wrap_u32]
  obtain ⟨hp, hp2⟩ := pow31 hb
  obtain ⟨e1, e2, e3⟩ := div_mod_bd (t := d * 2 ^ b) (B := 4294967296) (by omega)
  generalize hz : (d * 2 ^ b) % 4294967296 = z at *
  have hdvd : z % 2 ^ b = 0 := by
    have : z = 2 ^ b * (d - 2 ^ (32 - b) * (d * 2 ^ b / 4294967296)) := by
      have e4 : (4294967296 : Int) * (d * 2 ^ b / 4294967296) = 2 ^ b * (2 ^ (32 - b) * (d * 2 ^ b / 4294967296)) := by
        conv => lhs; lhs; rw [pow_split hb]
        exact Int.mul_assoc ..
      rw [Int.mul_sub, ← e4, Int.mul_comm (2 ^ b) d]; omega
    rw [this]; exact Int.mul_emod_right _ _
  clear hz e3
  obtain ⟨m, rfl⟩ := Int.eq_ofNat_of_zero_le a0
  obtain ⟨k, rfl⟩ := Int.eq_ofNat_of_zero_le e1
  have h2 : m < 2 ^ b := by exact_mod_cast a1
  have h3 : k % 2 ^ b = 0 := by exact_mod_cast hdvd
  have h4 := u32_or_nat m k (by omega) (by omega)
  rw [Nat.or_comm, nat_join b k m h3 h2] at h4
  rw [h4, Int.natCast_add, Int.add_comm]

/-! ### shifted -/
set_option maxHeartbeats 2000000 in
set_option maxRecDepth 100000 in
theorem shifted_calls {w : World} {A1 : Option Addr} {n1 c1 : Nat} {xs : List Int} {b : Nat} (hx : RdS w .u32 A1 n1 c1 xs) (dx : Dgs 4294967296 xs) (hl : n1 ≤ 1099511627776) (hbb : b < 32) :
    Calls Tryz.prog 160 #[.slice A1 n1 c1, .int .i64 b] w fun e w' => ∃ g os, e = .returned (.slice (some ⟨g, 0, none⟩) (n1 + 1) (n1 + 1)) ∧ w.heap.size ≤ g ∧ OwnS w' .u32 73 g (n1 + 1) (n1 + 1) os ∧ Dgs 4294967296 os ∧ val 4294967296 os = 2 ^ b * val 4294967296 xs ∧ Below w.heap.size w w' := by
  have b1 := hx.big
  have b2 := hx.cap
  go_enter Tryz.func160, Tryz.ntmps160
  go_wp2_with (at_make; refine wpl_make rfl _ _ 22 rfl 73 .u32 4 Tryz.underlying22 info_u32 .i64 .i64 _ _ (n1 + 1) rfl rfl (by omega) (by omega) (by omega) (by omega) ?_; intro w1 g hg own hb)
  go_loopw [14] (fun i wr => ∃ (k : Nat) (os : List Int), k ≤ n1 ∧ i = .int .i64 k ∧ Shut (ShiftInv 4294967296 (2 ^ b) xs os k) ∧ OwnS wr .u32 73 g (n1 + 1) (n1 + 1) os ∧ Below w.heap.size w wr) (fun i _ => n1 - (intOf i).toNat)
  case atStart => exact ⟨0, _, Nat.zero_le _, rfl, ⟨ShiftInv.start (by omega) (Int.pow_pos (by omega)) xs⟩, own, hb⟩
  case round =>
    clear own hb
    obtain ⟨k, os, hk, rfl, HI, own, hb⟩ := hrel
    by_cases hlt2 : k < n1
    · obtain ⟨ad, rfl, hcell⟩ := hx.cell k hlt2
      have hcell2 := old_cell hb hcell
      have r1 := dg_lt (by omega) dx k
      have r2 := dg_lt (by omega) HI.out.dig k
      clear hcell
      have fz := own.frozen k
      have fc := own.cell k (by omega)
      have p0 : (0 : Int) ≤ (k : Int) := by omega
      have p1 : (k : Int) < (n1 : Int) + 1 := by omega
      obtain ⟨q0, q1⟩ := pow31 hbb
      have htop := HI.out.top
      have hor := or_shift (d := dg xs k) hbb r2.1 htop
      have m0 : 0 ≤ dg xs k * 2 ^ b := Int.mul_nonneg r1.1 (by omega)
      have m1 : dg xs k * 2 ^ b ≤ 9223372034707292160 := by
        have h1 : dg xs k * 2 ^ b ≤ 4294967295 * 2 ^ b := Int.mul_le_mul_of_nonneg_right (by omega) (by omega)
        omega
      obtain ⟨HS1, d0, d1, u0, u1⟩ := HI.out.step (pow_split hbb) q0 (Int.pow_pos (by omega)) dx (by rw [own.len]; omega) rfl rfl
      have HS := Shut.mk HS1
      clear HS1 htop
      go_wp2
      go_still_tail 9, (by kernel_rfl)
      change wpList _ _ _ _ _ wr.drew
      have fz2 := (own.set k (dg os k + (dg xs k * 2 ^ b) % 4294967296)).frozen (k + 1)
      have fc2 := (own.set k (dg os k + (dg xs k * 2 ^ b) % 4294967296)).cell (k + 1) (by omega)
      go_wp2
      go_roundw
      case rel => exact ⟨k + 1, _, by omega, by go_num, HS, ((own.set k _).set (k + 1) _).drew, (bset (bset hb hg _) hg _).drew⟩
      case measure => simp [intOf]; omega
    · obtain rfl : k = n1 := by omega
      have HD := Shut.mk (HI.out.done hx.len own.len)
      go_wp2
      go_ret
      exact ⟨g, os, rfl, hg, own, HI.out.dig, HD.out, hb⟩
/-! ### grow -/
def OwnRes (k : IntKind) (e B0 nmax : Nat) (w0 : World) (p : List Int → Prop) (en : Ending) (w' : World) : Prop :=
  ∃ g n c os, en = .returned (.slice (some ⟨g, 0, none⟩) n c) ∧ B0 ≤ g ∧ OwnS w' k e g n c os ∧ p os ∧ n ≤ nmax ∧ Below B0 w0 w'
set_option maxHeartbeats 2000000 in
theorem grow_own {w : World} {g n c : Nat} {xs : List Int} {by' a : Int} {B0 : Nat} {w0 : World} (h : OwnS w .u32 73 g n c xs) (dx : Dgs 4294967296 xs) (hl : n ≤ 1099511627776) (b0 : 0 ≤ by') (b1 : by' ≤ 4294967295) (a0 : 0 ≤ a) (a1 : a ≤ 4294967295) (hg : B0 ≤ g) (hB : Below B0 w0 w) (hB0 : B0 ≤ w.heap.size) :
    Calls Tryz.prog 121 #[.slice (some ⟨g, 0, none⟩) n c, .int .u32 by', .int .u32 a] w (OwnRes .u32 73 B0 (n + 1) w0 (fun os => Dgs 4294967296 os ∧ val 4294967296 os = by' * val 4294967296 xs + a)) := by
  have hbig := h.big
  have hcap := h.cap
  have hlen := h.len
  go_enter Tryz.func121, Tryz.ntmps121
  go_wp2
  go_loopw [7, 14] (fun cy i wr => ∃ (k : Nat) (cc : Int) (os : List Int), k ≤ n ∧ i = .int .i64 k ∧ cy = .int .u64 cc ∧ Shut (GrowInv 4294967296 by' a xs os k cc) ∧ OwnS wr .u32 73 g n c os ∧ Only w wr g) (fun _ i _ => n - (intOf i).toNat)
  case atStart => exact ⟨0, a, _, Nat.zero_le _, rfl, rfl, ⟨GrowInv.start dx a0 (by omega)⟩, h, Only.refl _ _⟩
  case round =>
    obtain ⟨k, cc, os, hk, rfl, rfl, HI, own, ho⟩ := hrel
    have i0 := HI.out.c0
    have i1 := HI.out.c1
    by_cases hlt2 : k < n
    · have r1 := dg_lt (by omega) HI.out.dig k
      have HS := Shut.mk (HI.out.step b0 (by omega) (by rw [own.len]; omega) rfl rfl rfl)
      have fz := own.frozen k
      have fc := own.cell k (by omega)
      have hmb := mul_bd r1.1 r1.2 b0 (by omega : by' < 4294967296)
      have m0 := hmb.1
      have m1 : dg os k * by' ≤ 18446744065119617025 := by have := hmb.2; omega
      clear hmb
      go_wp2
      go_roundw
      case rel => exact ⟨k + 1, _, _, by omega, by go_num, rfl, HS, own.set k _, ho.set k _⟩
      case measure => simp [intOf]; omega
    · obtain rfl : k = n := by omega
      have HD := Shut.mk (HI.out.done hlen own.len)
      have HDig := Shut.mk HI.out.dig
      have hB1 := ho.below hB hg
      by_cases hc : 0 < cc
      · have hrow := own.row hg
        have hsz : B0 ≤ wr.heap.size := by rw [ho.size]; exact hB0
        go_wp2_with (at_builtin; refine wpl_append rfl (.tmp 36) (.tmp 39) 22 rfl B0 73 .u32 4 Tryz.underlying22 info_u32 _ k os rfl (hrow.alloc _) ⟨wr.heap.size, 0, none⟩ 1 1 [cc] rfl (rd_one _ _ _ _) (by omega) (by omega) (by omega) w0 (hB1.alloc hsz _) (Nat.le_trans hsz (by simp)) ?_; intro g2 cap2 w2 hg2 own2 hb2 hgr2)
        go_ret
        refine ⟨g2, _, _, _, rfl, hg2, own2, ⟨HDig.out.append (Dgs.cons.2 ⟨⟨i0, by omega⟩, Dgs.nil _⟩), ?_⟩, by omega, hb2⟩
        rw [val_append, own.len]
        have := HD.out
        simp only [val, Int.mul_zero, Int.add_zero]
        exact this
      · have hcz : cc = 0 := by omega
        have HCZ := Shut.mk hcz
        clear hcz
        go_wp2
        go_ret
        exact ⟨g, _, _, os, rfl, hg, own, ⟨HDig.out, by have := HD.out; rw [HCZ.out, Int.mul_zero, Int.add_zero] at this; exact this⟩, by omega, hB1⟩

/-- a row of the call's own, or nothing -/
def RowRes (k : IntKind) (e B0 nmax : Nat) (w0 : World) (p : List Int → Prop) (en : Ending) (w' : World) : Prop :=
  ∃ v n os, en = .returned v ∧ w'.ownsRow B0 e 1 v n (os.map (.int k)) ∧ p os ∧ n ≤ nmax ∧ Below B0 w0 w'
theorem OwnRes.row {k : IntKind} {e B0 nmax : Nat} {w0 : World} {p : List Int → Prop} {en : Ending} {w' : World} (h : OwnRes k e B0 nmax w0 p en w') : RowRes k e B0 nmax w0 p en w' := by
  obtain ⟨g, n, c, os, h1, h2, h3, h4, h5, h6⟩ := h
  exact ⟨_, n, os, h1, h3.row h2, h4, h5, h6⟩
set_option maxHeartbeats 2000000 in
theorem grow_nil {w : World} {by' a : Int} {B0 : Nat} {w0 : World} (a0 : 0 ≤ a) (a1 : a ≤ 4294967295) (hB : Below B0 w0 w) (hB0 : B0 ≤ w.heap.size) :
    Calls Tryz.prog 121 #[.slice none 0 0, .int .u32 by', .int .u32 a] w (RowRes .u32 73 B0 1 w0 (fun os => Dgs 4294967296 os ∧ val 4294967296 os = a)) := by
  by_cases hc : 0 < a
  · go_enter Tryz.func121, Tryz.ntmps121
    go_wp2
    refine wp_loop_rounds 1 ?_
    rw [rounds_succ]
    go_wp2_with (at_builtin; refine wpl_append rfl (.tmp 36) (.tmp 39) 22 rfl B0 73 .u32 4 Tryz.underlying22 info_u32 _ 0 [] rfl (World.ownsRow_nil _ _ _ _) ⟨w.heap.size, 0, none⟩ 1 1 [a] rfl (rd_one _ _ _ _) (by omega) (by omega) (by omega) w0 (hB.alloc hB0 _) (Nat.le_trans hB0 (by simp)) ?_; intro g2 cap2 w2 hg2 own2 hb2 hgr2)
    go_ret
    exact ⟨_, _, _, rfl, own2.row hg2, ⟨Dgs.cons.2 ⟨⟨a0, by omega⟩, Dgs.nil _⟩, by simp [val]⟩, by omega, hb2⟩
  · have hz : a = 0 := by omega
    subst hz
    go_enter Tryz.func121, Tryz.ntmps121
    go_wp2
    refine wp_loop_rounds 1 ?_
    rw [rounds_succ]
    go_wp2
    go_ret
    exact ⟨_, 0, [], rfl, World.ownsRow_nil _ _ _ _, ⟨Dgs.nil _, by simp [val]⟩, by omega, hB⟩
theorem grow_calls {w : World} {v : Value} {n : Nat} {xs : List Int} {by' a : Int} {B0 : Nat} {w0 : World} (h : w.ownsRow B0 73 1 v n (xs.map (.int .u32))) (dx : Dgs 4294967296 xs) (hl : n ≤ 1099511627776) (b0 : 0 ≤ by') (b1 : by' ≤ 4294967295) (a0 : 0 ≤ a) (a1 : a ≤ 4294967295) (hB : Below B0 w0 w) (hB0 : B0 ≤ w.heap.size) :
    Calls Tryz.prog 121 #[v, .int .u32 by', .int .u32 a] w (RowRes .u32 73 B0 (n + 1) w0 (fun os => Dgs 4294967296 os ∧ val 4294967296 os = by' * val 4294967296 xs + a)) := by
  rcases h.2 with ⟨rfl, rfl⟩ | ⟨g, cap, cur, rfl, hg, _⟩
  · have hx : xs = [] := by simpa using h.1
    subst hx
    refine (grow_nil (by' := by') a0 a1 hB hB0).mono ?_
    rintro e w' ⟨v, n, os, h1, h2, ⟨h3, h4⟩, h5, h6⟩
    exact ⟨v, n, os, h1, h2, ⟨h3, by rw [h4]; simp [val]⟩, by omega, h6⟩
  · exact (grow_own (OwnS.of_row h rfl) dx hl b0 b1 a0 a1 hg hB hB0).mono fun _ _ h => h.row

end Go.Proofs.YtjeaakkbkjhldaaGreatDoor

namespace Go.Proofs.YtjeaakkbkjhldaaGreatDoor
open Go.RowKit

def sg (neg : Bool) (x : Int) : Int := if neg then -x else x

/-- v is a number (api.Big) that is handed in: it reads as z; its magnitude has at most 2^32 digits. -/
def BV (w : World) (v : Value) (z : Int) : Prop :=
  ∃ neg A n c xs, v = .agg #[.bool neg, .slice A n c] ∧ RdS w .u32 A n c xs ∧ Dgs 4294967296 xs ∧ n ≤ 4294967296 ∧ z = sg neg (val 4294967296 xs)
/-- v is a number in normal form, in a block from B on. -/
def NBV (B : Nat) (w : World) (v : Value) (z : Int) : Prop :=
  ∃ A n c xs, v = .agg #[.bool (decide (z < 0)), .slice A n c] ∧ RdS w .u32 A n c xs ∧ Dgs 4294967296 xs ∧ Nrm xs ∧ val 4294967296 xs = z.natAbs ∧ ∀ ad, A = some ad → B ≤ ad.block

theorem BV.below {w w1 : World} {v : Value} {z : Int} (h : BV w v z) (hb : Below w.heap.size w w1) : BV w1 v z := by
  obtain ⟨neg, A, n, c, xs, h1, h2, h3⟩ := h
  exact ⟨neg, A, n, c, xs, h1, h2.below hb, h3⟩
theorem NBV.below {B : Nat} {w w1 : World} {v : Value} {z : Int} (h : NBV B w v z) (hb : Below w.heap.size w w1) : NBV B w1 v z := by
  obtain ⟨A, n, c, xs, h1, h2, h3⟩ := h
  exact ⟨A, n, c, xs, h1, h2.below hb, h3⟩
theorem NBV.mono {B B' : Nat} {w : World} {v : Value} {z : Int} (h : NBV B w v z) (hB : B' ≤ B) : NBV B' w v z := by
  obtain ⟨A, n, c, xs, h1, h2, h3, h4, h5, h6⟩ := h
  exact ⟨A, n, c, xs, h1, h2, h3, h4, h5, fun ad e => Nat.le_trans hB (h6 ad e)⟩
theorem NBV.far {B : Nat} {w : World} {v : Value} {z : Int} (h : NBV B w v z) {p : Addr} (hp : p.block < B) (u : Value) : NBV B (w.setCell p u) v z := by
  obtain ⟨A, n, c, xs, h1, h2, h3, h4, h5, h6⟩ := h
  exact ⟨A, n, c, xs, h1, h2.far (fun ad e => by have := h6 ad e; omega) u, h3, h4, h5, h6⟩
theorem NBV.nil (B : Nat) (w : World) : NBV B w (.agg #[.bool false, .slice none 0 0]) 0 :=
  ⟨none, 0, 0, [], rfl, RdS.nil _ _, Dgs.nil _, Nrm.nil, rfl, fun ad e => by cases e⟩

/-- z has at most k binary digits -/
def Sm (k : Nat) (z : Int) : Prop := (z.natAbs : Int) < 2 ^ k
theorem Sm.mono {k k' : Nat} {z : Int} (h : Sm k z) (hk : k ≤ k') : Sm k' z := Int.lt_of_lt_of_le h (pow_le_pow' (by omega) hk)
theorem Sm.neg {k : Nat} {z : Int} (h : Sm k z) : Sm k (-z) := by unfold Sm; rw [Int.natAbs_neg]; exact h
theorem Sm.mul {k k' : Nat} {x y : Int} (h : Sm k x) (h' : Sm k' y) : Sm (k + k') (x * y) := by
  unfold Sm at *
  rw [Int.natAbs_mul, Int.natCast_mul, Int.pow_add]
  have h0 : (0 : Int) ≤ (x.natAbs : Int) := by omega
  have h1 : (0 : Int) ≤ (y.natAbs : Int) := by omega
  have h2 : (x.natAbs : Int) * (y.natAbs : Int) ≤ (x.natAbs : Int) * 2 ^ k' := Int.mul_le_mul_of_nonneg_left (by omega) h0
  have h3 : (x.natAbs : Int) * 2 ^ k' < 2 ^ k * 2 ^ k' := Int.mul_lt_mul_of_pos_right h (Int.pow_pos (by omega))
  omega
theorem Sm.add {k k' : Nat} {x y : Int} (h : Sm k x) (h' : Sm k' y) : Sm (max k k' + 1) (x + y) := by
  have h1 := h.mono (Nat.le_max_left k k')
  have h2 := h'.mono (Nat.le_max_right k k')
  unfold Sm at *
  rw [Int.pow_succ]
  omega
theorem Sm.le {k : Nat} {x y : Int} (h : Sm k x) (hy : y.natAbs ≤ x.natAbs) : Sm k y := by unfold Sm at *; omega
theorem Sm.zero (k : Nat) : Sm k 0 := by
  have : (0 : Int) < 2 ^ k := Int.pow_pos (by omega)
  unfold Sm; simpa using this
theorem pow32 (n : Nat) : (4294967296 : Int) ^ n = 2 ^ (32 * n) := by
  rw [Int.pow_mul]; rfl
theorem Sm.of_val {xs : List Int} (h : Dgs 4294967296 xs) {n : Nat} (hn : xs.length ≤ n) (neg : Bool) : Sm (32 * n) (sg neg (val 4294967296 xs)) := by
  have h0 := val_nonneg (by omega) h
  have h1 := val_lt (by omega) h
  have h2 : (4294967296 : Int) ^ xs.length ≤ 4294967296 ^ n := pow_le_pow' (by omega) hn
  rw [pow32 n] at h2
  unfold Sm sg
  cases neg <;> simp <;> omega
/-- a number in normal form that isn't too great can be handed in -/
theorem NBV.bv {B : Nat} {w : World} {v : Value} {z : Int} (h : NBV B w v z) {k : Nat} (hz : Sm k z) (hk : k ≤ 137438953472) : BV w v z := by
  obtain ⟨A, n, c, xs, h1, h2, h3, h4, h5, _⟩ := h
  refine ⟨_, A, n, c, xs, h1, h2, h3, ?_, ?_⟩
  · by_cases h0 : xs = []
    · subst h0; have := h2.len; simp at this; omega
    · have h6 := h4.val_ge (by omega) h3 h0
      unfold Sm at hz
      rw [h5, h2.len, pow32] at h6
      rcases Nat.lt_or_ge (32 * (n - 1)) k with h8 | h8
      · omega
      · have : (2 : Int) ^ k ≤ 2 ^ (32 * (n - 1)) := pow_le_pow' (by omega) h8
        omega
  · rw [h5]; unfold sg
    by_cases hz0 : z < 0
    · simp [hz0]; omega
    · simp [hz0]; omega
/-- two numbers in normal form -/
theorem sg_natAbs (z : Int) : sg (decide (z < 0)) z.natAbs = z := by
  unfold sg
  by_cases h : z < 0
  · simp [h]; omega
  · simp [h]; omega
theorem natAbs_sg (neg : Bool) {x : Int} (h : 0 ≤ x) : ((sg neg x).natAbs : Int) = x := by
  unfold sg; cases neg <;> simp <;> omega

theorem sg_not (neg : Bool) (x : Int) : sg (!neg) x = -sg neg x := by unfold sg; cases neg <;> simp

/-- two stores into one block from B on, behind a Below -/
theorem below_two {B : Nat} {w0 w : World} (h : Below B w0 w) {g i j : Nat} (hg : B ≤ g) (u v : Value) : Below B w0 ((w.setCell ⟨g, i, none⟩ u).setCell ⟨g, j, none⟩ v) := bset (bset h hg _) hg _
theorem NBV.two {B : Nat} {w : World} {v : Value} {z : Int} (h : NBV B w v z) {g i j : Nat} (hg : g < B) (u u' : Value) : NBV B ((w.setCell ⟨g, i, none⟩ u).setCell ⟨g, j, none⟩ u') v z := (h.far (p := ⟨g, i, none⟩) hg _).far (p := ⟨g, j, none⟩) hg _
theorem BV.alloc {w : World} {v : Value} {z : Int} (h : BV w v z) (o : Obj) : BV (w.alloc o) v z := h.below ((Below.refl _ _).alloc (Nat.le_refl _) o)
theorem alloc_below (w : World) (o : Obj) : Below w.heap.size w (w.alloc o) := (Below.refl _ _).alloc (Nat.le_refl _) o
theorem alloc2_below (w : World) (o o2 : Obj) : Below w.heap.size w ((w.alloc o).alloc o2) := bthen (alloc_below w o) (alloc_below _ o2)
theorem alloc3_below (w : World) (o o2 o3 : Obj) : Below w.heap.size w (((w.alloc o).alloc o2).alloc o3) := bthen (alloc2_below w o o2) (alloc_below _ o3)

theorem cell_far {w : World} {p a : Addr} {u x : Value} (h : ¬ a.block = p.block) (hc : w.cell? a = some x) : (w.setCell p u).cell? a = some x :=
  (World.cell?_of_block (w := w) (heap_setCell_other w p a.block u h)).trans hc
theorem cell_far2 {w : World} {r i j : Nat} {a : Addr} {u v x : Value} (h : ¬ a.block = r) (hc : w.cell? a = some x) : ((w.setCell ⟨r, i, none⟩ u).setCell ⟨r, j, none⟩ v).cell? a = some x :=
  cell_far (p := ⟨r, j, none⟩) h (cell_far (p := ⟨r, i, none⟩) h hc)
/-- a draw ahead of a Below -/
theorem undrew {w w1 : World} (h : Below w.drew.heap.size w.drew w1) : Below w.heap.size w w1 := ⟨h.os, h.tape, h.output, h.size, h.block⟩

/-! ### a function's own boxes of two cells -/
def box1 (w : World) (T : Nat) (r0 r1 : Value) : World := w.alloc (.cells #[r0, r1] T)
def box2 (w : World) (T T' : Nat) (a0 a1 r0 r1 : Value) : World := (w.alloc (.cells #[a0, a1] T)).alloc (.cells #[r0, r1] T')
def box3 (w : World) (T T' T'' : Nat) (a0 a1 b0 b1 r0 r1 : Value) : World := ((w.alloc (.cells #[a0, a1] T)).alloc (.cells #[b0, b1] T')).alloc (.cells #[r0, r1] T'')
def box4 (w : World) (T T' T'' T3 : Nat) (a0 a1 b0 b1 r0 r1 s0 s1 : Value) : World := (((w.alloc (.cells #[a0, a1] T)).alloc (.cells #[b0, b1] T')).alloc (.cells #[r0, r1] T'')).alloc (.cells #[s0, s1] T3)
/-- a box of two cells at p, made since w -/
structure Box (w W : World) (p : Nat) (a0 a1 : Value) : Prop where
  ge : w.heap.size ≤ p
  lt : p < W.heap.size
  c0 : W.cell? ⟨p, 0, none⟩ = some a0
  c1 : W.cell? ⟨p, 1, none⟩ = some a1
  f0 : W.frozen? ⟨p, 0, none⟩ = false
  f1 : W.frozen? ⟨p, 1, none⟩ = false
theorem Box.below {w W W1 : World} {p : Nat} {a0 a1 : Value} (h : Box w W p a0 a1) (hb : Below W.heap.size W W1) : Box w W1 p a0 a1 :=
  ⟨h.ge, Nat.lt_of_lt_of_le h.lt hb.size, old_cell hb h.c0, old_cell hb h.c1, (hb.frozen (p := ⟨p, 0, none⟩) h.lt).trans h.f0, (hb.frozen (p := ⟨p, 1, none⟩) h.lt).trans h.f1⟩
theorem Box.new (w0 w : World) (T : Nat) (a0 a1 : Value) (h : w0.heap.size ≤ w.heap.size) : Box w0 (w.alloc (.cells #[a0, a1] T)) w.heap.size a0 a1 := by
  have hb : (w.alloc (.cells #[a0, a1] T)).heap[w.heap.size]? = some (.cells #[a0, a1] T) := heap_alloc_new w _
  exact ⟨h, by simp, by rw [cell_of_row _ _ _ _ _ _ hb]; rfl, by rw [cell_of_row _ _ _ _ _ _ hb]; rfl, frozen_of_row _ _ _ _ _ hb, frozen_of_row _ _ _ _ _ hb⟩
theorem box1_facts (w : World) (T : Nat) (r0 r1 : Value) : Below w.heap.size w (box1 w T r0 r1) ∧ Box w (box1 w T r0 r1) w.heap.size r0 r1 :=
  ⟨alloc_below _ _, Box.new _ _ _ _ _ (Nat.le_refl _)⟩
theorem box2_facts (w : World) (T T' : Nat) (a0 a1 r0 r1 : Value) : Below w.heap.size w (box2 w T T' a0 a1 r0 r1) ∧ Box w (box2 w T T' a0 a1 r0 r1) w.heap.size a0 a1 ∧ Box w (box2 w T T' a0 a1 r0 r1) (w.heap.size + 1) r0 r1 :=
  ⟨alloc2_below _ _ _, (Box.new _ _ _ _ _ (Nat.le_refl _)).below (alloc_below _ _), by
    have := Box.new w (w.alloc (.cells #[a0, a1] T)) T' r0 r1 (by simp)
    rw [World.size_alloc] at this; exact this⟩
theorem box3_facts (w : World) (T T' T'' : Nat) (a0 a1 b0 b1 r0 r1 : Value) : Below w.heap.size w (box3 w T T' T'' a0 a1 b0 b1 r0 r1) ∧ Box w (box3 w T T' T'' a0 a1 b0 b1 r0 r1) w.heap.size a0 a1 ∧ Box w (box3 w T T' T'' a0 a1 b0 b1 r0 r1) (w.heap.size + 1) b0 b1 ∧ Box w (box3 w T T' T'' a0 a1 b0 b1 r0 r1) (w.heap.size + 1 + 1) r0 r1 := by
  obtain ⟨h1, h2, h3⟩ := box2_facts w T T' a0 a1 b0 b1
  refine ⟨alloc3_below _ _ _ _, h2.below (alloc_below _ _), h3.below (alloc_below _ _), ?_⟩
  have := Box.new w (box2 w T T' a0 a1 b0 b1) T'' r0 r1 h1.size
  have e : (box2 w T T' a0 a1 b0 b1).heap.size = w.heap.size + 1 + 1 := by unfold box2; rw [World.size_alloc, World.size_alloc]
  rw [e] at this; exact this
theorem box4_facts (w : World) (T T' T'' T3 : Nat) (a0 a1 b0 b1 r0 r1 s0 s1 : Value) : Below w.heap.size w (box4 w T T' T'' T3 a0 a1 b0 b1 r0 r1 s0 s1) ∧ Box w (box4 w T T' T'' T3 a0 a1 b0 b1 r0 r1 s0 s1) w.heap.size a0 a1 ∧ Box w (box4 w T T' T'' T3 a0 a1 b0 b1 r0 r1 s0 s1) (w.heap.size + 1) b0 b1 ∧ Box w (box4 w T T' T'' T3 a0 a1 b0 b1 r0 r1 s0 s1) (w.heap.size + 1 + 1) r0 r1 ∧ Box w (box4 w T T' T'' T3 a0 a1 b0 b1 r0 r1 s0 s1) (w.heap.size + 1 + 1 + 1) s0 s1 := by
  obtain ⟨h1, h2, h3, h4⟩ := box3_facts w T T' T'' a0 a1 b0 b1 r0 r1
  refine ⟨bthen h1 (alloc_below _ _), h2.below (alloc_below _ _), h3.below (alloc_below _ _), h4.below (alloc_below _ _), ?_⟩
  have := Box.new w (box3 w T T' T'' a0 a1 b0 b1 r0 r1) T3 s0 s1 h1.size
  have e : (box3 w T T' T'' a0 a1 b0 b1 r0 r1).heap.size = w.heap.size + 1 + 1 + 1 := by unfold box3; rw [World.size_alloc, World.size_alloc, World.size_alloc]
  rw [e] at this; exact this

end Go.Proofs.YtjeaakkbkjhldaaGreatDoor

namespace Go.Proofs.YtjeaakkbkjhldaaGreatDoor
open Go.RowKit

/-- a literal of no elements -/
theorem own_empty (w : World) (k : IntKind) (e : Nat) : OwnS (w.alloc (.cells #[] e)) k e w.heap.size 0 0 [] :=
  ⟨rfl, Nat.le_refl _, by omega, #[], heap_alloc_new w _, rfl, rfl⟩
theorem RdS.alloc {w : World} {k : IntKind} {A : Option Addr} {n c : Nat} {xs : List Int} (h : RdS w k A n c xs) (o : Obj) : RdS (w.alloc o) k A n c xs := h.below ((Below.refl _ _).alloc (Nat.le_refl _) o)
/-- 'append(s, x...)' where x has no elements -/
theorem wpl_append0 {P : Program} {w : World} {ops : Array Oper} {rest : List Oper} {o : Oper} {a : Act} {Q : Exit → Act → World → Prop} (hgd : o.guard = none) (s x : Operand) (t : TypeId)
    (ho : o.op = .call { callee := .builtin .append, args := #[s, x], argTypes := #[t, t] })
    (B0 : Nat) (e : TypeId) (k : IntKind) (bytes : Nat) (ht : P.underlying t = some (.slice e)) (hinfo : (P.info? e).map (fun i => (i.zero, i.size, i.bytes)) = some (some (.int k 0), 1, bytes))
    (v : Value) (hs : a.eval s = v) (hown : w.ownsRow B0 e 1 v 0 []) (ad : Addr) (c : Nat) (hx : a.eval x = .slice (some ad) 0 c)
    (w0 : World) (hB : Below B0 w0 w) (hB0 : B0 ≤ w.heap.size)
    (h : ∀ v' w', w'.ownsRow B0 e 1 v' 0 [] → Below B0 w0 w' → wpList P ops Q rest (a.put o.dst v') w') : wpList P ops Q (o :: rest) a w := by
  obtain ⟨i, hi, hz0, hz1, hz2⟩ := info_parts hinfo
  refine wpList_append_own w hgd s x t ho B0 e i (.int k 0) 1 bytes ht hi hz0 hz1 hz2 rfl (by omega) v 0 [] hs hown ad 0 c [] hx rfl (by intro j u hu; simp at hu) (by intro u hu; simp at hu) (by unfold maxLen; omega) (by omega) hB0 ?_
  intro v' w' hown' hgr _
  have hb : ∀ k, v.ownBlock = some k → B0 ≤ k := by
    intro k hk
    rcases hown.2 with ⟨rfl, _⟩ | ⟨g2, cap2, cur2, rfl, hg2, _⟩
    · simp [Value.ownBlock] at hk
    · simp [Value.ownBlock] at hk; omega
  exact h v' w' hown' (hB.grown hgr hB0 hb)

/-! ### slices.Clone -/
set_option maxHeartbeats 2000000 in
theorem clone_some {w : World} {ad : Addr} {n c : Nat} {xs : List Int} (h : RdS w .u32 (some ad) n c xs) (hl : n ≤ 1099511627776) :
    Calls Tryz.prog 90 #[.slice (some ad) n c] w (RowRes .u32 73 w.heap.size n w (fun os => os = xs)) := by
  have hbig := h.big
  have hcap := h.cap
  by_cases hn : 0 < n
  · go_enter Tryz.func90, Tryz.ntmps90
    have he := fun (wx : World) => Lib.run_eql_slice_nil (P := Tryz.prog) wx 22 73 (some ad) n c 0 0 Tryz.underlying22
    go_wp2_with (at_builtin; refine wpl_append rfl (.tmp 5) (.tmp 6) 22 rfl w.heap.size 73 .u32 4 Tryz.underlying22 info_u32 _ 0 [] rfl ((own_empty w .u32 73).row (Nat.le_refl _)) ad n c xs rfl (h.alloc _) hn (by omega) (by omega) w ((Below.refl _ _).alloc (Nat.le_refl _) _) (by simp) ?_; intro g2 cap2 w2 hg2 own2 hb2 hgr2)
    go_ret
    have own3 := own2.row hg2
    simp only [Nat.zero_add, List.nil_append] at own3
    exact ⟨_, _, _, rfl, own3, rfl, by omega, hb2⟩
  · obtain rfl : n = 0 := by omega
    have hx : xs = [] := List.eq_nil_of_length_eq_zero h.len
    go_enter Tryz.func90, Tryz.ntmps90
    have he := fun (wx : World) => Lib.run_eql_slice_nil (P := Tryz.prog) wx 22 73 (some ad) 0 c 0 0 Tryz.underlying22
    go_wp2_with (at_builtin; refine wpl_append0 rfl (.tmp 5) (.tmp 6) 22 rfl w.heap.size 73 .u32 4 Tryz.underlying22 info_u32 _ rfl ((own_empty w .u32 73).row (Nat.le_refl _)) ad c rfl w ((Below.refl _ _).alloc (Nat.le_refl _) _) (by simp) ?_; intro v2 w2 own2 hb2)
    go_ret
    exact ⟨v2, 0, [], rfl, own2, hx.symm, by omega, hb2⟩
set_option maxHeartbeats 2000000 in
theorem clone_nil {w : World} {c : Nat} : Calls Tryz.prog 90 #[.slice none 0 c] w (RowRes .u32 73 w.heap.size 0 w (fun os => os = [])) := by
  go_enter Tryz.func90, Tryz.ntmps90
  have he := fun (wx : World) => Lib.run_eql_slice_nil (P := Tryz.prog) wx 22 73 none 0 c 0 0 Tryz.underlying22
  go_wp2
  go_ret
  exact ⟨_, 0, [], rfl, World.ownsRow_nil _ _ _ _, rfl, by omega, Below.refl _ _⟩
theorem clone_calls {w : World} {A : Option Addr} {n c : Nat} {xs : List Int} (h : RdS w .u32 A n c xs) (hl : n ≤ 1099511627776) :
    Calls Tryz.prog 90 #[.slice A n c] w (RowRes .u32 73 w.heap.size n w (fun os => os = xs)) := by
  cases A with
  | some ad => exact clone_some h hl
  | none =>
    have hn : n = 0 := by
      rcases Nat.eq_zero_or_pos n with h0 | h0
      · exact h0
      · obtain ⟨ad, e, _⟩ := h.cell 0 h0
        cases e
    subst hn
    have hx : xs = [] := List.eq_nil_of_length_eq_zero h.len
    subst hx
    exact clone_nil

/-! ### made -/
/-- what a row reads as -/
theorem row_rd {w : World} {B0 e : Nat} {k : IntKind} {v : Value} {n : Nat} {ys : List Int} (h : w.ownsRow B0 e 1 v n (ys.map (.int k))) : ∃ A c, v = .slice A n c ∧ RdS w k A n c ys ∧ ∀ ad, A = some ad → B0 ≤ ad.block := by
  rcases h.2 with ⟨rfl, rfl⟩ | ⟨g, cap, cur, rfl, hg, _⟩
  · have hx : ys = [] := by simpa using h.1
    subst hx
    exact ⟨none, 0, rfl, RdS.nil _ _, fun ad e => by cases e⟩
  · exact ⟨_, _, rfl, (OwnS.of_row h rfl).rd, fun ad e => by cases e; exact hg⟩
def MadeRes (w : World) (z : Int) (en : Ending) (w' : World) : Prop := ∃ v, en = .returned v ∧ NBV w.heap.size w' v z ∧ Below w.heap.size w w'
set_option maxHeartbeats 2000000 in
theorem made_calls {w : World} {A : Option Addr} {n c : Nat} {xs : List Int} {neg : Bool} (h : RdS w .u32 A n c xs) (dx : Dgs 4294967296 xs) (hl : n ≤ 1099511627776) :
    Calls Tryz.prog 89 #[.bool neg, .slice A n c] w (MadeRes w (sg neg (val 4294967296 xs))) := by
  obtain ⟨m1, xs', hx', dx', hm1, hv1, hn1, hnl1⟩ := nrm_of h dx
  have HN1 := Shut.mk hnl1
  rw [← hv1]
  clear hnl1 hv1
  have b1 := hx'.big
  have b2 := hx'.cap
  go_enter Tryz.func89, Tryz.ntmps89
  go_wp2_with fail
  refine (norm_calls (h.alloc _)).mono ?_
  rintro e w' ⟨rfl, rfl⟩
  rw [HN1.out]
  go_wp2_with fail
  refine (clone_calls (hx'.alloc _) (by omega)).mono ?_
  rintro e w1 ⟨v, n', os, rfl, hrow, rfl, hn', hb⟩
  obtain ⟨A', c', rfl, hr, hA⟩ := row_rd hrow
  have HA : Shut (∀ ad, A' = some ad → w.heap.size < ad.block) := ⟨fun ad e => by have := hA ad e; simp only [World.size_alloc] at this; omega⟩
  clear hA
  obtain ⟨hc, hf⟩ := bcell hb
  have hz := hb.size
  simp only [World.size_alloc] at hz
  have b3 := hr.big
  have b4 := hr.cap
  have hB : Below w.heap.size w w1 := bthen ((Below.refl _ _).alloc (Nat.le_refl _) _) hb
  clear hrow hb
  by_cases h0 : n' = 0
  · subst h0
    go_wp2
    have hos : os = [] := List.eq_nil_of_length_eq_zero hr.len
    subst hos
    refine bodyPost_ret (v := .agg #[.bool false, .slice none 0 0]) (by simp [results, Tryz.results89, go_sem, hc]) rfl ?_
    have hz : sg neg (val 4294967296 []) = 0 := by unfold sg; simp [val]
    rw [hz]
    exact ⟨_, rfl, NBV.nil _ _, bset (bset hB (Nat.le_refl _) _) (Nat.le_refl _) _⟩
  · have h00 : (n' == 0) = false := by simp; omega
    have h01 : ((n' : Int) == 0) = false := by simp; omega
    go_wp2
    refine bodyPost_ret (v := .agg #[.bool neg, .slice A' n' c']) (by simp [results, Tryz.results89, go_sem, hc]) rfl ?_
    have hne : os ≠ [] := by intro e; subst e; exact h0 hr.len.symm
    have hpos := hn1.val_pos (B := 4294967296) (by omega) dx' hne
    refine ⟨_, rfl, ⟨A', n', c', os, ?_, (hr.far (fun ad e => by have := HA.out ad e; simp; omega) _).far (fun ad e => by have := HA.out ad e; simp; omega) _, dx', hn1, (natAbs_sg neg (by omega)).symm, fun ad e => Nat.le_of_lt (HA.out ad e)⟩, bset (bset hB (Nat.le_refl _) _) (Nat.le_refl _) _⟩
    have : neg = decide (sg neg (val 4294967296 os) < 0) := by
      unfold sg; cases neg <;> simp <;> omega
    rw [← this]

end Go.Proofs.YtjeaakkbkjhldaaGreatDoor

namespace Go.Proofs.YtjeaakkbkjhldaaGreatDoor
open Go.RowKit

/-! ### Neg -/
set_option maxHeartbeats 2000000 in
theorem Neg_calls {w : World} {v : Value} {z : Int} (h : BV w v z) :
    Calls Tryz.prog 56 #[v] w (MadeRes w (-z)) := by
  obtain ⟨neg, A, n, c, xs, rfl, hr, dx, hl, rfl⟩ := h
  rw [← sg_not]
  go_enter Tryz.func56, Tryz.ntmps56
  go_wp2_with fail
  refine (made_calls ((hr.alloc _).alloc _) dx (by omega)).mono ?_
  rintro e w1 ⟨v', rfl, hv, hb⟩
  have HB := Shut.mk (bthen (alloc2_below w _ _) hb)
  have hv0 := hv
  obtain ⟨A', n', c', xs', rfl, _⟩ := hv0
  have HV := Shut.mk hv
  obtain ⟨hc, hf⟩ := bcell hb
  have hz := hb.size
  simp only [World.size_alloc] at hz
  clear hb hv
  go_wp2
  refine bodyPost_ret (v := .agg #[.bool (decide (sg (!neg) (val 4294967296 xs) < 0)), .slice A' n' c']) (by simp [results, Tryz.results56, go_sem, hc]) rfl ?_
  exact ⟨_, rfl, (HV.out.two (by simp) _ _).mono (by simp; omega), below_two HB.out (by omega) _ _⟩

/-! ### Of -/
theorem rd_two (w : World) (k : IntKind) (e : TypeId) (x y : Int) {b : Nat} (hb : b = w.heap.size) : RdS (w.alloc (.cells #[.int k x, .int k y] e)) k (some ⟨b, 0, none⟩) 2 2 [x, y] := by
  subst hb
  exact ⟨rfl, Nat.le_refl _, by omega, fun j hj => by
    have hb : (w.alloc (.cells #[.int k x, .int k y] e)).heap[w.heap.size]? = some (.cells #[.int k x, .int k y] e) := heap_alloc_new w _
    refine ⟨_, rfl, ?_⟩
    rw [Addr.add_lit, Nat.zero_add, cell_of_row _ _ _ _ _ _ hb]
    match j, hj with
    | 0, _ => rfl
    | 1, _ => rfl⟩
set_option maxHeartbeats 2000000 in
set_option maxRecDepth 100000 in
theorem Of_calls {w : World} {z : Int} (h0 : -9223372036854775808 ≤ z) (h1 : z ≤ 9223372036854775807) :
    Calls Tryz.prog 45 #[.int .i64 z] w (MadeRes w z) := by
  by_cases hz : z < 0
  · have hu : Shut (IntKind.u64.wrap (-IntKind.u64.wrap z) = -z) := ⟨by rw [IntKind.wrap_u64, IntKind.wrap_u64]; omega⟩
    have hq : Shut ((-z) / 4294967296 % 4294967296 = (-z) / 4294967296) := ⟨by omega⟩
    have hs : Shut (sg true (val 4294967296 [(-z) % 4294967296, (-z) / 4294967296]) = z) := ⟨by
      unfold sg; simp only [val, if_true]; omega⟩
    have hd : Shut (Dgs 4294967296 [(-z) % 4294967296, (-z) / 4294967296]) := ⟨Dgs.cons.2 ⟨by omega, Dgs.cons.2 ⟨by omega, Dgs.nil _⟩⟩⟩
    go_enter Tryz.func45, Tryz.ntmps45
    go_wp2_with fail
    rw [hu.out, hq.out]
    refine (made_calls (rd_two (w.alloc (.cells #[.bool false, .slice none 0 0] 24)) .u32 73 _ _ (by simp)) hd.out (by omega)).mono ?_
    rintro e w1 ⟨v', rfl, hv, hb⟩
    rw [hs.out] at hv
    have HB := Shut.mk (bthen (alloc2_below w _ _) hb)
    have hv0 := hv
    obtain ⟨A', n', c', xs', rfl, _⟩ := hv0
    have HV := Shut.mk hv
    obtain ⟨hc, hf⟩ := bcell hb
    have hz2 := hb.size
    simp only [World.size_alloc] at hz2
    clear hb hv
    have hlt1 : w.heap.size < w.heap.size + 1 + 1 := by omega
    go_wp2
    refine bodyPost_ret (v := .agg #[.bool (decide (z < 0)), .slice A' n' c']) (by simp [results, Tryz.results45, go_sem, hc, hlt1, hz]) rfl ?_
    exact ⟨_, rfl, (HV.out.two (by simp; omega) _ _).mono (by simp; omega), below_two HB.out (by omega) _ _⟩
  · have hs : Shut (sg false (val 4294967296 [z % 4294967296, z / 4294967296]) = z) := ⟨by
      unfold sg; simp [val]; omega⟩
    have hd : Shut (Dgs 4294967296 [z % 4294967296, z / 4294967296]) := ⟨Dgs.cons.2 ⟨by omega, Dgs.cons.2 ⟨by omega, Dgs.nil _⟩⟩⟩
    go_enter Tryz.func45, Tryz.ntmps45
    go_wp2_with fail
    refine (made_calls (rd_two (w.alloc (.cells #[.bool false, .slice none 0 0] 24)) .u32 73 _ _ (by simp)) hd.out (by omega)).mono ?_
    rintro e w1 ⟨v', rfl, hv, hb⟩
    rw [hs.out] at hv
    have HB := Shut.mk (bthen (alloc2_below w _ _) hb)
    have hv0 := hv
    obtain ⟨A', n', c', xs', rfl, _⟩ := hv0
    have HV := Shut.mk hv
    obtain ⟨hc, hf⟩ := bcell hb
    have hz2 := hb.size
    simp only [World.size_alloc] at hz2
    clear hb hv
    have hlt1 : w.heap.size < w.heap.size + 1 + 1 := by omega
    go_wp2
    refine bodyPost_ret (v := .agg #[.bool (decide (z < 0)), .slice A' n' c']) (by simp [results, Tryz.results45, go_sem, hc, hlt1]) rfl ?_
    exact ⟨_, rfl, (HV.out.two (by simp; omega) _ _).mono (by simp; omega), below_two HB.out (by omega) _ _⟩

end Go.Proofs.YtjeaakkbkjhldaaGreatDoor
