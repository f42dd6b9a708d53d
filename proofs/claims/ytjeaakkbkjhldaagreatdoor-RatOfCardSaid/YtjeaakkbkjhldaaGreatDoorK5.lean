import Derived.Test.YtjeaakkbkjhldaaGreatDoorK4
set_option linter.unusedVariables false
set_option linter.unusedSimpArgs false
namespace Go.Proofs.YtjeaakkbkjhldaaGreatDoor
open Go.RowKit

theorem Box4.put {w W : World} {p : Nat} {a0 a1 a2 a3 : Value} (h : Box4 w W p a0 a1 a2 a3) (a b c d : Value) : Box4 w ((((W.setCell ⟨p, 0, none⟩ a).setCell ⟨p, 1, none⟩ b).setCell ⟨p, 2, none⟩ c).setCell ⟨p, 3, none⟩ d) p a b c d := by
  have e1 : (W.setCell ⟨p, 0, none⟩ a).cell? ⟨p, 1, none⟩ = some a1 := (World.cell?_setCell_other _ _ _ _ (by simp)).trans h.c1
  have e2 : ((W.setCell ⟨p, 0, none⟩ a).setCell ⟨p, 1, none⟩ b).cell? ⟨p, 2, none⟩ = some a2 := (World.cell?_setCell_other _ _ _ _ (by simp)).trans ((World.cell?_setCell_other _ _ _ _ (by simp)).trans h.c2)
  have e3 : (((W.setCell ⟨p, 0, none⟩ a).setCell ⟨p, 1, none⟩ b).setCell ⟨p, 2, none⟩ c).cell? ⟨p, 3, none⟩ = some a3 := (World.cell?_setCell_other _ _ _ _ (by simp)).trans ((World.cell?_setCell_other _ _ _ _ (by simp)).trans ((World.cell?_setCell_other _ _ _ _ (by simp)).trans h.c3))
  have x0 := World.cell?_setCell_same _ _ a h.c0
  have x1 := World.cell?_setCell_same _ _ b e1
  have x2 := World.cell?_setCell_same _ _ c e2
  refine ⟨h.ge, by simpa using h.lt, ?_, ?_, ?_, World.cell?_setCell_same _ _ _ e3, ?_, ?_, ?_, ?_⟩
  · exact (World.cell?_setCell_other _ _ _ _ (by simp)).trans ((World.cell?_setCell_other _ _ _ _ (by simp)).trans ((World.cell?_setCell_other _ _ _ _ (by simp)).trans x0))
  · exact (World.cell?_setCell_other _ _ _ _ (by simp)).trans ((World.cell?_setCell_other _ _ _ _ (by simp)).trans x1)
  · exact (World.cell?_setCell_other _ _ _ _ (by simp)).trans x2
  · simp only [World.frozen?_setCell]; exact h.f0
  · simp only [World.frozen?_setCell]; exact h.f1
  · simp only [World.frozen?_setCell]; exact h.f2
  · simp only [World.frozen?_setCell]; exact h.f3
theorem Box4.four {w W : World} {p : Nat} {a0 a1 a2 a3 : Value} (h : Box4 w W p a0 a1 a2 a3) {g : Nat} (hg : ¬ p = g) (a b c d : Value) : Box4 w ((((W.setCell ⟨g, 0, none⟩ a).setCell ⟨g, 1, none⟩ b).setCell ⟨g, 2, none⟩ c).setCell ⟨g, 3, none⟩ d) p a0 a1 a2 a3 := (h.two hg a b).two hg c d
theorem BVa.four {lo hi : Nat} {w : World} {neg : Bool} {A : Option Addr} {n c : Nat} {z : Int} (h : BVa lo hi w neg A n c z) {p : Nat} (h1 : lo ≤ p) (h2 : p < hi) (a b u v : Value) : BVa lo hi ((((w.setCell ⟨p, 0, none⟩ a).setCell ⟨p, 1, none⟩ b).setCell ⟨p, 2, none⟩ u).setCell ⟨p, 3, none⟩ v) neg A n c z := (h.two h1 h2 a b).two h1 h2 u v

/-- boxes of four -/
def boxQ (w : World) (T T' : Nat) (a0 a1 a2 a3 r0 r1 r2 r3 : Value) : World := (w.alloc (.cells #[a0, a1, a2, a3] T)).alloc (.cells #[r0, r1, r2, r3] T')
theorem boxQ_facts (w : World) (T T' : Nat) (a0 a1 a2 a3 r0 r1 r2 r3 : Value) : Below w.heap.size w (boxQ w T T' a0 a1 a2 a3 r0 r1 r2 r3) ∧ Box4 w (boxQ w T T' a0 a1 a2 a3 r0 r1 r2 r3) w.heap.size a0 a1 a2 a3 ∧ Box4 w (boxQ w T T' a0 a1 a2 a3 r0 r1 r2 r3) (w.heap.size + 1) r0 r1 r2 r3 :=
  ⟨alloc2_below _ _ _, (Box4.new _ _ _ _ _ _ _ (Nat.le_refl _)).below (alloc_below _ _), by
    have := Box4.new w (w.alloc (.cells #[a0, a1, a2, a3] T)) T' r0 r1 r2 r3 (by simp)
    rw [World.size_alloc] at this; exact this⟩
def boxQ3 (w : World) (T T' T'' : Nat) (a0 a1 a2 a3 b0 b1 b2 b3 r0 r1 r2 r3 : Value) : World := (boxQ w T T' a0 a1 a2 a3 b0 b1 b2 b3).alloc (.cells #[r0, r1, r2, r3] T'')
theorem boxQ3_facts (w : World) (T T' T'' : Nat) (a0 a1 a2 a3 b0 b1 b2 b3 r0 r1 r2 r3 : Value) : Below w.heap.size w (boxQ3 w T T' T'' a0 a1 a2 a3 b0 b1 b2 b3 r0 r1 r2 r3) ∧ Box4 w (boxQ3 w T T' T'' a0 a1 a2 a3 b0 b1 b2 b3 r0 r1 r2 r3) w.heap.size a0 a1 a2 a3 ∧ Box4 w (boxQ3 w T T' T'' a0 a1 a2 a3 b0 b1 b2 b3 r0 r1 r2 r3) (w.heap.size + 1) b0 b1 b2 b3 ∧ Box4 w (boxQ3 w T T' T'' a0 a1 a2 a3 b0 b1 b2 b3 r0 r1 r2 r3) (w.heap.size + 1 + 1) r0 r1 r2 r3 := by
  obtain ⟨h1, h2, h3⟩ := boxQ_facts w T T' a0 a1 a2 a3 b0 b1 b2 b3
  refine ⟨bthen h1 (alloc_below _ _), h2.below (alloc_below _ _), h3.below (alloc_below _ _), ?_⟩
  have := Box4.new w (boxQ w T T' a0 a1 a2 a3 b0 b1 b2 b3) T'' r0 r1 r2 r3 h1.size
  have e : (boxQ w T T' a0 a1 a2 a3 b0 b1 b2 b3).heap.size = w.heap.size + 1 + 1 := by unfold boxQ; rw [World.size_alloc, World.size_alloc]
  rw [e] at this; exact this

theorem NRV.shape {B : Nat} {w : World} {v : Value} {q : Rat} (h : NRV B w v q) : ∃ neg A n1 c neg2 A2 n2 c2, v = .agg #[.bool neg, .slice A n1 c, .bool neg2, .slice A2 n2 c2] := by
  obtain ⟨_, _, _, _, _, _, _, _, rfl, _⟩ := h
  exact ⟨_, _, _, _, _, _, _, _, rfl⟩
theorem NRV.four {B : Nat} {w : World} {v : Value} {q : Rat} (h : NRV B w v q) {g : Nat} (hg : g < B) (a b c d : Value) : NRV B ((((w.setCell ⟨g, 0, none⟩ a).setCell ⟨g, 1, none⟩ b).setCell ⟨g, 2, none⟩ c).setCell ⟨g, 3, none⟩ d) v q := by
  obtain ⟨_, _, _, _, _, _, _, _, rfl, h1, h2⟩ := h
  exact ⟨_, _, _, _, _, _, _, _, rfl, h1.four hg a b c d, h2.four hg a b c d⟩

set_option maxHeartbeats 4000000 in
set_option maxRecDepth 100000 in
theorem low_calls {w : World} {v : Value} {n d : Int} {k : Nat} (h : RV w v n d) (sx : Sm k n) (sy : Sm k d) (hk : k ≤ 137438953472) (hk1 : 1 ≤ k) :
    Calls Tryz.prog 48 #[v] w (RatRes w (fr n d)) := by
  obtain ⟨neg, A1, n1, c1, neg2, A2, n2, c2, rfl, hx, hy⟩ := h
  obtain ⟨hbW, ba, br⟩ := boxQ_facts w 26 26 (.bool neg) (.slice A1 n1 c1) (.bool neg2) (.slice A2 n2 c2) (.bool false) (.slice none 0 0) (.bool false) (.slice none 0 0)
  replace hx := hx.below hbW
  replace hy := hy.below hbW
  go_enter Tryz.func48, Tryz.ntmps48
  go_wp2_with fail
  change Calls _ _ _ (boxQ w 26 26 (.bool neg) (.slice A1 n1 c1) (.bool neg2) (.slice A2 n2 c2) (.bool false) (.slice none 0 0) (.bool false) (.slice none 0 0)) _
  generalize boxQ w 26 26 (.bool neg) (.slice A1 n1 c1) (.bool neg2) (.slice A2 n2 c2) (.bool false) (.slice none 0 0) (.bool false) (.slice none 0 0) = W at *
  refine (rmade_calls hx hy sx sy hk hk1).mono ?_
  rintro e w1 ⟨v, rfl, hv, hb⟩
  have HL := Shut.mk br.lt
  have HS := Shut.mk hbW.size
  have HB := Shut.mk (bthen hbW hb)
  replace br := br.below hb
  have r0 := br.c0
  have r1 := br.c1
  have r2 := br.c2
  have r3 := br.c3
  have g0 := br.f0
  have g1 := br.f1
  have g2 := br.f2
  have g3 := br.f3
  have HG := Shut.mk br.ge
  have HV := Shut.mk hv
  obtain ⟨ng, B1, m1, e1, ng2, B2, m2, e2, rfl⟩ := hv.shape
  clear hbW hb br ba hv hx hy
  generalize w.heap.size + 1 = r at *
  go_wp2
  refine bodyPost_ret (v := .agg #[.bool ng, .slice B1 m1 e1, .bool ng2, .slice B2 m2 e2]) (by simp [results, Tryz.results48, go_sem, r0, r1, r2, r3]) rfl ?_
  exact ⟨_, rfl, (HV.out.four HL.out _ _ _ _).mono HS.out, below_four HB.out HG.out _ _ _ _⟩

end Go.Proofs.YtjeaakkbkjhldaaGreatDoor

set_option linter.unusedVariables false
set_option linter.unusedSimpArgs false
namespace Go.Proofs.YtjeaakkbkjhldaaGreatDoor
open Go.RowKit

def OfRes (w : World) (n d : Int) (en : Ending) (w' : World) : Prop := ∃ v, en = .returned (.tuple #[v, .bool (decide (d ≠ 0))]) ∧ NRV w.heap.size w' v (if d = 0 then 0 else fr n d) ∧ Below w.heap.size w w'

theorem cell_far4 {w : World} {r : Nat} {a : Addr} {u v u2 v2 x : Value} (h : ¬ a.block = r) (hc : w.cell? a = some x) : ((((w.setCell ⟨r, 0, none⟩ u).setCell ⟨r, 1, none⟩ v).setCell ⟨r, 2, none⟩ u2).setCell ⟨r, 3, none⟩ v2).cell? a = some x := cell_far2 h (cell_far2 h hc)
theorem drew_below (w : World) : Below w.heap.size w w.drew := ⟨rfl, rfl, rfl, Nat.le_refl _, fun _ _ => rfl⟩
theorem BV.drew {w : World} {v : Value} {z : Int} (h : BV w v z) : BV w.drew v z := h.below (drew_below w)
theorem RV.drew {w : World} {v : Value} {n d : Int} (h : RV w v n d) : RV w.drew v n d := h.below (drew_below w)
theorem BV.shape {w : World} {v : Value} {z : Int} (h : BV w v z) : ∃ neg A n c, v = .agg #[.bool neg, .slice A n c] := by
  obtain ⟨neg, A, n, c, xs, rfl, _⟩ := h
  exact ⟨_, _, _, _, rfl⟩
theorem RV.shape {w : World} {v : Value} {n d : Int} (h : RV w v n d) : ∃ neg A n1 c neg2 A2 n2 c2, v = .agg #[.bool neg, .slice A n1 c, .bool neg2, .slice A2 n2 c2] := by
  obtain ⟨_, _, _, _, _, _, _, _, rfl, _⟩ := h
  exact ⟨_, _, _, _, _, _, _, _, rfl⟩
/-- a box of two cells, a box of four -/
def boxR (w : World) (T T' : Nat) (a0 a1 r0 r1 r2 r3 : Value) : World := (w.alloc (.cells #[a0, a1] T)).alloc (.cells #[r0, r1, r2, r3] T')
theorem boxR_facts (w : World) (T T' : Nat) (a0 a1 r0 r1 r2 r3 : Value) : Below w.heap.size w (boxR w T T' a0 a1 r0 r1 r2 r3) ∧ Box w (boxR w T T' a0 a1 r0 r1 r2 r3) w.heap.size a0 a1 ∧ Box4 w (boxR w T T' a0 a1 r0 r1 r2 r3) (w.heap.size + 1) r0 r1 r2 r3 :=
  ⟨alloc2_below _ _ _, (Box.new _ _ _ _ _ (Nat.le_refl _)).below (alloc_below _ _), by
    have := Box4.new w (w.alloc (.cells #[a0, a1] T)) T' r0 r1 r2 r3 (by simp)
    rw [World.size_alloc] at this; exact this⟩

set_option maxHeartbeats 4000000 in
set_option maxRecDepth 100000 in
theorem ROf_calls {w : World} {v v' : Value} {n d : Int} {k : Nat} (hx : BV w v n) (hy : BV w v' d) (sx : Sm k n) (sy : Sm k d) (hk : k ≤ 137438953472) (hk1 : 1 ≤ k) :
    Calls Tryz.prog 30 #[v, v'] w (OfRes w n d) := by
  obtain ⟨neg, A1, n1, c1, rfl⟩ := hx.shape
  obtain ⟨neg2, A2, n2, c2, rfl⟩ := hy.shape
  obtain ⟨hbW, ba, bb, br⟩ := boxM_facts w 24 24 26 (.bool neg) (.slice A1 n1 c1) (.bool neg2) (.slice A2 n2 c2) (.bool false) (.slice none 0 0) (.bool false) (.slice none 0 0)
  replace hx := hx.below hbW
  replace hy := hy.below hbW
  go_enter Tryz.func30, Tryz.ntmps30
  go_wp2_with fail
  change Calls _ _ _ (boxM w 24 24 26 (.bool neg) (.slice A1 n1 c1) (.bool neg2) (.slice A2 n2 c2) (.bool false) (.slice none 0 0) (.bool false) (.slice none 0 0)) _
  generalize boxM w 24 24 26 (.bool neg) (.slice A1 n1 c1) (.bool neg2) (.slice A2 n2 c2) (.bool false) (.slice none 0 0) (.bool false) (.slice none 0 0) = W at *
  generalize w.heap.size + 1 + 1 = r at *
  refine (zero_calls hy).mono ?_
  rintro e w1 ⟨rfl, hb1⟩
  replace hbW := bthen hbW hb1
  (replace hx := hx.below hb1; replace hy := hy.below hb1; replace ba := ba.below hb1; replace bb := bb.below hb1; replace br := br.below hb1)
  clear hb1
  by_cases h0 : d = 0
  · have hd : decide (d = 0) = true := by simp [h0]
    have HD : Shut (decide (d ≠ 0) = false ∧ (if d = 0 then 0 else fr n d) = 0) := ⟨by simp [h0]⟩
    go_wp2_with fail
    refine (Of_calls (by omega) (by omega)).mono ?_
    rintro e w2 ⟨v, rfl, hv, hb2⟩
    have HL := Shut.mk br.lt
    have HS := Shut.mk hbW.size
    have HB := Shut.mk (bthen hbW hb2)
    (replace br := br.below hb2)
    have r0 := br.c0
    have r1 := br.c1
    have r2 := br.c2
    have r3 := br.c3
    have g0 := br.f0
    have g1 := br.f1
    have g2 := br.f2
    have g3 := br.f3
    have HG := Shut.mk br.ge
    have HV := Shut.mk hv
    obtain ⟨ng, B1, m1, e1, rfl⟩ := hv.shape
    clear hbW hb2 br ba bb hv hx hy
    go_wp2
    refine bodyPost_ret (v := .tuple #[.agg #[.bool false, .slice none 0 0, .bool ng, .slice B1 m1 e1], .bool false]) (by simp [results, Tryz.results30, go_sem, r0, r1, r2, r3]) rfl ?_
    unfold OfRes
    rw [HD.out.1, HD.out.2]
    exact ⟨_, rfl, ⟨_, _, _, _, _, _, _, _, rfl, NBV.nil _ _, (HV.out.four HL.out _ _ _ _).mono HS.out⟩, below_four HB.out HG.out _ _ _ _⟩
  · have hd : decide (d = 0) = false := by simp [h0]
    have HD : Shut (decide (d ≠ 0) = true ∧ (if d = 0 then 0 else fr n d) = fr n d) := ⟨by simp [h0]⟩
    have l0 := ba.c0
    have l1 := ba.c1
    have l2 := bb.c0
    have l3 := bb.c1
    go_wp2_with fail
    refine (rmade_calls hx hy sx sy hk hk1).mono ?_
    rintro e w2 ⟨v, rfl, hv, hb2⟩
    have HL := Shut.mk br.lt
    have HS := Shut.mk hbW.size
    have HB := Shut.mk (bthen hbW hb2)
    (replace br := br.below hb2)
    clear l0 l1 l2 l3
    have r0 := br.c0
    have r1 := br.c1
    have r2 := br.c2
    have r3 := br.c3
    have g0 := br.f0
    have g1 := br.f1
    have g2 := br.f2
    have g3 := br.f3
    have HG := Shut.mk br.ge
    have HV := Shut.mk hv
    obtain ⟨ng, B1, m1, e1, ng2, B2, m2, e2, rfl⟩ := hv.shape
    clear hbW hb2 br ba bb hv hx hy
    go_wp2
    refine bodyPost_ret (v := .tuple #[.agg #[.bool ng, .slice B1 m1 e1, .bool ng2, .slice B2 m2 e2], .bool true]) (by simp [results, Tryz.results30, go_sem, r0, r1, r2, r3]) rfl ?_
    unfold OfRes
    rw [HD.out.1, HD.out.2]
    exact ⟨_, rfl, (HV.out.four HL.out _ _ _ _).mono HS.out, below_four HB.out HG.out _ _ _ _⟩

set_option maxHeartbeats 4000000 in
set_option maxRecDepth 100000 in
theorem Whole_calls {w : World} {v : Value} {n : Int} {k : Nat} (hx : BV w v n) (sx : Sm k n) (hk : k ≤ 137438953472) (hk1 : 1 ≤ k) :
    Calls Tryz.prog 33 #[v] w (RatRes w (fr n 1)) := by
  obtain ⟨neg, A1, n1, c1, rfl⟩ := hx.shape
  obtain ⟨hbW, ba, br⟩ := boxR_facts w 24 26 (.bool neg) (.slice A1 n1 c1) (.bool false) (.slice none 0 0) (.bool false) (.slice none 0 0)
  replace hx := (hx.below hbW).drew
  have s1 : Sm k 1 := Sm.of_le (by decide) hk1
  go_enter Tryz.func33, Tryz.ntmps33
  go_wp2_with fail
  change Code.wp _ _ _ _ (boxR w 24 26 (.bool neg) (.slice A1 n1 c1) (.bool false) (.slice none 0 0) (.bool false) (.slice none 0 0))
  generalize boxR w 24 26 (.bool neg) (.slice A1 n1 c1) (.bool false) (.slice none 0 0) (.bool false) (.slice none 0 0) = W at *
  have d1 : ¬ w.heap.size = w.heap.size + 1 := by omega
  generalize w.heap.size + 1 = r at *
  generalize hp : w.heap.size = p at ba d1 ⊢
  clear hp
  replace hbW := hbW.drew
  replace ba := ba.drew
  replace br := br.drew
  have l0 := ba.c0
  have l1 := ba.c1
  go_region_held3 (fun w' => w'.cell? ⟨p, 0, none⟩ = some (.bool neg) ∧ w'.cell? ⟨p, 1, none⟩ = some (.slice A1 n1 c1)) (first | (with_reducible exact ⟨l0, l1⟩) | (with_reducible exact ⟨cell_far4 d1 l0, cell_far4 d1 l1⟩) | go_keep)
    (first
      | (go_at_call 45; (with_reducible refine (Of_calls (by omega) (by omega)).mono ?_); rintro e w2 ⟨v2, rfl, hv2, hb2⟩; replace hbW := bthen hbW hb2; (replace hx := hx.below hb2; replace ba := ba.below hb2; replace br := br.below hb2; replace l0 := old_cell hb2 l0; replace l1 := old_cell hb2 l1); clear hb2)
      | (go_at_call 53; (with_reducible refine (rmade_calls hx (hv2.bv s1 hk) sx s1 hk hk1).mono ?_); rintro e w3 ⟨v3, rfl, hv3, hb3⟩; have HL := Shut.mk br.lt; have HS := Shut.mk hbW.size; have HB := Shut.mk (bthen hbW hb3); (replace br := br.below hb3; replace l0 := old_cell hb3 l0; replace l1 := old_cell hb3 l1); have r0 := br.c0; have r1 := br.c1; have r2 := br.c2; have r3 := br.c3; have g0 := br.f0; have g1 := br.f1; have g2 := br.f2; have g3 := br.f3; have HG := Shut.mk br.ge; have HV := Shut.mk hv3; obtain ⟨ng, B1, m1, e1, ng2, B2, m2, e2, rfl⟩ := hv3.shape; clear hb3))
  all_goals
    go_wp2_with fail
    refine bodyPost_ret (v := .agg #[.bool ng, .slice B1 m1 e1, .bool ng2, .slice B2 m2 e2]) (by simp [results, Tryz.results33, go_sem, r0, r1, r2, r3]) rfl ?_
    exact ⟨_, rfl, (HV.out.four HL.out _ _ _ _).mono HS.out, below_four HB.out HG.out _ _ _ _⟩

end Go.Proofs.YtjeaakkbkjhldaaGreatDoor

set_option linter.unusedVariables false
set_option linter.unusedSimpArgs false
namespace Go.Proofs.YtjeaakkbkjhldaaGreatDoor
open Go.RowKit

theorem NRV.parts {B : Nat} {w : World} {neg : Bool} {A : Option Addr} {n1 c : Nat} {neg2 : Bool} {A2 : Option Addr} {n2 c2 : Nat} {q : Rat} (h : NRV B w (.agg #[.bool neg, .slice A n1 c, .bool neg2, .slice A2 n2 c2]) q) : NBV B w (.agg #[.bool neg, .slice A n1 c]) q.num ∧ NBV B w (.agg #[.bool neg2, .slice A2 n2 c2]) (q.den : Int) := by
  obtain ⟨_, _, _, _, _, _, _, _, e, h1, h2⟩ := h
  simp only [Value.agg.injEq, Array.mk.injEq, List.cons.injEq, Value.bool.injEq, Value.slice.injEq, and_true] at e
  obtain ⟨rfl, ⟨rfl, rfl, rfl⟩, rfl, rfl, rfl, rfl⟩ := e
  exact ⟨h1, h2⟩
def IntRes (w : World) (q : Rat) (en : Ending) (w' : World) : Prop := ∃ v, en = .returned (.tuple #[v, .bool (decide (q.den = 1))]) ∧ NBV w.heap.size w' v (if q.den = 1 then q.num else 0) ∧ Below w.heap.size w w'
/-- a box of four cells, a box of two -/
def boxI (w : World) (T T' : Nat) (a0 a1 a2 a3 r0 r1 : Value) : World := (w.alloc (.cells #[a0, a1, a2, a3] T)).alloc (.cells #[r0, r1] T')
theorem boxI_facts (w : World) (T T' : Nat) (a0 a1 a2 a3 r0 r1 : Value) : Below w.heap.size w (boxI w T T' a0 a1 a2 a3 r0 r1) ∧ Box4 w (boxI w T T' a0 a1 a2 a3 r0 r1) w.heap.size a0 a1 a2 a3 ∧ Box w (boxI w T T' a0 a1 a2 a3 r0 r1) (w.heap.size + 1) r0 r1 :=
  ⟨alloc2_below _ _ _, (Box4.new _ _ _ _ _ _ _ (Nat.le_refl _)).below (alloc_below _ _), by
    have := Box.new w (w.alloc (.cells #[a0, a1, a2, a3] T)) T' r0 r1 (by simp)
    rw [World.size_alloc] at this; exact this⟩
theorem Box.four {w W : World} {p : Nat} {a0 a1 : Value} (h : Box w W p a0 a1) {g : Nat} (hg : ¬ p = g) (a b c d : Value) : Box w ((((W.setCell ⟨g, 0, none⟩ a).setCell ⟨g, 1, none⟩ b).setCell ⟨g, 2, none⟩ c).setCell ⟨g, 3, none⟩ d) p a0 a1 := (h.two hg a b).two hg c d

set_option maxHeartbeats 4000000 in
set_option maxRecDepth 100000 in
theorem RNeg_calls {w : World} {v : Value} {n d : Int} {k : Nat} (h : RV w v n d) (sx : Sm k n) (sy : Sm k d) (hk : k ≤ 137438953472) (hk1 : 1 ≤ k) :
    Calls Tryz.prog 23 #[v] w (RatRes w (-fr n d)) := by
  have hlow : ∀ W, RV W v n d → Calls Tryz.prog 48 #[v] W (RatRes W (fr n d)) := fun W h => low_calls h sx sy hk hk1
  obtain ⟨neg, A1, n1, c1, neg2, A2, n2, c2, rfl⟩ := h.shape
  obtain ⟨hbW, ba, br⟩ := boxQ_facts w 26 26 (.bool neg) (.slice A1 n1 c1) (.bool neg2) (.slice A2 n2 c2) (.bool false) (.slice none 0 0) (.bool false) (.slice none 0 0)
  replace h := h.below hbW
  have sq := SmR.fr sx sy hk1
  have sq1 := sq.1
  have sq2 := sq.2
  generalize fr n d = q at *
  go_enter Tryz.func23, Tryz.ntmps23
  go_wp2_with fail
  change Calls _ _ _ (boxQ w 26 26 (.bool neg) (.slice A1 n1 c1) (.bool neg2) (.slice A2 n2 c2) (.bool false) (.slice none 0 0) (.bool false) (.slice none 0 0)) _
  generalize boxQ w 26 26 (.bool neg) (.slice A1 n1 c1) (.bool neg2) (.slice A2 n2 c2) (.bool false) (.slice none 0 0) (.bool false) (.slice none 0 0) = W at *
  have d1 : ¬ w.heap.size = w.heap.size + 1 := by omega
  have d2 : ¬ w.heap.size + 1 = w.heap.size := by omega
  generalize w.heap.size + 1 = r at *
  generalize hp : w.heap.size = p at ba d1 d2 ⊢
  clear hp
  refine (hlow W h).mono ?_
  rintro e w1 ⟨v, rfl, hv, hb⟩
  have HL := Shut.mk (And.intro ba.lt br.lt)
  have HS := Shut.mk hbW.size
  replace hbW := bthen hbW hb
  (replace ba := ba.below hb; replace br := br.below hb)
  clear hb h
  have l0 := ba.c0
  have l1 := ba.c1
  have l2 := ba.c2
  have l3 := ba.c3
  have f0 := ba.f0
  have f1 := ba.f1
  have f2 := ba.f2
  have f3 := ba.f3
  have HV := Shut.mk hv
  obtain ⟨ng, B1, m1, e1, ng2, B2, m2, e2, rfl⟩ := hv.shape
  clear hv
  go_upto_region 2 with fail
  change Code.wp _ _ _ _ ((((w1.setCell ⟨p, 0, none⟩ (.bool ng)).setCell ⟨p, 1, none⟩ (.slice B1 m1 e1)).setCell ⟨p, 2, none⟩ (.bool ng2)).setCell ⟨p, 3, none⟩ (.slice B2 m2 e2))
  clear l0 l1 l2 l3 f0 f1 f2 f3
  replace hbW := below_four hbW ba.ge (.bool ng) (.slice B1 m1 e1) (.bool ng2) (.slice B2 m2 e2)
  replace br := br.four d2 (.bool ng) (.slice B1 m1 e1) (.bool ng2) (.slice B2 m2 e2)
  replace HV := Shut.mk (HV.out.four HL.out.1 (.bool ng) (.slice B1 m1 e1) (.bool ng2) (.slice B2 m2 e2))
  replace ba := ba.put (.bool ng) (.slice B1 m1 e1) (.bool ng2) (.slice B2 m2 e2)
  generalize (((w1.setCell ⟨p, 0, none⟩ (.bool ng)).setCell ⟨p, 1, none⟩ (.slice B1 m1 e1)).setCell ⟨p, 2, none⟩ (.bool ng2)).setCell ⟨p, 3, none⟩ (.slice B2 m2 e2) = W2 at *
  replace ba := ba.drew
  replace br := br.drew
  replace hbW := hbW.drew
  have l0 := ba.c0
  have l1 := ba.c1
  have l2 := ba.c2
  have l3 := ba.c3
  obtain ⟨hvn, hvd⟩ := HV.out.parts
  replace hvn := hvn.below (drew_below _)
  replace hvd := hvd.below (drew_below _)
  go_region_held3 (fun w' => w'.cell? ⟨p, 0, none⟩ = some (.bool ng) ∧ w'.cell? ⟨p, 1, none⟩ = some (.slice B1 m1 e1) ∧ w'.cell? ⟨p, 2, none⟩ = some (.bool ng2) ∧ w'.cell? ⟨p, 3, none⟩ = some (.slice B2 m2 e2)) (first | (with_reducible exact ⟨l0, l1, l2, l3⟩) | (with_reducible exact ⟨cell_far4 d1 l0, cell_far4 d1 l1, cell_far4 d1 l2, cell_far4 d1 l3⟩) | go_keep)
    (first
      | (go_at_call 56; (with_reducible refine (Neg_calls (hvn.bv sq1 hk)).mono ?_); rintro e w2 ⟨v2, rfl, hv2, hb2⟩; have HL2 := Shut.mk br.lt; have HS2 := Shut.mk hbW.size; replace hbW := bthen hbW hb2; replace hvd := hvd.below hb2; (replace br := br.below hb2; replace l0 := old_cell hb2 l0; replace l1 := old_cell hb2 l1; replace l2 := old_cell hb2 l2; replace l3 := old_cell hb2 l3); have r0 := br.c0; have r1 := br.c1; have r2 := br.c2; have r3 := br.c3; have g0 := br.f0; have g1 := br.f1; have g2 := br.f2; have g3 := br.f3; have HV2 := Shut.mk hv2; obtain ⟨ng3, B3, m3, e3, rfl⟩ := hv2.shape; clear hb2))
  all_goals
    go_wp2_with fail
    refine bodyPost_ret (v := .agg #[.bool ng3, .slice B3 m3 e3, .bool ng2, .slice B2 m2 e2]) (by simp [results, Tryz.results23, go_sem, r0, r1, r2, r3]) rfl ?_
    refine ⟨_, rfl, ⟨_, _, _, _, _, _, _, _, rfl, ?_, ?_⟩, below_four hbW br.ge _ _ _ _⟩
    · rw [Rat.neg_num]; exact (HV2.out.four HL2.out _ _ _ _).mono HS2.out
    · rw [Rat.neg_den]; exact (hvd.four HL.out.2 _ _ _ _).mono HS.out

set_option maxHeartbeats 4000000 in
set_option maxRecDepth 100000 in
theorem Int_calls {w : World} {v : Value} {n d : Int} {k : Nat} (h : RV w v n d) (sx : Sm k n) (sy : Sm k d) (hk : k ≤ 137438953472) (hk1 : 1 ≤ k) :
    Calls Tryz.prog 14 #[v] w (IntRes w (fr n d)) := by
  have hlow : ∀ W, RV W v n d → Calls Tryz.prog 48 #[v] W (RatRes W (fr n d)) := fun W h => low_calls h sx sy hk hk1
  obtain ⟨neg, A1, n1, c1, neg2, A2, n2, c2, rfl⟩ := h.shape
  obtain ⟨hbW, ba, br⟩ := boxI_facts w 26 24 (.bool neg) (.slice A1 n1 c1) (.bool neg2) (.slice A2 n2 c2) (.bool false) (.slice none 0 0)
  replace h := h.below hbW
  have sq := SmR.fr sx sy hk1
  have sq1 := sq.1
  have sq2 := sq.2
  generalize fr n d = q at *
  go_enter Tryz.func14, Tryz.ntmps14
  go_wp2_with fail
  change Calls _ _ _ (boxI w 26 24 (.bool neg) (.slice A1 n1 c1) (.bool neg2) (.slice A2 n2 c2) (.bool false) (.slice none 0 0)) _
  generalize boxI w 26 24 (.bool neg) (.slice A1 n1 c1) (.bool neg2) (.slice A2 n2 c2) (.bool false) (.slice none 0 0) = W at *
  have d1 : ¬ w.heap.size = w.heap.size + 1 := by omega
  have d2 : ¬ w.heap.size + 1 = w.heap.size := by omega
  generalize w.heap.size + 1 = r at *
  generalize hp : w.heap.size = p at ba d1 d2 ⊢
  clear hp
  refine (hlow W h).mono ?_
  rintro e w1 ⟨v, rfl, hv, hb⟩
  have HL := Shut.mk (And.intro ba.lt br.lt)
  have HS := Shut.mk hbW.size
  replace hbW := bthen hbW hb
  (replace ba := ba.below hb; replace br := br.below hb)
  clear hb h
  have l0 := ba.c0
  have l1 := ba.c1
  have l2 := ba.c2
  have l3 := ba.c3
  have f0 := ba.f0
  have f1 := ba.f1
  have f2 := ba.f2
  have f3 := ba.f3
  have HV := Shut.mk hv
  obtain ⟨ng, B1, m1, e1, ng2, B2, m2, e2, rfl⟩ := hv.shape
  clear hv
  go_upto_region 2 with fail
  change Code.wp _ _ _ _ ((((w1.setCell ⟨p, 0, none⟩ (.bool ng)).setCell ⟨p, 1, none⟩ (.slice B1 m1 e1)).setCell ⟨p, 2, none⟩ (.bool ng2)).setCell ⟨p, 3, none⟩ (.slice B2 m2 e2))
  clear l0 l1 l2 l3 f0 f1 f2 f3
  replace hbW := below_four hbW ba.ge (.bool ng) (.slice B1 m1 e1) (.bool ng2) (.slice B2 m2 e2)
  replace br := br.four d2 (.bool ng) (.slice B1 m1 e1) (.bool ng2) (.slice B2 m2 e2)
  replace HV := Shut.mk (HV.out.four HL.out.1 (.bool ng) (.slice B1 m1 e1) (.bool ng2) (.slice B2 m2 e2))
  replace ba := ba.put (.bool ng) (.slice B1 m1 e1) (.bool ng2) (.slice B2 m2 e2)
  generalize (((w1.setCell ⟨p, 0, none⟩ (.bool ng)).setCell ⟨p, 1, none⟩ (.slice B1 m1 e1)).setCell ⟨p, 2, none⟩ (.bool ng2)).setCell ⟨p, 3, none⟩ (.slice B2 m2 e2) = W2 at *
  replace ba := ba.drew
  replace br := br.drew
  replace hbW := hbW.drew
  have l0 := ba.c0
  have l1 := ba.c1
  have l2 := ba.c2
  have l3 := ba.c3
  obtain ⟨hvn, hvd⟩ := HV.out.parts
  replace hvn := hvn.below (drew_below _)
  replace hvd := hvd.below (drew_below _)
  have s1 : Sm k 1 := Sm.of_le (by decide) hk1
  go_region_held3 (fun w' => w'.cell? ⟨p, 0, none⟩ = some (.bool ng) ∧ w'.cell? ⟨p, 1, none⟩ = some (.slice B1 m1 e1) ∧ w'.cell? ⟨p, 2, none⟩ = some (.bool ng2) ∧ w'.cell? ⟨p, 3, none⟩ = some (.slice B2 m2 e2)) (first | (with_reducible exact ⟨l0, l1, l2, l3⟩) | (with_reducible exact ⟨cell_far4 d1 l0, cell_far4 d1 l1, cell_far4 d1 l2, cell_far4 d1 l3⟩) | go_keep)
    (first
      | (go_at_call 45; (with_reducible refine (Of_calls (by omega) (by omega)).mono ?_); rintro e w2 ⟨v2, rfl, hv2, hb2⟩; replace hbW := bthen hbW hb2; (replace hvn := hvn.below hb2; replace hvd := hvd.below hb2; replace ba := ba.below hb2; replace br := br.below hb2; replace l0 := old_cell hb2 l0; replace l1 := old_cell hb2 l1; replace l2 := old_cell hb2 l2; replace l3 := old_cell hb2 l3); clear hb2)
      | (go_at_call 51; (with_reducible refine (Cmp_calls (hvd.bv sq2 hk) (hv2.bv s1 hk)).mono ?_); rintro e w3 ⟨rfl, hb3⟩; replace hbW := bthen hbW hb3; (replace hvn := hvn.below hb3; replace ba := ba.below hb3; replace br := br.below hb3; replace l0 := old_cell hb3 l0; replace l1 := old_cell hb3 l1; replace l2 := old_cell hb3 l2; replace l3 := old_cell hb3 l3); have r0 := br.c0; have r1 := br.c1; have g0 := br.f0; have g1 := br.f1; clear hb3))
  all_goals
    by_cases h1 : (q.den : Int) = 1
    · have hc : cmpI (q.den : Int) 1 = 0 := by rw [h1]; rfl
      have HQ : Shut (q.den = 1) := ⟨by omega⟩
      clear h1
      go_wp2_with fail
      refine bodyPost_ret (v := .tuple #[.agg #[.bool ng, .slice B1 m1 e1], .bool true]) (by simp [results, Tryz.results14, go_sem, r0, r1]) rfl ?_
      refine ⟨.agg #[.bool ng, .slice B1 m1 e1], by rw [HQ.out]; rfl, ?_, below_two hbW br.ge _ _⟩
      rw [if_pos HQ.out]
      exact (hvn.two HL.out.2 _ _).mono HS.out
    · have hc : ((cmpI (q.den : Int) 1) == 0) = false := by unfold cmpI; simp; split <;> (try split) <;> omega
      have HQ : Shut (¬ q.den = 1) := ⟨by omega⟩
      clear h1
      go_wp2_with fail
      refine bodyPost_ret (v := .tuple #[.agg #[.bool false, .slice none 0 0], .bool false]) (by simp [results, Tryz.results14, go_sem, r0, r1]) rfl ?_
      refine ⟨.agg #[.bool false, .slice none 0 0], by simp [HQ.out], ?_, below_two hbW br.ge _ _⟩
      rw [if_neg HQ.out]
      exact NBV.nil _ _

end Go.Proofs.YtjeaakkbkjhldaaGreatDoor

set_option linter.unusedVariables false
set_option linter.unusedSimpArgs false
namespace Go.Proofs.YtjeaakkbkjhldaaGreatDoor
open Go.RowKit

theorem fr_add (a b : Rat) : fr (a.num * (b.den : Int) + b.num * (a.den : Int)) ((a.den : Int) * (b.den : Int)) = a + b := by
  have h1 : (a.den : Int) ≠ 0 := by have := a.den_nz; omega
  have h2 : (b.den : Int) ≠ 0 := by have := b.den_nz; omega
  unfold fr
  rw [if_neg (Int.mul_ne_zero h1 h2), ← Rat.divInt_add_divInt _ _ h1 h2, Rat.num_divInt_den, Rat.num_divInt_den]
theorem fr_mul (a b : Rat) : fr (a.num * b.num) ((a.den : Int) * (b.den : Int)) = a * b := by
  have h1 : (a.den : Int) ≠ 0 := by have := a.den_nz; omega
  have h2 : (b.den : Int) ≠ 0 := by have := b.den_nz; omega
  unfold fr
  rw [if_neg (Int.mul_ne_zero h1 h2), ← Rat.divInt_mul_divInt, Rat.num_divInt_den, Rat.num_divInt_den]
theorem fr_quo (a b : Rat) : (if (a.den : Int) * b.num = 0 then 0 else fr (a.num * (b.den : Int)) ((a.den : Int) * b.num)) = a / b := by
  have h1 : (a.den : Int) ≠ 0 := by have := a.den_nz; omega
  by_cases h2 : b.num = 0
  · have hb : b = 0 := Rat.num_eq_zero.1 h2
    simp [hb, Rat.div_def]
  · rw [if_neg (Int.mul_ne_zero h1 h2)]
    unfold fr
    rw [if_neg (Int.mul_ne_zero h1 h2), ← Rat.divInt_mul_divInt, Rat.num_divInt_den, ← Rat.inv_divInt, Rat.num_divInt_den, Rat.div_def]
theorem quo_ok (a b : Rat) : decide ((a.den : Int) * b.num ≠ 0) = decide (b ≠ 0) := by
  have h1 : (a.den : Int) ≠ 0 := by have := a.den_nz; omega
  simp only [decide_eq_decide]
  constructor
  · intro h e; apply h; rw [e]; simp
  · intro h e
    rcases Int.mul_eq_zero.1 e with e | e
    · exact h1 e
    · exact h (Rat.num_eq_zero.1 e)
/-- the order of fractions -/
def cmpR (a b : Rat) : Int := if a < b then -1 else if b < a then 1 else 0
theorem cmp_cross (a b : Rat) : cmpI (a.num * (b.den : Int)) (b.num * (a.den : Int)) = cmpR a b := by
  unfold cmpR cmpI
  simp only [Rat.lt_iff]
  generalize a.num * (b.den : Int) = x
  generalize b.num * (a.den : Int) = y
  by_cases h1 : x < y
  · simp [h1]
  · by_cases h2 : x = y
    · simp [h2]
    · simp [h1, h2]; omega
def RQuoRes (w : World) (a b : Rat) (en : Ending) (w' : World) : Prop := ∃ v, en = .returned (.tuple #[v, .bool (decide (b ≠ 0))]) ∧ NRV w.heap.size w' v (a / b) ∧ Below w.heap.size w w'
theorem SmR.nums {k : Nat} {a b : Rat} (ha : SmR k a) (hb : SmR k b) : Sm (k + k) (a.num * (b.den : Int)) ∧ Sm (k + k) (b.num * (a.den : Int)) ∧ Sm (k + k) ((a.den : Int) * (b.den : Int)) ∧ Sm (k + k) (a.num * b.num) ∧ Sm (k + k) ((a.den : Int) * b.num) :=
  ⟨ha.1.mul hb.2, hb.1.mul ha.2, ha.2.mul hb.2, ha.1.mul hb.1, ha.2.mul hb.1⟩
theorem Sm.add' {k : Nat} {x y : Int} (h : Sm k x) (h' : Sm k y) : Sm (k + 1) (x + y) := by
  have := h.add h'
  rw [Nat.max_self] at this; exact this
/-- the fraction of a sum has at most 2k+1 digits -/
theorem SmR.add {k : Nat} {a b : Rat} (ha : SmR k a) (hb : SmR k b) (hk : 1 ≤ k) : SmR (k + k + 1) (a + b) := by
  obtain ⟨h1, h2, h3, _, _⟩ := ha.nums hb
  rw [← fr_add]
  exact SmR.fr (h1.add' h2) (h3.mono (by omega)) (by omega)
theorem SmR.mul {k : Nat} {a b : Rat} (ha : SmR k a) (hb : SmR k b) (hk : 1 ≤ k) : SmR (k + k) (a * b) := by
  obtain ⟨_, _, h3, h4, _⟩ := ha.nums hb
  rw [← fr_mul]
  exact SmR.fr h4 h3 (by omega)
theorem SmR.quo {k : Nat} {a b : Rat} (ha : SmR k a) (hb : SmR k b) (hk : 1 ≤ k) : SmR (k + k) (a / b) := by
  obtain ⟨h1, _, _, _, h5⟩ := ha.nums hb
  rw [← fr_quo]
  split
  · exact ⟨Sm.zero _, Sm.of_le (by decide) (by omega)⟩
  · exact SmR.fr h1 h5 (by omega)

/-- two boxes of four -/
def boxP (w : World) (T T' : Nat) (a0 a1 a2 a3 b0 b1 b2 b3 : Value) : World := boxQ w T T' a0 a1 a2 a3 b0 b1 b2 b3

set_option maxHeartbeats 4000000 in
set_option maxRecDepth 100000 in
theorem RMul_calls {w : World} {v v' : Value} {n d n' d' : Int} {k : Nat} (h : RV w v n d) (h' : RV w v' n' d') (sx : Sm k n) (sy : Sm k d) (sx' : Sm k n') (sy' : Sm k d') (hk : k + k + 1 ≤ 137438953472) (hk1 : 1 ≤ k) :
    Calls Tryz.prog 21 #[v, v'] w (RatRes w (fr n d * fr n' d')) := by
  have hlow : ∀ W, RV W v n d → Calls Tryz.prog 48 #[v] W (RatRes W (fr n d)) := fun W h => low_calls h sx sy (by omega) hk1
  have hlow' : ∀ W, RV W v' n' d' → Calls Tryz.prog 48 #[v'] W (RatRes W (fr n' d')) := fun W h => low_calls h sx' sy' (by omega) hk1
  obtain ⟨neg, A1, n1, c1, neg2, A2, n2, c2, rfl⟩ := h.shape
  obtain ⟨neg3, A3, n3, c3, neg4, A4, n4, c4, rfl⟩ := h'.shape
  obtain ⟨hbW, ba, bb, br⟩ := boxQ3_facts w 26 26 26 (.bool neg) (.slice A1 n1 c1) (.bool neg2) (.slice A2 n2 c2) (.bool neg3) (.slice A3 n3 c3) (.bool neg4) (.slice A4 n4 c4) (.bool false) (.slice none 0 0) (.bool false) (.slice none 0 0)
  replace h := (h.below hbW).drew
  replace h' := (h'.below hbW).drew
  have sq := SmR.fr sx sy hk1
  have sq' := SmR.fr sx' sy' hk1
  generalize fr n d = qa at *
  generalize fr n' d' = qb at *
  have hk0 : k ≤ 137438953472 := by omega
  have hkk : k + k ≤ 137438953472 := by omega
  have hkk1 : 1 ≤ k + k := by omega
  obtain ⟨s1, s2, s3, s4, s5⟩ := sq.nums sq'
  have sq1 := sq.1
  have sq2 := sq.2
  have sq3 := sq'.1
  have sq4 := sq'.2
  go_enter Tryz.func21, Tryz.ntmps21
  go_upto_region 1 with fail
  change Code.wp _ _ _ _ (boxQ3 w 26 26 26 (.bool neg) (.slice A1 n1 c1) (.bool neg2) (.slice A2 n2 c2) (.bool neg3) (.slice A3 n3 c3) (.bool neg4) (.slice A4 n4 c4) (.bool false) (.slice none 0 0) (.bool false) (.slice none 0 0))
  generalize boxQ3 w 26 26 26 (.bool neg) (.slice A1 n1 c1) (.bool neg2) (.slice A2 n2 c2) (.bool neg3) (.slice A3 n3 c3) (.bool neg4) (.slice A4 n4 c4) (.bool false) (.slice none 0 0) (.bool false) (.slice none 0 0) = W at *
  have o1 : w.heap.size < w.heap.size + 1 := by omega
  have o2 : w.heap.size + 1 < w.heap.size + 1 + 1 := by omega
  have o3 : w.heap.size + 1 + 1 < w.heap.size + 1 + 1 + 1 := by omega
  obtain ⟨hi, hhi0, o5⟩ : ∃ hi, w.heap.size + 1 + 1 + 1 = hi ∧ hi ≤ w.heap.size + 1 + 1 + 1 := ⟨_, rfl, Nat.le_refl _⟩
  rw [hhi0] at o3
  clear hhi0
  generalize w.heap.size + 1 + 1 = r at *
  generalize w.heap.size + 1 = q at *
  generalize hp : w.heap.size = p at ba o1 ⊢
  clear hp
  have d1 : ¬ p = q := by omega
  have d2 : ¬ q = p := by omega
  have d3 : ¬ r = p := by omega
  have d4 : ¬ r = q := by omega
  have d5 : ¬ p = r := by omega
  have d6 : ¬ q = r := by omega
  have hph : p < hi := by omega
  have hqh : q < hi := by omega
  have hwh : Shut (w.heap.size ≤ hi) := ⟨by have := ba.ge; omega⟩
  go_cut [] (fun wc => ∃ (ng : Bool) (B1 : Option Addr) (m1 e1 : Nat) (ng2 : Bool) (B2 : Option Addr) (m2 e2 : Nat) (ng3 : Bool) (B3 : Option Addr) (m3 e3 : Nat) (ng4 : Bool) (B4 : Option Addr) (m4 e4 : Nat), Shut (Below w.heap.size w wc) ∧ NRV hi wc (.agg #[.bool ng, .slice B1 m1 e1, .bool ng2, .slice B2 m2 e2]) qa ∧ NRV hi wc (.agg #[.bool ng3, .slice B3 m3 e3, .bool ng4, .slice B4 m4 e4]) qb ∧ Box4 w wc p (.bool ng) (.slice B1 m1 e1) (.bool ng2) (.slice B2 m2 e2) ∧ Box4 w wc q (.bool ng3) (.slice B3 m3 e3) (.bool ng4) (.slice B4 m4 e4) ∧ Box4 w wc r (.bool false) (.slice none 0 0) (.bool false) (.slice none 0 0))
  case first =>
    replace hbW := Shut.mk hbW.drew
    have l0 := ba.c0
    have l1 := ba.c1
    have l2 := ba.c2
    have l3 := ba.c3
    have f0 := ba.f0
    have f1 := ba.f1
    have f2 := ba.f2
    have f3 := ba.f3
    have l4 := bb.c0
    have l5 := bb.c1
    have l6 := bb.c2
    have l7 := bb.c3
    have f4 := bb.f0
    have f5 := bb.f1
    have f6 := bb.f2
    have f7 := bb.f3
    replace ba := ba.drew
    replace bb := bb.drew
    replace br := br.drew
    go_region_with (first
      | (go_at_call 48; (with_reducible refine (hlow _ h).mono ?_); rintro e w5 ⟨v5, rfl, hva, hb5⟩; replace hva := hva.mono (show hi ≤ _ by have := bb.lt; have := br.lt; omega); replace hbW := Shut.mk (bthen' hbW.out hbW.out.size hb5); obtain ⟨ng, B1, m1, e1, ng2, B2, m2, e2, rfl⟩ := hva.shape; clear h; ((try replace h' := h'.below hb5); replace ba := ba.below hb5; replace bb := bb.below hb5; replace br := br.below hb5); (try replace hvb := hvb.below hb5); clear hb5; replace l0 := ba.c0; replace l1 := ba.c1; replace l2 := ba.c2; replace l3 := ba.c3; replace f0 := ba.f0; replace f1 := ba.f1; replace f2 := ba.f2; replace f3 := ba.f3; replace l4 := bb.c0; replace l5 := bb.c1; replace l6 := bb.c2; replace l7 := bb.c3; replace f4 := bb.f0; replace f5 := bb.f1; replace f6 := bb.f2; replace f7 := bb.f3)
      | (go_at_call 48; (with_reducible refine (hlow' _ h').mono ?_); rintro e w5 ⟨v5, rfl, hvb, hb5⟩; replace hvb := hvb.mono (show hi ≤ _ by have := bb.lt; have := br.lt; omega); replace hbW := Shut.mk (bthen' hbW.out hbW.out.size hb5); obtain ⟨ng3, B3, m3, e3, ng4, B4, m4, e4, rfl⟩ := hvb.shape; clear h'; ((try replace h := h.below hb5); replace ba := ba.below hb5; replace bb := bb.below hb5; replace br := br.below hb5); (try replace hva := hva.below hb5); clear hb5; replace l0 := ba.c0; replace l1 := ba.c1; replace l2 := ba.c2; replace l3 := ba.c3; replace f0 := ba.f0; replace f1 := ba.f1; replace f2 := ba.f2; replace f3 := ba.f3; replace l4 := bb.c0; replace l5 := bb.c1; replace l6 := bb.c2; replace l7 := bb.c3; replace f4 := bb.f0; replace f5 := bb.f1; replace f6 := bb.f2; replace f7 := bb.f3))
    all_goals
      clear l0 l1 l2 l3 l4 l5 l6 l7 f0 f1 f2 f3 f4 f5 f6 f7
      go_wp2_with fail
      go_meet
      case rel => exact ⟨_, _, _, _, _, _, _, _, _, _, _, _, _, _, _, _, ⟨below_four (below_four hbW.out ba.ge _ _ _ _) bb.ge _ _ _ _⟩, (hva.four hph _ _ _ _).four hqh _ _ _ _, (hvb.four hph _ _ _ _).four hqh _ _ _ _, (ba.put _ _ _ _).four d1 _ _ _ _, (bb.four d2 _ _ _ _).put _ _ _ _, (br.four d3 _ _ _ _).four d4 _ _ _ _⟩
  case rest =>
    clear h h' ba bb br hbW hlow hlow'
    obtain ⟨ng, B1, m1, e1, ng2, B2, m2, e2, ng3, B3, m3, e3, ng4, B4, m4, e4, hbW, hva, hvb, ba, bb, br⟩ := hcut
    replace hbW := Shut.mk hbW.out.drew
    replace ba := ba.drew
    replace bb := bb.drew
    replace br := br.drew
    have l0 := ba.c0
    have l1 := ba.c1
    have l2 := ba.c2
    have l3 := ba.c3
    have l4 := bb.c0
    have l5 := bb.c1
    have l6 := bb.c2
    have l7 := bb.c3
    obtain ⟨han, had⟩ := hva.parts
    obtain ⟨hbn, hbd⟩ := hvb.parts
    replace han := han.below (drew_below _)
    replace had := had.below (drew_below _)
    replace hbn := hbn.below (drew_below _)
    replace hbd := hbd.below (drew_below _)
    clear hva hvb
    go_upto_region 2 with fail
    go_region_held3 (fun w' => (w'.cell? ⟨p, 0, none⟩ = some (.bool ng) ∧ w'.cell? ⟨p, 1, none⟩ = some (.slice B1 m1 e1) ∧ w'.cell? ⟨p, 2, none⟩ = some (.bool ng2) ∧ w'.cell? ⟨p, 3, none⟩ = some (.slice B2 m2 e2)) ∧ w'.cell? ⟨q, 0, none⟩ = some (.bool ng3) ∧ w'.cell? ⟨q, 1, none⟩ = some (.slice B3 m3 e3) ∧ w'.cell? ⟨q, 2, none⟩ = some (.bool ng4) ∧ w'.cell? ⟨q, 3, none⟩ = some (.slice B4 m4 e4)) (first | (with_reducible exact ⟨⟨l0, l1, l2, l3⟩, l4, l5, l6, l7⟩) | (with_reducible exact ⟨⟨cell_far4 d5 l0, cell_far4 d5 l1, cell_far4 d5 l2, cell_far4 d5 l3⟩, cell_far4 d6 l4, cell_far4 d6 l5, cell_far4 d6 l6, cell_far4 d6 l7⟩) | go_keep)
      (first
        | (go_at_call 49; (with_reducible refine (Mul_calls (han.bv sq1 hk0) (hbn.bv sq3 hk0)).mono ?_); rintro e w5 ⟨v5, rfl, hm1, hb5⟩; replace hbW := Shut.mk (bthen' hbW.out hbW.out.size hb5); (replace han := han.below hb5; replace had := had.below hb5; replace hbn := hbn.below hb5; replace hbd := hbd.below hb5; (try replace hm2 := hm2.below hb5); replace ba := ba.below hb5; replace bb := bb.below hb5; replace br := br.below hb5; replace l0 := old_cell hb5 l0; replace l1 := old_cell hb5 l1; replace l2 := old_cell hb5 l2; replace l3 := old_cell hb5 l3; replace l4 := old_cell hb5 l4; replace l5 := old_cell hb5 l5; replace l6 := old_cell hb5 l6; replace l7 := old_cell hb5 l7); clear hb5)
        | (go_at_call 49; (with_reducible refine (Mul_calls (had.bv sq2 hk0) (hbd.bv sq4 hk0)).mono ?_); rintro e w5 ⟨v5, rfl, hm2, hb5⟩; replace hbW := Shut.mk (bthen' hbW.out hbW.out.size hb5); (replace han := han.below hb5; replace had := had.below hb5; replace hbn := hbn.below hb5; replace hbd := hbd.below hb5; (try replace hm1 := hm1.below hb5); replace ba := ba.below hb5; replace bb := bb.below hb5; replace br := br.below hb5; replace l0 := old_cell hb5 l0; replace l1 := old_cell hb5 l1; replace l2 := old_cell hb5 l2; replace l3 := old_cell hb5 l3; replace l4 := old_cell hb5 l4; replace l5 := old_cell hb5 l5; replace l6 := old_cell hb5 l6; replace l7 := old_cell hb5 l7); clear hb5)
        | (go_at_call 53; (with_reducible refine (rmade_calls (hm1.bv s4 hkk) (hm2.bv s3 hkk) s4 s3 hkk hkk1).mono ?_); rintro e w5 ⟨v5, rfl, hv5, hb5⟩; rw [fr_mul] at hv5; (have HL := Shut.mk br.lt; have HS := Shut.mk hbW.out.size; have HB := Shut.mk (bthen' hbW.out hbW.out.size hb5); (replace br := br.below hb5; replace l0 := old_cell hb5 l0; replace l1 := old_cell hb5 l1; replace l2 := old_cell hb5 l2; replace l3 := old_cell hb5 l3; replace l4 := old_cell hb5 l4; replace l5 := old_cell hb5 l5; replace l6 := old_cell hb5 l6; replace l7 := old_cell hb5 l7); have r0 := br.c0; have r1 := br.c1; have r2 := br.c2; have r3 := br.c3; have g0 := br.f0; have g1 := br.f1; have g2 := br.f2; have g3 := br.f3; have HG := Shut.mk br.ge; have HV := Shut.mk hv5; obtain ⟨ng5, B5, m5, e5, ng6, B6, m6, e6, rfl⟩ := hv5.shape; clear hb5)))
    all_goals
      clear l0 l1 l2 l3 l4 l5 l6 l7
      go_wp2_with fail
      refine bodyPost_ret (v := .agg #[.bool ng5, .slice B5 m5 e5, .bool ng6, .slice B6 m6 e6]) (by simp [results, Tryz.results21, go_sem, r0, r1, r2, r3]) rfl ?_
      exact ⟨_, rfl, (HV.out.four HL.out _ _ _ _).mono HS.out, below_four HB.out HG.out _ _ _ _⟩

end Go.Proofs.YtjeaakkbkjhldaaGreatDoor
