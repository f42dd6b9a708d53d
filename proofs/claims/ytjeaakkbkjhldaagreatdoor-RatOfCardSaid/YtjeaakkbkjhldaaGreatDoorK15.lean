import Derived.Test.YtjeaakkbkjhldaaGreatDoorK14
import Derived.Test.YtjeaakkbkjhldaaGreatDoorK9
import Derived.StillTailTactics
set_option linter.unusedVariables false
set_option linter.unusedSimpArgs false
namespace Go.Proofs.YtjeaakkbkjhldaaGreatDoor
open Go.RowKit

/-- the same as one step of a region that draws its order -/
theorem step_append {P : Program} {w : World} {ops : Array Oper} {o : Oper} {a : Act} {K : Act → World → Prop} {Q : Exit → Act → World → Prop} {E : Prop} (hgd : o.guard = none) (s x : Operand) (t : TypeId)
    (ho : o.op = .call { callee := .builtin .append, args := #[s, x], argTypes := #[t, t] })
    (B0 : Nat) (e : TypeId) (k : IntKind) (bytes : Nat) (ht : P.underlying t = some (.slice e)) (hinfo : (P.info? e).map (fun i => (i.zero, i.size, i.bytes)) = some (some (.int k 0), 1, bytes))
    (v : Value) (n : Nat) (ys : List Int) (hs : a.eval s = v) (hown : w.ownsRow B0 e 1 v n (ys.map (.int k)))
    (ad : Addr) (m c : Nat) (zs : List Int) (hx : a.eval x = .slice (some ad) m c) (hr : RdS w k (some ad) m c zs) (hm : 0 < m) (hn : n + m ≤ 4398046511104) (hby : bytes ≤ 8)
    (w0 : World) (hB : Below B0 w0 w) (hB0 : B0 ≤ w.heap.size)
    (h : ∀ g cap w', B0 ≤ g → OwnS w' k e g (n + m) cap (ys ++ zs) → Below B0 w0 w' → w.grownBy w' v.ownBlock → K (a.put o.dst (.slice (some ⟨g, 0, none⟩) (n + m) cap)) w') :
    if Region.wanted o (yielded ops a.tmps) = true then Oper.wp P o a w K Q else E := by
  obtain ⟨i, hi, hz0, hz1, hz2⟩ := info_parts hinfo
  refine step_append_lies (w := w) hgd s x t ho B0 e i (.int k 0) 1 bytes ht hi hz0 hz1 hz2 rfl (by omega) v n (ys.map (.int k)) hs hown ad m c (zs.map (.int k)) hx (by simp [hr.len]) ?_ ?_ hm (by unfold maxLen; omega) ?_ hB0 _ rfl ?_
  · intro j u hu
    rw [List.getElem?_map] at hu
    by_cases hj : j < m
    · obtain ⟨ad', e', hc⟩ := hr.cell j hj
      obtain rfl := Option.some.inj e'
      rw [dg_getElem (by rw [hr.len]; exact hj)] at hu
      rw [hc]; simpa using hu
    · rw [List.getElem?_eq_none (by rw [hr.len]; omega)] at hu
      simp at hu
  · intro u hu
    obtain ⟨_, _, rfl⟩ := List.mem_map.1 hu
    rfl
  · have : (n + m) * bytes ≤ (n + m) * 8 := Nat.mul_le_mul_left _ hby
    omega
  · intro g cap w' hown' hgr hat hlt
    have hb : ∀ k, v.ownBlock = some k → B0 ≤ k := by
      intro k hk
      rcases hown.2 with ⟨rfl, _⟩ | ⟨g2, cap2, cur2, rfl, hg2, _⟩
      · simp [Value.ownBlock] at hk
      · simp [Value.ownBlock] at hk; omega
    refine h g cap w' ?_ (OwnS.of_row hown' (by rw [List.map_append])) (hB.grown hgr hB0 hb) hgr
    rcases hat with hat | rfl
    · exact hb g hat
    · exact hB0

theorem sg_neg {neg : Bool} {x : Int} (h : 0 ≤ x) : decide (sg neg x < 0) = (neg && decide (0 < x)) := by
  unfold sg; cases neg <;> simp <;> omega

/-! ### From -/
set_option maxHeartbeats 8000000 in
set_option maxRecDepth 100000 in
theorem From_calls {w : World} {v : Value} {z : Int} (h : BV w v z) :
    Calls Tryz.prog 31 #[v] w (IRes w z) := by
  obtain ⟨neg, A, n, c, xs, rfl, hx, dx, hl, rfl⟩ := h
  have b1 := hx.big
  have b2 := hx.cap
  obtain ⟨hbW, ba, br⟩ := box2_facts w 24 32 (.bool neg) (.slice A n c) (.bool false) (.slice none 0 0)
  obtain ⟨_, ni⟩ := box2_noint w 24 32 neg A n c false none 0 0
  have hsz : w.heap.size + 1 + 1 = (box2 w 24 32 (.bool neg) (.slice A n c) (.bool false) (.slice none 0 0)).heap.size := by unfold box2; rw [World.size_alloc, World.size_alloc]
  go_enter Tryz.func31, Tryz.ntmps31
  go_wp2_with fail
  change Code.wp _ _ _ _ (box2 w 24 32 (.bool neg) (.slice A n c) (.bool false) (.slice none 0 0))
  generalize box2 w 24 32 (.bool neg) (.slice A n c) (.bool false) (.slice none 0 0) = W at *
  have d1 : ¬ w.heap.size = w.heap.size + 1 := by omega
  obtain ⟨B0, hB0⟩ : ∃ B0, B0 = w.heap.size + 1 + 1 := ⟨_, rfl⟩
  have o1 : w.heap.size < B0 := by omega
  have o2 : w.heap.size + 1 < B0 := by omega
  have o3 : w.heap.size ≤ B0 := by omega
  have o4 : B0 ≤ W.heap.size := by omega
  clear hsz hB0
  generalize w.heap.size + 1 = q at *
  generalize hp : w.heap.size = p at ba o1 d1 ⊢
  clear hp
  have HX := Shut.mk hx
  go_loopw [3, 4] (fun dv iv wr => ∃ (i l : Nat) (ds : List Int), i ≤ n ∧ iv = .int .i64 i ∧ wr.ownsRow B0 3 1 dv l (ds.map (.int .i64)) ∧ Shut (SplitInv 65536 xs ds i ∧ Below w.heap.size w wr ∧ Below B0 W wr) ∧ Box w wr p (.bool neg) (.slice A n c) ∧ Box w wr q (.bool false) (.slice none 0 0)) (fun _ iv _ => n - (intOf iv).toNat)
  case atStart => exact ⟨0, 0, [], Nat.zero_le _, rfl, World.ownsRow_nil _ _ _ _, ⟨SplitInv.start _ _, hbW, Below.refl _ _⟩, ba, br⟩
  case round =>
    clear hbW ba br
    obtain ⟨i, l, ds, hi, rfl, hrow, HI, ba, br⟩ := hrel
    have hll : l = 2 * i := by have := hrow.1; have h2 := HI.out.1.len; rw [List.length_map] at this; omega
    have l0 := ba.c0
    have l1 := ba.c1
    by_cases hlt : i < n
    · obtain ⟨ad, rfl, hcell⟩ := hx.cell i hlt
      replace hcell := old_cell HI.out.2.1 hcell
      have r1 := dg_lt (by omega) dx i
      have p0 : (0 : Int) ≤ (i : Int) := by omega
      have p1 : (i : Int) < (n : Int) := by omega
      have hgs : B0 ≤ wr.heap.size := Nat.le_trans o4 HI.out.2.2.size
      have hll4 : l + 2 ≤ 4398046511104 := by omega
      have m0 : (dg xs i).tmod 65536 = dg xs i % 65536 := Int.tmod_eq_emod_of_nonneg r1.1
      have m1 : (dg xs i).tdiv 65536 = dg xs i / 65536 := Int.tdiv_eq_ediv_of_nonneg r1.1
      have w0 : IntKind.i64.wrap (dg xs i) = dg xs i := by rw [IntKind.wrap_i64]; omega
      have w1 : IntKind.i64.wrap (dg xs i % 65536) = dg xs i % 65536 := by rw [IntKind.wrap_i64]; omega
      have w2 : IntKind.i64.wrap (dg xs i / 65536) = dg xs i / 65536 := by rw [IntKind.wrap_i64]; omega
      have HS := HI.out.1.step (by omega) dx
      have HS2 := Shut.mk HS
      have HB := Shut.mk HI.out.2
      clear HS HI hll
      go_upto_region 5 with fail
      have hadb : ad.block < B0 := by
        have := World.block_lt_of_cell? wr _ hcell
        obtain ⟨ad', e', hc0⟩ := HX.out.cell i hlt
        cases e'
        have h0 := World.block_lt_of_cell? w _ hc0
        rw [addr_add_block] at h0
        omega
      have hgl : wr.heap.size = wr.heap.size := rfl
      have hk1 : ∀ W', Below B0 wr W' → W'.cell? ⟨p, 1, none⟩ = some (.slice (some ad) n c) ∧ W'.cell? (ad.add i) = some (.int .u32 (dg xs i)) := fun W' hb => ⟨(hb.cell (p := ⟨p, 1, none⟩) o1).trans l1, (hb.cell (p := ad.add i) (by rw [addr_add_block]; exact hadb)).trans hcell⟩
      have hbA : ∀ o, Below B0 wr (wr.alloc o).drew := fun o => ((Below.refl B0 wr).alloc hgs o).drew
      go_region_held3 (fun w' => w'.cell? ⟨p, 1, none⟩ = some (.slice (some ad) n c) ∧ w'.cell? (ad.add i) = some (.int .u32 (dg xs i))) (first | (with_reducible exact hk1 _ hb2) | (with_reducible exact hk1 _ (hbA _)) | (with_reducible exact hk1 _ (Below.refl B0 wr).drew) | go_keep)
        ((refine step_append rfl (.tmp 12) (.tmp 27) 30 rfl B0 3 .i64 8 Tryz.underlying30 info_int _ l ds rfl (hrow.alloc _) ⟨wr.heap.size, 0, none⟩ 2 2 [_, _] rfl ((rd_two wr .i64 3 _ _ rfl).drew) (by omega) hll4 (by omega) wr (hbA _) (Nat.le_trans hgs (by simp)) ?_; intro g2 cap2 w2 hg2 own2 hb2 hgr2))
      all_goals
        clear hk1 hbA l0 l1
        go_wp2
        go_roundw
        case rel => exact ⟨i + 1, l + 2, _, by omega, by go_num, own2.row hg2, ⟨HS2.out, HB.out.1.trans (hb2.mono o3), HB.out.2.trans hb2⟩, ba.belowB hb2 o1 hgs, br.belowB hb2 o2 hgs⟩
        case measure => simp [intOf]; omega
    · obtain rfl : i = n := by omega
      obtain ⟨A2, c2, rfl, hrd, _⟩ := row_rd hrow
      have HD := Shut.mk (HI.out.1.done hx.len)
      have HDg := Shut.mk HI.out.1.dig
      have HB := Shut.mk HI.out.2.1
      have ni2 := ni.below o2 HI.out.2.2
      have hv0 : 0 ≤ val 4294967296 xs := val_nonneg (by omega) dx
      have hb1 := hrd.big
      have hb2 := hrd.cap
      clear HI hrow hll
      go_wp2_with fail
      refine (trim_calls hrd).mono ?_
      rintro e w' ⟨rfl, hw'⟩
      obtain rfl := hw'.symm
      have hnv := NV.of_trim hrd HDg.out
      rw [HD.out] at hnv
      have HV := Shut.mk hnv
      obtain ⟨hz, hz1, hz2⟩ := hnv.pos
      generalize nlen ds l = m at *
      have hval : val (65536 * 65536) xs = val 4294967296 xs := rfl
      rw [hval] at hz
      have hfin : ∀ (b : Bool) W', b = (neg && decide (0 < val 4294967296 xs)) → W' = ((wr.setCell ⟨q, 0, none⟩ (.bool b)).setCell ⟨q, 1, none⟩ (.slice A2 m m)) → IRes w (sg neg (val 4294967296 xs)) (.returned (.agg #[.bool b, .slice A2 m m])) W' := by
        rintro b W' rfl rfl
        refine ⟨_, rfl, iv_mk ?_ (sg_neg hv0).symm, below_two HB.out br.ge _ _⟩
        rw [natAbs_sg neg hv0]
        exact HV.out.put2 ni2 0 1 _ _ _ _
      have HF := Shut.mk hfin
      have l0 := ba.c0
      have r0 := br.c0
      have r1 := br.c1
      have g0 := br.f0
      have g1 := br.f1
      clear hfin hnv HV HB HD HDg ba br ni2
      rcases Nat.eq_zero_or_pos m with hm | hm
      · subst hm
        have e0 := hz.1 rfl
        have HE : Shut (∀ b : Bool, (b && decide (0 < val 4294967296 xs)) = false) := ⟨by intro b; rw [e0]; simp⟩
        clear e0 hz hv0
        cases neg
        · go_wp2
          refine bodyPost_ret (v := .agg #[.bool false, .slice A2 0 0]) (by simp [results, Tryz.results31, go_sem, r0, r1]) rfl ?_
          exact HF.out _ _ (HE.out _).symm rfl
        · go_wp2
          refine bodyPost_ret (v := .agg #[.bool false, .slice A2 0 0]) (by simp [results, Tryz.results31, go_sem, r0, r1]) rfl ?_
          exact HF.out _ _ (HE.out _).symm rfl
      · have e0 : 0 < val 4294967296 xs := by omega
        have HE : Shut (∀ b : Bool, (b && decide (0 < val 4294967296 xs)) = b) := ⟨by intro b; simp [e0]⟩
        clear e0 hz hv0
        cases neg
        · go_wp2
          refine bodyPost_ret (v := .agg #[.bool false, .slice A2 m m]) (by simp [results, Tryz.results31, go_sem, r0, r1]) rfl ?_
          exact HF.out _ _ (HE.out _).symm rfl
        · go_wp2
          refine bodyPost_ret (v := .agg #[.bool true, .slice A2 m m]) (by simp [results, Tryz.results31, go_sem, r0, r1]) rfl ?_
          exact HF.out _ _ (HE.out _).symm rfl

end Go.Proofs.YtjeaakkbkjhldaaGreatDoor

set_option linter.unusedVariables false
set_option linter.unusedSimpArgs false
namespace Go.Proofs.YtjeaakkbkjhldaaGreatDoor
open Go.RowKit

/-! ### To -/
set_option maxHeartbeats 8000000 in
set_option maxRecDepth 100000 in
theorem To_calls {w : World} {v : Value} {z : Int} {k : Nat} (h : IV w v z) (sz : Sm k z) (hk : k ≤ 137438953472) :
    Calls Tryz.prog 52 #[v] w (MadeRes w z) := by
  obtain ⟨s, rfl, hs⟩ := h
  obtain ⟨A, n, c, ds, rfl, hx, dx, nx, hv, hl⟩ := hs.split sz.abs hk
  have b1 := hx.big
  have b2 := hx.cap
  have hlen := hx.len
  have HZ : Shut (decide (z < 0) = true → 0 < n) := ⟨fun h => by
    have h1 : z < 0 := by simpa using h
    rcases Nat.eq_zero_or_pos n with e | e
    · have : ds = [] := List.eq_nil_of_length_eq_zero (by omega)
      rw [this] at hv
      simp only [val] at hv
      omega
    · exact e⟩
  have HV := Shut.mk hv
  clear hv hs sz
  obtain ⟨b, hb⟩ : ∃ b, decide (z < 0) = b := ⟨_, rfl⟩
  have HBz := Shut.mk hb
  rw [hb] at HZ ⊢
  clear hb
  obtain ⟨hbW, ba, br⟩ := box2_facts w 32 24 (.bool b) (.slice A n c) (.bool false) (.slice none 0 0)
  have hsz : w.heap.size + 1 + 1 = (box2 w 32 24 (.bool b) (.slice A n c) (.bool false) (.slice none 0 0)).heap.size := by unfold box2; rw [World.size_alloc, World.size_alloc]
  go_enter Tryz.func52, Tryz.ntmps52
  go_wp2_with fail
  change Code.wp _ _ _ _ (box2 w 32 24 (.bool b) (.slice A n c) (.bool false) (.slice none 0 0))
  generalize box2 w 32 24 (.bool b) (.slice A n c) (.bool false) (.slice none 0 0) = W at *
  have d1 : ¬ w.heap.size = w.heap.size + 1 := by omega
  obtain ⟨B0, hB0⟩ : ∃ B0, B0 = w.heap.size + 1 + 1 := ⟨_, rfl⟩
  have o1 : w.heap.size < B0 := by omega
  have o2 : w.heap.size + 1 < B0 := by omega
  have o3 : w.heap.size ≤ B0 := by omega
  have o4 : B0 ≤ W.heap.size := by omega
  clear hsz hB0
  generalize w.heap.size + 1 = q at *
  generalize hp : w.heap.size = p at ba o1 d1 ⊢
  have HP := Shut.mk hp
  clear hp
  go_loopw [3, 4] (fun mv iv wr => ∃ (i j l : Nat) (os : List Int), i ≤ n + 1 ∧ Shut (i = 2 * j) ∧ iv = .int .i64 (i : Int) ∧ wr.ownsRow B0 73 1 mv l (os.map (.int .u32)) ∧ Shut (JoinInv 65536 ds os j ∧ Below w.heap.size w wr ∧ Below B0 W wr) ∧ Box w wr p (.bool b) (.slice A n c) ∧ Box w wr q (.bool false) (.slice none 0 0)) (fun _ iv _ => n + 1 - (intOf iv).toNat)
  case atStart => exact ⟨0, 0, 0, [], Nat.zero_le _, ⟨rfl⟩, rfl, World.ownsRow_nil _ _ _ _, ⟨JoinInv.start _ _, hbW, Below.refl _ _⟩, ba, br⟩
  case round =>
    clear hbW ba br
    obtain ⟨i, j, l, os, hj, HJ, rfl, hrow, HI, ba, br⟩ := hrel
    have hll : l = j := by have := hrow.1; have h2 := HI.out.1.len; rw [List.length_map] at this; omega
    have l0 := ba.c0
    have l1 := ba.c1
    by_cases hlt : i < n
    · obtain ⟨ad, rfl, hcell⟩ := hx.cell i hlt
      replace hcell := old_cell HI.out.2.1 hcell
      have r1 := dg_lt (by omega) dx i
      have r2 := dg_lt (by omega) dx (i + 1)
      have hgs : B0 ≤ wr.heap.size := Nat.le_trans o4 HI.out.2.2.size
      have hll4 : l + 1 ≤ 4398046511104 := by have := HJ.out; omega
      have HB := Shut.mk HI.out.2
      by_cases h2 : i + 1 < n
      · obtain ⟨ad', e', hcell2⟩ := hx.cell (i + 1) h2
        cases e'
        replace hcell2 := old_cell HI.out.2.1 hcell2
        rw [show ad.add (i + 1) = ⟨ad.block, ad.off + (i + 1), none⟩ from by unfold Addr.add; simp] at hcell2
        have HS := Shut.mk (HI.out.1.step (by omega) dx (d := dg ds i + 65536 * dg ds (i + 1)) (by rw [HJ.out]))
        clear HI hll
        go_wp2_with (at_builtin; refine wpl_append rfl (.tmp 33) (.tmp 36) 22 rfl B0 73 .u32 4 Tryz.underlying22 info_u32 _ l os rfl (hrow.alloc _) ⟨wr.heap.size, 0, none⟩ 1 1 [_] rfl (rd_one _ _ _ _) (by omega) hll4 (by omega) wr ((Below.refl _ _).alloc hgs _) (Nat.le_trans hgs (by simp)) ?_; intro g2 cap2 w2 hg2 own2 hb2 hgr2)
        clear l0 l1 hcell hcell2
        go_roundw
        case rel => exact ⟨i + 2, j + 1, l + 1, _, by omega, ⟨by have := HJ.out; omega⟩, by go_num, own2.row hg2, ⟨HS.out, HB.out.1.trans (hb2.mono o3), HB.out.2.trans hb2⟩, ba.belowB hb2 o1 hgs, br.belowB hb2 o2 hgs⟩
        case measure => simp [intOf]; omega
      · have hz : dg ds (2 * j + 1) = 0 := dg_ge (by have := HJ.out; omega)
        have HS := Shut.mk (HI.out.1.step (by omega) dx (d := dg ds i) (by rw [hz, HJ.out]; omega))
        clear HI hll hz
        go_wp2_with (at_builtin; refine wpl_append rfl (.tmp 33) (.tmp 36) 22 rfl B0 73 .u32 4 Tryz.underlying22 info_u32 _ l os rfl (hrow.alloc _) ⟨wr.heap.size, 0, none⟩ 1 1 [_] rfl (rd_one _ _ _ _) (by omega) hll4 (by omega) wr ((Below.refl _ _).alloc hgs _) (Nat.le_trans hgs (by simp)) ?_; intro g2 cap2 w2 hg2 own2 hb2 hgr2)
        clear l0 l1 hcell
        go_roundw
        case rel => exact ⟨i + 2, j + 1, l + 1, _, by omega, ⟨by have := HJ.out; omega⟩, by go_num, own2.row hg2, ⟨HS.out, HB.out.1.trans (hb2.mono o3), HB.out.2.trans hb2⟩, ba.belowB hb2 o1 hgs, br.belowB hb2 o2 hgs⟩
        case measure => simp [intOf]; omega
    · obtain ⟨A2, c2, rfl, hrd, hbl⟩ := row_rd hrow
      have HD := Shut.mk (HI.out.1.done (by omega) dx nx (by have := HJ.out; omega) (by have := HJ.out; omega))
      have HDg := Shut.mk HI.out.1.dig
      have HB := Shut.mk HI.out.2.1
      have HRD := Shut.mk hrd
      have HBL := Shut.mk hbl
      have r0 := br.c0
      have r1 := br.c1
      have g0 := br.f0
      have g1 := br.f1
      have hqB : q < B0 := o2
      have HG := Shut.mk br.ge
      have hfin : ∀ W', W' = ((wr.setCell ⟨q, 0, none⟩ (.bool b)).setCell ⟨q, 1, none⟩ (.slice A2 l c2)) → MadeRes w z (.returned (.agg #[.bool b, .slice A2 l c2])) W' := by
        rintro W' rfl
        refine ⟨_, rfl, ⟨A2, l, c2, os, by rw [HBz.out], ?_, HDg.out, HD.out.1, ?_, fun ad e => by have := HBL.out ad e; omega⟩, below_two HB.out HG.out _ _⟩
        · exact (HRD.out.far (p := ⟨q, 0, none⟩) (fun ad e => by have := HBL.out ad e; simp; omega) _).far (p := ⟨q, 1, none⟩) (fun ad e => by have := HBL.out ad e; simp; omega) _
        · have e2 : val (65536 * 65536) os = val 4294967296 os := rfl
          rw [← e2, HD.out.2, HV.out]
      have HF := Shut.mk hfin
      clear hfin HI HD HDg HB HRD HBL br hrow hrd hbl hll
      cases b with
      | false =>
        go_wp2
        refine bodyPost_ret (v := .agg #[.bool false, .slice A2 l c2]) (by simp [results, Tryz.results52, go_sem, r0, r1]) rfl ?_
        exact HF.out _ rfl
      | true =>
        have hn0 := HZ.out rfl
        go_wp2
        refine bodyPost_ret (v := .agg #[.bool true, .slice A2 l c2]) (by simp [results, Tryz.results52, go_sem, r0, r1]) rfl ?_
        exact HF.out _ rfl

end Go.Proofs.YtjeaakkbkjhldaaGreatDoor

set_option linter.unusedVariables false
set_option linter.unusedSimpArgs false
namespace Go.Proofs.YtjeaakkbkjhldaaGreatDoor
open Go.RowKit

/-! ### Is -/
set_option maxHeartbeats 8000000 in
set_option maxRecDepth 100000 in
theorem Is_calls {w : World} {va vi : Value} {z : Int} {k B : Nat} (ha : NBV B w va z) (hi : IV w vi z) (sz : Sm k z) (hk : k ≤ 137438953472) :
    Calls Tryz.prog 16 #[va, vi] w fun e w' => e = .returned (.bool true) ∧ Below w.heap.size w w' := by
  have hto := fun (W : World) (h : IV W vi z) => To_calls h sz hk
  obtain ⟨s, rfl, hs⟩ := hi
  obtain ⟨Ai, ni, ci, rfl⟩ := hs.slice
  have hvi : IV w (.agg #[.bool (decide (z < 0)), .slice Ai ni ci]) z := ⟨_, rfl, hs⟩
  obtain ⟨A, n, c, xs, rfl, hx, dx, nx, hv, hz9⟩ := ha
  clear hz9
  have b1 := hx.big
  have b2 := hx.cap
  obtain ⟨b, hb⟩ : ∃ b, decide (z < 0) = b := ⟨_, rfl⟩
  rw [hb] at hto hvi ⊢
  have HBz := Shut.mk hb
  clear hb
  obtain ⟨hbW, ba, bi⟩ := box2_facts w 24 32 (.bool b) (.slice A n c) (.bool b) (.slice Ai ni ci)
  go_enter Tryz.func16, Tryz.ntmps16
  go_upto_region 1 with fail
  change Code.wp _ _ _ _ (box2 w 24 32 (.bool b) (.slice A n c) (.bool b) (.slice Ai ni ci))
  replace hvi := hvi.below hbW
  generalize box2 w 24 32 (.bool b) (.slice A n c) (.bool b) (.slice Ai ni ci) = W at *
  generalize w.heap.size + 1 = q at *
  generalize hp : w.heap.size = p at ba ⊢
  subst hp
  have l0 := bi.c0
  have l1 := bi.c1
  go_wp2_with fail
  refine (hto _ hvi).mono ?_
  rintro e w2 ⟨v2, rfl, hv2, hb2⟩
  replace hbW := bthen hbW hb2
  (replace ba := ba.below hb2)
  clear hb2 l0 l1 bi hvi hto hs
  obtain ⟨A2, n2, c2, ys, rfl, hy, dy, ny, hvy, hz9⟩ := hv2
  clear hz9
  have hxy : ys = xs := Nrm.inj (B := 4294967296) (by omega) dy dx ny nx (by rw [hv, hvy])
  subst hxy
  have hnn : n2 = n := by rw [← hx.len, ← hy.len]
  subst hnn
  rw [HBz.out]
  have HRX := Shut.mk hx
  obtain ⟨hbX, bw⟩ := box1_facts w2 24 (.bool b) (.slice A2 n2 c2)
  go_upto_region 2 with fail
  change Code.wp _ _ _ _ (box1 w2 24 (.bool b) (.slice A2 n2 c2))
  replace hbW := bthen hbW hbX
  (replace ba := ba.below hbX; replace hy := hy.below hbX)
  have hx2 := hx.below hbW
  generalize box1 w2 24 (.bool b) (.slice A2 n2 c2) = W3 at *
  generalize w2.heap.size = q3 at *
  have b3 := hy.big
  have b4 := hy.cap
  have l0 := ba.c0
  have l1 := ba.c1
  have m0 := bw.c0
  have m1 := bw.c1
  have hbb : (b != b) = false := by cases b <;> rfl
  have hnn : ((n2 : Int) != (n2 : Int)) = false := by simp
  clear hbX hx hv hvy nx ny
  go_wp2
  go_loopw [6] (fun iv wr => ∃ (i : Nat), i ≤ n2 ∧ iv = .int .i64 i ∧ Shut (Below W3.heap.size W3 wr)) (fun iv _ => n2 - (intOf iv).toNat)
  case atStart => exact ⟨0, Nat.zero_le _, rfl, ⟨Below.refl _ _⟩⟩
  case round =>
    obtain ⟨i, hi, rfl, HN⟩ := hrel
    have hbN := HN.out
    replace hbW := bthen hbW hbN
    replace hx2 := hx2.below hbN
    replace hy := hy.below hbN
    replace l0 := old_cell hbN l0
    replace l1 := old_cell hbN l1
    replace m0 := old_cell hbN m0
    replace m1 := old_cell hbN m1
    clear hbN
    by_cases hlt : i < n2
    · obtain ⟨ad, rfl, hcell⟩ := hx2.cell i hlt
      obtain ⟨ad2, rfl, hcell2⟩ := hy.cell i hlt
      have p0 : (0 : Int) ≤ (i : Int) := by omega
      have p1 : (i : Int) < (n2 : Int) := by omega
      have hdd : (dg ys i != dg ys i) = false := by simp
      go_upto_region 7 with fail
      go_quiet (fail)
      go_wp2
      go_roundw
      case rel => exact ⟨i + 1, by omega, by go_num, ⟨HN.out.drewN _⟩⟩
      case measure => simp [intOf]; omega
    · go_wp2
      go_ret
      exact ⟨rfl, hbW⟩

end Go.Proofs.YtjeaakkbkjhldaaGreatDoor

set_option linter.unusedVariables false
set_option linter.unusedSimpArgs false
namespace Go.Proofs.YtjeaakkbkjhldaaGreatDoor
open Go.RowKit

/-! ### Of(1) -/
set_option maxHeartbeats 4000000 in
set_option maxRecDepth 100000 in
theorem IOf1_calls {w : World} : Calls Tryz.prog 47 #[.int .i64 1] w (IRes w 1) := by
  obtain ⟨hbW, br⟩ := box1_facts w 32 (.bool false) (.slice none 0 0)
  have ni := box1_noint w 32 false none 0 0
  have hsz : w.heap.size + 1 = (box1 w 32 (.bool false) (.slice none 0 0)).heap.size := by unfold box1; rw [World.size_alloc]
  go_enter Tryz.func47, Tryz.ntmps47
  go_wp2_with fail
  change Code.wp _ _ _ _ (box1 w 32 (.bool false) (.slice none 0 0))
  generalize box1 w 32 (.bool false) (.slice none 0 0) = W at *
  obtain ⟨B0, hB0⟩ : ∃ B0, B0 = w.heap.size + 1 := ⟨_, rfl⟩
  have o2 : w.heap.size < B0 := by omega
  have o3 : w.heap.size ≤ B0 := by omega
  have o4 : B0 ≤ W.heap.size := by omega
  clear hsz hB0
  generalize hp : w.heap.size = q at br ni o2 ⊢
  have HP := Shut.mk hp
  clear hp
  go_loopw [0, 4] (fun nv dv wr => ((nv = .int .i64 1 ∧ dv = .slice none 0 0 ∧ wr = W) ∨ (∃ g c, nv = .int .i64 0 ∧ dv = .slice (some ⟨g, 0, none⟩) 1 c ∧ OwnS wr .i64 3 g 1 c [1] ∧ B0 ≤ g ∧ Below B0 W wr))) (fun nv _ _ => (intOf nv).toNat)
  case atStart => exact .inl ⟨rfl, rfl, rfl⟩
  case round =>
    rcases hrel with ⟨rfl, rfl, rfl⟩ | ⟨g, c, rfl, rfl, own, hg, hb⟩
    · go_wp2_with (at_builtin; refine wpl_append rfl (.tmp 16) (.tmp 18) 30 rfl B0 3 .i64 8 Tryz.underlying30 info_int _ 0 [] rfl (World.ownsRow_nil _ _ _ _) ⟨wr.heap.size, 0, none⟩ 1 1 [_] rfl (rd_one _ _ _ _) (by omega) (by omega) (by omega) wr ((Below.refl _ _).alloc o4 _) (Nat.le_trans o4 (by simp)) ?_; intro g2 cap2 w2 hg2 own2 hb2 hgr2)
      go_roundw
      case rel => exact .inr ⟨g2, cap2, by go_num, rfl, own2, hg2, hb2⟩
      case measure => simp [intOf]
    · have hrd := own.rd
      have hbig := hrd.big
      have hcap := hrd.cap
      have HR := Shut.mk hrd
      have HB := Shut.mk (hbW.trans (hb.mono (by have := HP.out; omega)))
      replace br := br.belowB hb o2 o4
      replace ni := ni.below o2 hb
      have NI := Shut.mk ni
      have HG := Shut.mk br.ge
      have r0 := br.c0
      have r1 := br.c1
      have g0 := br.f0
      have g1 := br.f1
      clear hrd own br hb hbW ni
      go_wp2
      refine bodyPost_ret (v := .agg #[.bool false, .slice (some ⟨g, 0, none⟩) 1 c]) (by simp [results, Tryz.results47, go_sem, r0, r1]) rfl ?_
      refine ⟨_, rfl, iv_mk ?_ (by decide), below_two HB.out HG.out _ _⟩
      refine NV.put2 ?_ NI.out 0 1 _ _ _ _
      exact ⟨_, _, _, [1], rfl, HR.out, Dgs.cons.2 ⟨by omega, Dgs.nil _⟩, fun _ => by simp [dg], by simp [val]⟩

/-- v is a fraction of sterlingref1: it reads as q -/
def RI (w : World) (v : Value) (q : Rat) : Prop := ∃ b A n c b2 A2 n2 c2, v = .agg #[.bool b, .slice A n c, .bool b2, .slice A2 n2 c2] ∧ IV w (.agg #[.bool b, .slice A n c]) q.num ∧ IV w (.agg #[.bool b2, .slice A2 n2 c2]) (q.den : Int)
theorem RI.below {w w1 : World} {v : Value} {q : Rat} (h : RI w v q) (hb : Below w.heap.size w w1) : RI w1 v q := by
  obtain ⟨b, A, n, c, b2, A2, n2, c2, rfl, h1, h2⟩ := h
  exact ⟨b, A, n, c, b2, A2, n2, c2, rfl, h1.below hb, h2.below hb⟩
theorem IV.shape {w : World} {v : Value} {z : Int} (h : IV w v z) : ∃ b A n c, v = .agg #[.bool b, .slice A n c] := by
  obtain ⟨s, rfl, hs⟩ := h
  obtain ⟨A, n, c, rfl⟩ := hs.slice
  exact ⟨_, A, n, c, rfl⟩
def RIRes (w : World) (q : Rat) (en : Ending) (w' : World) : Prop := ∃ v, en = .returned v ∧ RI w' v q ∧ Below w.heap.size w w'

/-! ### IsRat -/
set_option maxHeartbeats 4000000 in
set_option maxRecDepth 100000 in
theorem IsRat_calls {w : World} {va vi : Value} {q : Rat} {k B : Nat} (ha : NRV B w va q) (hi : RI w vi q) (sq : SmR k q) (hk : k ≤ 137438953472) :
    Calls Tryz.prog 11 #[va, vi] w fun e w' => e = .returned (.bool true) ∧ Below w.heap.size w w' := by
  obtain ⟨ng, A, n, c, ng2, A2, n2, c2, rfl, a1, a2⟩ := ha
  obtain ⟨b, Ai, ni, ci, b2, Ai2, ni2, ci2, rfl, i1, i2⟩ := hi
  have sq1 := sq.1
  have sq2 := sq.2
  obtain ⟨hbW, ba, bi⟩ := boxQ_facts w 26 34 (.bool ng) (.slice A n c) (.bool ng2) (.slice A2 n2 c2) (.bool b) (.slice Ai ni ci) (.bool b2) (.slice Ai2 ni2 ci2)
  go_enter Tryz.func11, Tryz.ntmps11
  go_upto_region 1 with fail
  change Code.wp _ _ _ _ (boxQ w 26 34 (.bool ng) (.slice A n c) (.bool ng2) (.slice A2 n2 c2) (.bool b) (.slice Ai ni ci) (.bool b2) (.slice Ai2 ni2 ci2))
  (replace a1 := a1.below hbW; replace a2 := a2.below hbW; replace i1 := i1.below hbW; replace i2 := i2.below hbW)
  generalize boxQ w 26 34 (.bool ng) (.slice A n c) (.bool ng2) (.slice A2 n2 c2) (.bool b) (.slice Ai ni ci) (.bool b2) (.slice Ai2 ni2 ci2) = W at *
  generalize w.heap.size + 1 = r at *
  generalize hp : w.heap.size = p at ba ⊢
  subst hp
  have l0 := ba.c0
  have l1 := ba.c1
  have m0 := bi.c0
  have m1 := bi.c1
  go_wp2_with fail
  refine (Is_calls a1 i1 sq1 hk).mono ?_
  rintro e w2 ⟨rfl, hb2⟩
  replace hbW := bthen hbW hb2
  (replace a2 := a2.below hb2; replace i2 := i2.below hb2; replace ba := ba.below hb2; replace bi := bi.below hb2)
  clear hb2 l0 l1 m0 m1 a1 i1
  have l2 := ba.c2
  have l3 := ba.c3
  have m2 := bi.c2
  have m3 := bi.c3
  go_wp2_with fail
  refine (Is_calls a2 i2 sq2 hk).mono ?_
  rintro e w3 ⟨rfl, hb3⟩
  replace hbW := bthen hbW hb3
  clear l2 l3 m2 m3 a2 i2 hb3
  go_wp2
  go_ret
  exact ⟨rfl, hbW⟩

end Go.Proofs.YtjeaakkbkjhldaaGreatDoor

set_option linter.unusedVariables false
set_option linter.unusedSimpArgs false
namespace Go.Proofs.YtjeaakkbkjhldaaGreatDoor
open Go.RowKit

theorem fr_one (z : Int) : (fr z 1).num = z ∧ (fr z 1).den = 1 := by
  unfold fr
  rw [if_neg (by omega), Rat.num_divInt, Rat.den_divInt, if_neg (by omega)]
  simp
theorem boxM_noint (w : World) (T T' T'' : Nat) (b : Bool) (A : Option Addr) (n c : Nat) (b2 : Bool) (A2 : Option Addr) (n2 c2 : Nat) (b3 : Bool) (A3 : Option Addr) (n3 c3 : Nat) (b4 : Bool) (A4 : Option Addr) (n4 c4 : Nat) :
    NoInt (boxM w T T' T'' (.bool b) (.slice A n c) (.bool b2) (.slice A2 n2 c2) (.bool b3) (.slice A3 n3 c3) (.bool b4) (.slice A4 n4 c4)) w.heap.size ∧ NoInt (boxM w T T' T'' (.bool b) (.slice A n c) (.bool b2) (.slice A2 n2 c2) (.bool b3) (.slice A3 n3 c3) (.bool b4) (.slice A4 n4 c4)) (w.heap.size + 1) ∧ NoInt (boxM w T T' T'' (.bool b) (.slice A n c) (.bool b2) (.slice A2 n2 c2) (.bool b3) (.slice A3 n3 c3) (.bool b4) (.slice A4 n4 c4)) (w.heap.size + 1 + 1) := by
  obtain ⟨h1, h2⟩ := box2_noint w T T' b A n c b2 A2 n2 c2
  have e : (box2 w T T' (.bool b) (.slice A n c) (.bool b2) (.slice A2 n2 c2)).heap.size = w.heap.size + 1 + 1 := by unfold box2; rw [World.size_alloc, World.size_alloc]
  refine ⟨h1.below (by rw [e]; omega) (alloc_below _ _), h2.below (by rw [e]; omega) (alloc_below _ _), ?_⟩
  have := NoInt.new (box2 w T T' (.bool b) (.slice A n c) (.bool b2) (.slice A2 n2 c2)) #[.bool b3, .slice A3 n3 c3, .bool b4, .slice A4 n4 c4] T'' (by simp)
  rw [e] at this; exact this
theorem boxR_noint (w : World) (T T' : Nat) (b : Bool) (A : Option Addr) (n c : Nat) (b3 : Bool) (A3 : Option Addr) (n3 c3 : Nat) (b4 : Bool) (A4 : Option Addr) (n4 c4 : Nat) :
    NoInt (boxR w T T' (.bool b) (.slice A n c) (.bool b3) (.slice A3 n3 c3) (.bool b4) (.slice A4 n4 c4)) (w.heap.size + 1) := by
  have := NoInt.new (w.alloc (.cells #[.bool b, .slice A n c] T)) #[.bool b3, .slice A3 n3 c3, .bool b4, .slice A4 n4 c4] T' (by simp)
  rw [World.size_alloc] at this; exact this
theorem NoInt.put4 {w : World} {s : Nat} (h : NoInt w s) (r : Nat) (b : Bool) (A : Option Addr) (n c : Nat) (b2 : Bool) (A2 : Option Addr) (n2 c2 : Nat) : NoInt ((((w.setCell ⟨r, 0, none⟩ (.bool b)).setCell ⟨r, 1, none⟩ (.slice A n c)).setCell ⟨r, 2, none⟩ (.bool b2)).setCell ⟨r, 3, none⟩ (.slice A2 n2 c2)) s :=
  (h.put2 r 0 1 b A n c).put2 r 2 3 b2 A2 n2 c2
theorem IV.put4 {w : World} {v : Value} {x : Int} (h : IV w v x) {r : Nat} (hr : NoInt w r) (b : Bool) (A : Option Addr) (n c : Nat) (b2 : Bool) (A2 : Option Addr) (n2 c2 : Nat) : IV ((((w.setCell ⟨r, 0, none⟩ (.bool b)).setCell ⟨r, 1, none⟩ (.slice A n c)).setCell ⟨r, 2, none⟩ (.bool b2)).setCell ⟨r, 3, none⟩ (.slice A2 n2 c2)) v x :=
  (h.put2 hr 0 1 b A n c).put2 (hr.put2 r 0 1 b A n c) 2 3 b2 A2 n2 c2
theorem IV.drew {w : World} {v : Value} {x : Int} (h : IV w v x) : IV w.drew v x := h.below (drew_below w)

/-! ### Whole -/
set_option maxHeartbeats 4000000 in
set_option maxRecDepth 100000 in
theorem IWhole_calls {w : World} {v : Value} {z : Int} (h : IV w v z) :
    Calls Tryz.prog 12 #[v] w (RIRes w (fr z 1)) := by
  obtain ⟨ng, A, n, c, rfl⟩ := h.shape
  obtain ⟨hbW, ba, br⟩ := boxR_facts w 32 34 (.bool ng) (.slice A n c) (.bool false) (.slice none 0 0) (.bool false) (.slice none 0 0)
  have ni := boxR_noint w 32 34 ng A n c false none 0 0 false none 0 0
  replace h := h.below hbW
  go_enter Tryz.func12, Tryz.ntmps12
  go_upto_region 1 with fail
  change Code.wp _ _ _ _ (boxR w 32 34 (.bool ng) (.slice A n c) (.bool false) (.slice none 0 0) (.bool false) (.slice none 0 0))
  generalize boxR w 32 34 (.bool ng) (.slice A n c) (.bool false) (.slice none 0 0) (.bool false) (.slice none 0 0) = W at *
  have d1 : ¬ w.heap.size = w.heap.size + 1 := by omega
  generalize w.heap.size + 1 = r at *
  generalize hp : w.heap.size = p at ba d1 ⊢
  clear hp
  have l0 := ba.c0
  have l1 := ba.c1
  have hbR : Below W.heap.size W W.drew := drew_below W
  have lp := ba.lt
  have hrl := br.lt
  have NI := Shut.mk ni
  clear ni
  go_region_held3 (fun w' => w'.cell? ⟨p, 0, none⟩ = some (.bool ng) ∧ w'.cell? ⟨p, 1, none⟩ = some (.slice A n c)) (first | (with_reducible exact ⟨old_cell hbR l0, old_cell hbR l1⟩) | (with_reducible exact ⟨cell_far4 d1 (old_cell hbR l0), cell_far4 d1 (old_cell hbR l1)⟩) | go_keep)
    (first
      | (go_at_call 47; (with_reducible refine (IOf1_calls).mono ?_); rintro e wx ⟨v5, rfl, hv5, hbx⟩; replace hbR := bthen hbR hbx; have bb := br.below hbR; have r0 := bb.c0; have r1 := bb.c1; have r2 := bb.c2; have r3 := bb.c3; have g0 := bb.f0; have g1 := bb.f1; have g2 := bb.f2; have g3 := bb.f3; have HV := Shut.mk hv5; obtain ⟨n5, A5, l5, c5, rfl⟩ := hv5.shape; clear hbx bb))
  all_goals
    go_wp2_with fail
    refine bodyPost_ret (v := .agg #[.bool ng, .slice A n c, .bool n5, .slice A5 l5 c5]) (by simp [results, Tryz.results12, go_sem, r0, r1, r2, r3]) rfl ?_
    have ni2 := NI.out.below hrl hbR
    refine ⟨_, rfl, ⟨_, _, _, _, _, _, _, _, rfl, ?_, ?_⟩, below_four (bthen hbW hbR) br.ge _ _ _ _⟩
    · rw [(fr_one z).1]; exact (h.below hbR).put4 ni2 _ _ _ _ _ _ _ _
    · rw [(fr_one z).2]; exact HV.out.put4 ni2 _ _ _ _ _ _ _ _

end Go.Proofs.YtjeaakkbkjhldaaGreatDoor

set_option linter.unusedVariables false
set_option linter.unusedSimpArgs false
namespace Go.Proofs.YtjeaakkbkjhldaaGreatDoor
open Go.RowKit

theorem IV.len {w : World} {b : Bool} {A : Option Addr} {n c : Nat} {z : Int} (h : IV w (.agg #[.bool b, .slice A n c]) z) : b = decide (z < 0) ∧ NV w (.slice A n c) (z.natAbs : Int) := by
  obtain ⟨s, e, hs⟩ := h
  simp only [Value.agg.injEq, Array.mk.injEq, List.cons.injEq, Value.bool.injEq, and_true] at e
  exact ⟨e.1, by rw [e.2]; exact hs⟩

set_option maxHeartbeats 8000000 in
set_option maxRecDepth 100000 in
theorem Ratio_calls {w : World} {v v' : Value} {n d : Int} {k : Nat} (h : IV w v n) (h' : IV w v' d) (sn : Sm k n) (sd : Sm k d) (hk : k ≤ 137438953472) (hd : d ≠ 0) :
    Calls Tryz.prog 32 #[v, v'] w (RIRes w (fr n d)) := by
  obtain ⟨ng, A, l, c, rfl⟩ := h.shape
  obtain ⟨ng2, A2, l2, c2, rfl⟩ := h'.shape
  obtain ⟨hbW, ba, bb, br⟩ := boxM_facts w 32 32 34 (.bool ng) (.slice A l c) (.bool ng2) (.slice A2 l2 c2) (.bool false) (.slice none 0 0) (.bool false) (.slice none 0 0)
  obtain ⟨nip, niq, nir⟩ := boxM_noint w 32 32 34 ng A l c ng2 A2 l2 c2 false none 0 0 false none 0 0
  replace h := h.below hbW
  replace h' := h'.below hbW
  go_enter Tryz.func32, Tryz.ntmps32
  go_upto_region 1 with fail
  change Code.wp _ _ _ _ (boxM w 32 32 34 (.bool ng) (.slice A l c) (.bool ng2) (.slice A2 l2 c2) (.bool false) (.slice none 0 0) (.bool false) (.slice none 0 0))
  generalize boxM w 32 32 34 (.bool ng) (.slice A l c) (.bool ng2) (.slice A2 l2 c2) (.bool false) (.slice none 0 0) (.bool false) (.slice none 0 0) = W at *
  have d1 : ¬ w.heap.size = w.heap.size + 1 := by omega
  have d2 : ¬ w.heap.size + 1 = w.heap.size := by omega
  have d3 : ¬ w.heap.size + 1 + 1 = w.heap.size := by omega
  have d4 : ¬ w.heap.size + 1 + 1 = w.heap.size + 1 := by omega
  generalize w.heap.size + 1 + 1 = r at *
  generalize w.heap.size + 1 = q at *
  generalize hp : w.heap.size = p at ba nip d1 d2 d3 ⊢
  clear hp
  obtain ⟨n', d', HE, sn', sd', pd⟩ : ∃ n' d' : Int, Shut ((d < 0 → n' = -n ∧ d' = -d) ∧ (¬ d < 0 → n' = n ∧ d' = d) ∧ fr n d = fr n' d') ∧ Sm k n' ∧ Sm k d' ∧ 0 < d' := by
    by_cases h : d < 0
    · exact ⟨-n, -d, ⟨fun _ => ⟨rfl, rfl⟩, fun hn => absurd h hn, (fr_neg n d hd).symm⟩, sn.neg, sd.neg, by omega⟩
    · exact ⟨n, d, ⟨fun hn => absurd hn h, fun _ => ⟨rfl, rfl⟩, rfl⟩, sn, sd, by omega⟩
  have hng2 := h'.len.1
  have HNI := Shut.mk (And.intro nip (And.intro niq nir))
  clear nip niq nir
  have m0 := bb.c0
  go_upto_if 11 with fail
  go_cut [] (fun wc => ∃ (ng : Bool) (A : Option Addr) (l c : Nat) (ng2 : Bool) (A2 : Option Addr) (l2 c2 : Nat), Shut (Below w.heap.size w wc ∧ NoInt wc r) ∧ IV wc (.agg #[.bool ng, .slice A l c]) n' ∧ IV wc (.agg #[.bool ng2, .slice A2 l2 c2]) d' ∧ Box w wc p (.bool ng) (.slice A l c) ∧ Box w wc q (.bool ng2) (.slice A2 l2 c2) ∧ Box4 w wc r (.bool false) (.slice none 0 0) (.bool false) (.slice none 0 0))
  case first =>
    have HB := Shut.mk hbW
    by_cases hneg : d < 0
    · obtain rfl : ng2 = true := by rw [hng2]; simp [hneg]
      obtain ⟨rfl, rfl⟩ := HE.out.1 hneg
      have l0 := ba.c0
      have l1 := ba.c1
      have hnegc := fun (W : World) (h : IV W (.agg #[.bool ng, .slice A l c]) n) => INeg_calls h sn hk
      have hnegd := fun (W : World) (h : IV W (.agg #[.bool true, .slice A2 l2 c2]) d) => INeg_calls h sd hk
      clear sn sd sn' sd' pd hd hng2 hbW
      go_wp2_with fail
      refine (hnegc _ h).mono ?_
      rintro e w2 ⟨v2, rfl, hv2, hb2⟩
      obtain ⟨n2, B2, k2, e2, rfl⟩ := hv2.shape
      have lp := ba.lt
      have lq := bb.lt
      have lr := br.lt
      have HB2 := Shut.mk (bthen HB.out hb2)
      have HNI2 := Shut.mk (And.intro (HNI.out.1.below lp hb2) (And.intro (HNI.out.2.1.below lq hb2) (HNI.out.2.2.below lr hb2)))
      (replace h' := h'.below hb2; replace ba := ba.below hb2; replace bb := bb.below hb2; replace br := br.below hb2)
      clear hb2 l0 l1 m0 h HB HNI lp lq lr hnegc
      have l0 := ba.c0
      have l1 := ba.c1
      have f0 := ba.f0
      have f1 := ba.f1
      have m0 := bb.c0
      have m1 := bb.c1
      go_upto_region 3 with fail
      change Code.wp _ _ _ _ ((w2.setCell ⟨p, 0, none⟩ (.bool n2)).setCell ⟨p, 1, none⟩ (.slice B2 k2 e2))
      replace hv2 := hv2.put2 HNI2.out.1 0 1 n2 B2 k2 e2
      replace h' := h'.put2 HNI2.out.1 0 1 n2 B2 k2 e2
      have HNI3 := Shut.mk (And.intro (HNI2.out.1.put2 p 0 1 n2 B2 k2 e2) (And.intro (HNI2.out.2.1.put2 p 0 1 n2 B2 k2 e2) (HNI2.out.2.2.put2 p 0 1 n2 B2 k2 e2)))
      have HB3 := Shut.mk (below_two HB2.out ba.ge (.bool n2) (.slice B2 k2 e2) (i := 0) (j := 1))
      replace ba := ba.put (.bool n2) (.slice B2 k2 e2)
      replace bb := bb.two (i := 0) (j := 1) d2 (.bool n2) (.slice B2 k2 e2)
      replace br := br.two (i := 0) (j := 1) d3 (.bool n2) (.slice B2 k2 e2)
      clear HNI2 HB2 l0 l1 f0 f1 m0 m1
      generalize (w2.setCell ⟨p, 0, none⟩ (.bool n2)).setCell ⟨p, 1, none⟩ (.slice B2 k2 e2) = w3 at *
      have m0 := bb.c0
      have m1 := bb.c1
      go_wp2_with fail
      refine (hnegd _ h').mono ?_
      rintro e w4 ⟨v4, rfl, hv4, hb4⟩
      obtain ⟨n4, B4, k4, e4, rfl⟩ := hv4.shape
      have lp := ba.lt
      have lq := bb.lt
      have lr := br.lt
      have HB4 := Shut.mk (bthen HB3.out hb4)
      have HNI4 := Shut.mk (And.intro (HNI3.out.2.1.below lq hb4) (HNI3.out.2.2.below lr hb4))
      (replace hv2 := hv2.below hb4; replace ba := ba.below hb4; replace bb := bb.below hb4; replace br := br.below hb4)
      clear hb4 m0 m1 h' HB3 HNI3 lp lq lr hnegd
      have m0 := bb.c0
      have m1 := bb.c1
      have f0 := bb.f0
      have f1 := bb.f1
      go_wp2
      go_meet
      case rel => exact ⟨_, _, _, _, _, _, _, _, ⟨below_two HB4.out bb.ge _ _, HNI4.out.2.put2 _ _ _ _ _ _ _⟩, hv2.put2 HNI4.out.1 _ _ _ _ _ _, hv4.put2 HNI4.out.1 _ _ _ _ _ _, ba.two d1 _ _, bb.put _ _, br.two d4 _ _⟩
    · obtain rfl : ng2 = false := by rw [hng2]; simp; omega
      obtain ⟨rfl, rfl⟩ := HE.out.2.1 hneg
      clear sn sd sn' sd' pd hd hng2 hbW
      go_wp2
      go_meet
      case rel => exact ⟨_, _, _, _, _, _, _, _, ⟨HB.out, HNI.out.2.2⟩, h, h', ba, bb, br⟩
  case rest =>
    clear h h' ba bb br hbW hng2 HNI sn sd m0
    obtain ⟨ng, A, l, c, ng2, A2, l2, c2, HB, h, h', ba, bb, br⟩ := hcut
    obtain ⟨hn1, hn2, hn3⟩ := h.len.2.pos
    have l0 := ba.c0
    have l1 := ba.c1
    by_cases h0 : n' = 0
    · obtain rfl : l = 0 := hn1.2 (by omega)
      have HZ : Shut (fr n d = 0) := ⟨by rw [HE.out.2.2, h0, fr_zero]⟩
      clear hn1
      go_wp2_with fail
      refine IOf1_calls.mono ?_
      rintro e w2 ⟨v2, rfl, hv2, hb2⟩
      obtain ⟨n2, B2, k2, e2, rfl⟩ := hv2.shape
      have lr := br.lt
      have HB2 := Shut.mk (bthen' HB.out.1 HB.out.1.size hb2)
      have HNI2 := Shut.mk (HB.out.2.below lr hb2)
      (replace br := br.below hb2)
      clear hb2 l0 l1 h h' ba bb HB lr
      have r0 := br.c0
      have r1 := br.c1
      have r2 := br.c2
      have r3 := br.c3
      have g0 := br.f0
      have g1 := br.f1
      have g2 := br.f2
      have g3 := br.f3
      have HG := Shut.mk br.ge
      have HV := Shut.mk hv2
      clear br hv2
      go_wp2
      refine bodyPost_ret (v := .agg #[.bool false, .slice none 0 0, .bool n2, .slice B2 k2 e2]) (by simp [results, Tryz.results32, go_sem, r0, r1, r2, r3]) rfl ?_
      rw [HZ.out]
      exact ⟨_, rfl, ⟨_, _, _, _, _, _, _, _, rfl, IV.zero _, HV.out.put4 HNI2.out _ _ _ _ _ _ _ _⟩, below_four HB2.out HG.out _ _ _ _⟩
    · have hfp := fr_pos pd h0
      have hl0 : l ≠ 0 := by intro e; have := hn1.1 e; omega
      have hG : Int.gcd (n'.natAbs : Int) (d'.natAbs : Int) = Int.gcd n' d' := by unfold Int.gcd; simp
      have hgcd := fun (W : World) (a : NV W (.slice A l c) (n'.natAbs : Int)) (b : NV W (.slice A2 l2 c2) (d'.natAbs : Int)) => gcd16_calls a b sn'.abs sd'.abs hk
      rw [hG] at hgcd
      have gd : (Int.gcd n' d' : Int) ≤ d' := by
        have := Int.le_of_dvd pd (Int.gcd_dvd_right n' d'); exact this
      have g0 : 0 < Int.gcd n' d' := by
        rcases Nat.eq_zero_or_pos (Int.gcd n' d') with e | e
        · have := (Int.gcd_eq_zero_iff.1 e).2; omega
        · exact e
      have sg' : Sm k (Int.gcd n' d' : Int) := sd'.le (by omega)
      have HQ : Shut (fr n d = fr n' d') := ⟨HE.out.2.2⟩
      obtain ⟨q1, q2⟩ := hfp
      obtain ⟨G, hGe⟩ : ∃ G : Int, (Int.gcd n' d' : Int) = G := ⟨_, rfl⟩
      rw [hGe] at hgcd q1 q2 gd sg'
      have G0 : G ≠ 0 := by omega
      have HGs : Shut (decide (G < 0) = false ∧ ((G.natAbs : Int) = G)) := ⟨by simp; omega, by omega⟩
      have HQ1 := Shut.mk q1
      have HQ2 := Shut.mk q2
      have hquo1 := fun (W : World) (x : Value) (y : Value) (a : IV W x n') (b : IV W y G) => IQuo_calls a b sn' sg' hk G0
      have hquo2 := fun (W : World) (x : Value) (y : Value) (a : IV W x d') (b : IV W y G) => IQuo_calls a b sd' sg' hk G0
      have hnv := h.len.2
      have hdv := h'.len.2
      have m1 := bb.c1
      clear hG g0 gd q1 q2 hGe sn' sd' sg' HE hd h0 hn1
      go_wp2_with fail
      refine (hgcd _ hnv hdv).mono ?_
      rintro e w3 ⟨v3, rfl, hv3, hb3⟩
      obtain ⟨A3, l3, c3, rfl⟩ := hv3.slice
      have lr := br.lt
      replace HB := Shut.mk (And.intro (bthen' HB.out.1 HB.out.1.size hb3) (HB.out.2.below lr hb3))
      (replace h := h.below hb3; replace h' := h'.below hb3; replace ba := ba.below hb3; replace bb := bb.below hb3; replace br := br.below hb3)
      clear hb3 l0 l1 m1 hnv hdv hgcd lr
      have hgv : IV w3 (.agg #[.bool false, .slice A3 l3 c3]) G := iv_mk (by rw [HGs.out.2]; exact hv3) HGs.out.1.symm
      obtain ⟨hb4, k0, k1⟩ := box1c w3 32 (.bool false) (.slice A3 l3 c3)
      go_upto_region 7 with fail
      change Code.wp _ _ _ _ (box1 w3 32 (.bool false) (.slice A3 l3 c3))
      have lr := br.lt
      replace HB := Shut.mk (And.intro (bthen' HB.out.1 HB.out.1.size hb4) (HB.out.2.below lr hb4))
      (replace h := h.below hb4; replace h' := h'.below hb4; replace hgv := hgv.below hb4; replace ba := ba.below hb4; replace bb := bb.below hb4; replace br := br.below hb4)
      generalize box1 w3 32 (.bool false) (.slice A3 l3 c3) = w4 at *
      generalize w3.heap.size = g4 at *
      clear hb4 hv3 lr
      have l0 := ba.c0
      have l1 := ba.c1
      go_wp2_with fail
      refine (hquo1 _ _ _ h hgv).mono ?_
      rintro e w5 ⟨vx, vr, rfl, hvx, hvr, hb5⟩
      obtain ⟨nx, Ax, lx, cx, rfl⟩ := hvx.shape
      obtain ⟨nr, Ar, lr2, cr, rfl⟩ := hvr.shape
      have lr := br.lt
      replace HB := Shut.mk (And.intro (bthen' HB.out.1 HB.out.1.size hb5) (HB.out.2.below lr hb5))
      (replace h' := h'.below hb5; replace hgv := hgv.below hb5; replace bb := bb.below hb5; replace br := br.below hb5; replace k0 := old_cell hb5 k0; replace k1 := old_cell hb5 k1)
      clear hb5 l0 l1 h hquo1 ba lr hvr
      obtain ⟨hb6, bx, _⟩ := box2_facts w5 32 32 (.bool nx) (.slice Ax lx cx) (.bool nr) (.slice Ar lr2 cr)
      go_upto_region 8 with fail
      change Code.wp _ _ _ _ (box2 w5 32 32 (.bool nx) (.slice Ax lx cx) (.bool nr) (.slice Ar lr2 cr))
      have lr := br.lt
      replace HB := Shut.mk (And.intro (bthen' HB.out.1 HB.out.1.size hb6) (HB.out.2.below lr hb6))
      (replace h' := h'.below hb6; replace hgv := hgv.below hb6; replace hvx := hvx.below hb6; replace bb := bb.below hb6; replace br := br.below hb6; replace k0 := old_cell hb6 k0; replace k1 := old_cell hb6 k1)
      generalize box2 w5 32 32 (.bool nx) (.slice Ax lx cx) (.bool nr) (.slice Ar lr2 cr) = w6 at *
      have x0 := bx.c0
      have x1 := bx.c1
      generalize w5.heap.size = g6 at *
      clear hb6 lr bx
      have m0 := bb.c0
      have m1 := bb.c1
      go_wp2_with fail
      refine (hquo2 _ _ _ h' hgv).mono ?_
      rintro e w7 ⟨vy, vr, rfl, hvy, hvr, hb7⟩
      obtain ⟨ny, Ay, ly, cy, rfl⟩ := hvy.shape
      obtain ⟨nr', Ar', lr3, cr', rfl⟩ := hvr.shape
      have lr := br.lt
      replace HB := Shut.mk (And.intro (bthen' HB.out.1 HB.out.1.size hb7) (HB.out.2.below lr hb7))
      (replace hvx := hvx.below hb7; replace br := br.below hb7; replace x0 := old_cell hb7 x0; replace x1 := old_cell hb7 x1)
      clear hb7 m0 m1 k0 k1 h' hgv hquo2 bb lr hvr
      obtain ⟨hb8, by8, _⟩ := box2_facts w7 32 32 (.bool ny) (.slice Ay ly cy) (.bool nr') (.slice Ar' lr3 cr')
      go_upto_region 9 with fail
      change Code.wp _ _ _ _ (box2 w7 32 32 (.bool ny) (.slice Ay ly cy) (.bool nr') (.slice Ar' lr3 cr'))
      have lr := br.lt
      replace HB := Shut.mk (And.intro (bthen' HB.out.1 HB.out.1.size hb8) (HB.out.2.below lr hb8))
      (replace hvx := hvx.below hb8; replace hvy := hvy.below hb8; replace br := br.below hb8; replace x0 := old_cell hb8 x0; replace x1 := old_cell hb8 x1)
      generalize box2 w7 32 32 (.bool ny) (.slice Ay ly cy) (.bool nr') (.slice Ar' lr3 cr') = w8 at *
      have y0 := by8.c0
      have y1 := by8.c1
      generalize w7.heap.size = g8 at *
      have r0 := br.c0
      have r1 := br.c1
      have r2 := br.c2
      have r3 := br.c3
      have g0 := br.f0
      have g1 := br.f1
      have g2 := br.f2
      have g3 := br.f3
      have HG := Shut.mk br.ge
      have HVX := Shut.mk hvx
      have HVY := Shut.mk hvy
      clear hb8 lr by8 br hvx hvy
      go_wp2
      refine bodyPost_ret (v := .agg #[.bool nx, .slice Ax lx cx, .bool ny, .slice Ay ly cy]) (by simp [results, Tryz.results32, go_sem, r0, r1, r2, r3]) rfl ?_
      refine ⟨_, rfl, ⟨_, _, _, _, _, _, _, _, rfl, ?_, ?_⟩, below_four HB.out.1 HG.out _ _ _ _⟩
      · rw [HQ.out, ← HQ1.out]; exact HVX.out.put4 HB.out.2 _ _ _ _ _ _ _ _
      · rw [HQ.out, ← HQ2.out]; exact HVY.out.put4 HB.out.2 _ _ _ _ _ _ _ _

end Go.Proofs.YtjeaakkbkjhldaaGreatDoor
