import Derived.Test.YtjeaakkbkjhldaaGreatDoorK6
import Derived.Test.YtjeaakkbkjhldaaGreatDoorK1
set_option linter.unusedVariables false
set_option linter.unusedSimpArgs false
namespace Go.Proofs.YtjeaakkbkjhldaaGreatDoor
open Go.RowKit

theorem info_u8 : (Tryz.prog.info? 5).map (fun i => (i.zero, i.size, i.bytes)) = some (some (.int .u8 0), 1, 1) := by kernel_rfl

set_option maxHeartbeats 4000000 in
set_option maxRecDepth 100000 in
theorem reverse_calls {w : World} {g n c : Nat} {xs : List Int} (h : OwnS w .u8 5 g n c xs) :
    Calls Tryz.prog 93 #[.slice (some ⟨g, 0, none⟩) n c] w fun e w' => e = .returned (.tuple #[]) ∧ OwnS w' .u8 5 g n c xs.reverse ∧ Only w w' g := by
  have hbig := h.big
  have hcap := h.cap
  have HL := Shut.mk h.len
  have w1 : IntKind.i64.wrap ((n : Int) - 1) = (n : Int) - 1 := by rw [IntKind.wrap_i64]; omega
  go_enter Tryz.func93, Tryz.ntmps93
  go_wp2_with fail
  clear w1
  go_loopw [2, 3] (fun i j wr => ∃ (k : Nat) (os : List Int), i = .int .i64 k ∧ j = .int .i64 ((n : Int) - 1 - k) ∧ (k = 0 ∨ 2 * k ≤ n) ∧ Shut (RevInv xs os k) ∧ OwnS wr .u8 5 g n c os ∧ Only w wr g) (fun i _ _ => n - (intOf i).toNat)
  case atStart => exact ⟨0, xs, rfl, by simp, .inl rfl, ⟨RevInv.start xs⟩, h, Only.refl _ _⟩
  case round =>
    clear h
    obtain ⟨k, os, rfl, rfl, hk, HI, own, ho⟩ := hrel
    by_cases hlt : 2 * k + 1 < n
    · obtain ⟨j, hj⟩ : ∃ j : Nat, j = n - 1 - k := ⟨_, rfl⟩
      have ej : (n : Int) - 1 - k = (j : Int) := by omega
      have hkj : k < j := by omega
      have HS := Shut.mk (HI.out.step hkj (by rw [HL.out]; omega))
      have hle : k + j + 1 = n := by omega
      rw [ej]
      clear hj ej HI
      have c1 := own.cell k (by omega)
      have c2 := own.cell j (by omega)
      have f1 := own.frozen k
      have f2 := own.frozen j
      go_wp2_with fail
      go_region
      go_wp2
      go_roundw
      case rel => exact ⟨k + 1, _, by go_num, by go_num, by omega, HS, ((own.set k _).set j _).drew, ((ho.set k _).set j _).drew⟩
      case measure => simp [intOf]; omega
    · have HD := Shut.mk (HI.out.done (by rw [HL.out]; omega))
      have hnot : ¬ ((k : Int) < (n : Int) - 1 - k) := by omega
      go_wp2
      go_end0
      exact ⟨rfl, by rw [← HD.out]; exact own, ho⟩

end Go.Proofs.YtjeaakkbkjhldaaGreatDoor

set_option linter.unusedVariables false
set_option linter.unusedSimpArgs false
namespace Go.Proofs.YtjeaakkbkjhldaaGreatDoor
open Go.RowKit

theorem OwnS.belowB {w w1 : World} {k : IntKind} {e g n c : Nat} {ys : List Int} {B : Nat} (h : OwnS w k e g n c ys) (hb : Below B w w1) (hg : g < B) : OwnS w1 k e g n c ys := by
  obtain ⟨cur, hc, r⟩ := h.blk
  exact ⟨h.len, h.cap, h.big, cur, (hb.block g hg).trans hc, r⟩
theorem Box.belowB {w W W1 : World} {p : Nat} {a0 a1 : Value} {B : Nat} (h : Box w W p a0 a1) (hb : Below B W W1) (hp : p < B) (hB : B ≤ W.heap.size) : Box w W1 p a0 a1 :=
  ⟨h.ge, Nat.lt_of_lt_of_le h.lt hb.size, (hb.cell (p := ⟨p, 0, none⟩) hp).trans h.c0, (hb.cell (p := ⟨p, 1, none⟩) hp).trans h.c1, (hb.frozen (p := ⟨p, 0, none⟩) hp).trans h.f0, (hb.frozen (p := ⟨p, 1, none⟩) hp).trans h.f1⟩
theorem row_other {w w1 : World} {B0 e : Nat} {k : IntKind} {v : Value} {n : Nat} {ys : List Int} (h : w.ownsRow B0 e 1 v n (ys.map (.int k))) {g : Nat} (ho : Only w w1 g) (hg : g < B0) : w1.ownsRow B0 e 1 v n (ys.map (.int k)) := by
  rcases h.2 with ⟨rfl, rfl⟩ | ⟨g', cap', cur, rfl, hg', hc, r⟩
  · have : ys = [] := by simpa using h.1
    subst this
    exact World.ownsRow_nil _ _ _ _
  · exact ⟨h.1, .inr ⟨g', cap', cur, rfl, hg', (ho.block g' (by omega)).trans hc, r⟩⟩
theorem row_shape {w : World} {B0 e : Nat} {k : IntKind} {v : Value} {n : Nat} {ys : List Int} (h : w.ownsRow B0 e 1 v n (ys.map (.int k))) : (v = .slice none 0 0 ∧ n = 0 ∧ ys = []) ∨ ∃ g c, v = .slice (some ⟨g, 0, none⟩) n c ∧ B0 ≤ g ∧ OwnS w k e g n c ys := by
  rcases h.2 with ⟨rfl, rfl⟩ | ⟨g', cap', cur, rfl, hg', hc, r⟩
  · exact .inl ⟨rfl, rfl, by simpa using h.1⟩
  · exact .inr ⟨g', cap', rfl, hg', OwnS.of_row h rfl⟩
theorem nrm_own {w : World} {k : IntKind} {e g n c : Nat} {xs : List Int} {B : Int} (h : OwnS w k e g n c xs) (d : Dgs B xs) :
    ∃ m xs', OwnS w k e g m c xs' ∧ Dgs B xs' ∧ m ≤ n ∧ val B xs' = val B xs ∧ Nrm xs' ∧ nlen xs n = m := by
  refine ⟨nlen xs n, xs.take (nlen xs n), h.take (nlen_le _ _), d.take _, nlen_le _ _, ?_, Nrm.nlen (by rw [h.len]; exact Nat.le_refl _), rfl⟩
  rw [val_nlen, List.take_of_length_le (by rw [h.len]; exact Nat.le_refl _)]
theorem Sm.pow10 {k : Nat} {z : Int} (h : Sm k z) : z.natAbs < 10 ^ k := by
  have h1 : (2 : Nat) ^ k ≤ 10 ^ k := Nat.pow_le_pow_left (by omega) k
  have h2 : z.natAbs < 2 ^ k := by
    unfold Sm at h
    have e : ((2 ^ k : Nat) : Int) = 2 ^ k := by simp
    omega
  omega

set_option maxHeartbeats 4000000 in
set_option maxRecDepth 100000 in
theorem Text_calls {w : World} {v : Value} {z : Int} {k : Nat} (hx : BV w v z) (sx : Sm k z) (hk : k ≤ 137438953472) :
    Calls Tryz.prog 46 #[v] w fun e w' => e = .returned (.string (strOfNums (decB z))) ∧ Below w.heap.size w w' := by
  obtain ⟨neg, A1, n1, c1, xs0, rfl, hr, dx, hl, hz⟩ := hx
  obtain ⟨hbW, ba⟩ := box1_facts w 24 (.bool neg) (.slice A1 n1 c1)
  have hr1 := hr.below hbW
  obtain ⟨m1, xs', hx', dx', hm1, hv1, hn1, hnl1⟩ := nrm_of hr1 dx
  have HN1 := Shut.mk hnl1
  have hv : val 4294967296 xs' = (z.natAbs : Int) := by rw [hv1, hz, natAbs_sg neg (val_nonneg (by omega) dx)]
  have Hneg : Shut (0 < val 4294967296 xs' → neg = decide (z < 0)) := ⟨fun h => by rw [hv1] at h; rw [hz]; unfold sg; cases neg <;> simp <;> omega⟩
  have HK := Shut.mk sx.pow10
  clear hnl1 hv1 hz sx
  go_enter Tryz.func46, Tryz.ntmps46
  go_wp2_with fail
  change Calls _ _ _ (box1 w 24 (.bool neg) (.slice A1 n1 c1)) _
  generalize box1 w 24 (.bool neg) (.slice A1 n1 c1) = W at *
  have HP := Shut.mk ba.ge
  generalize hp : w.heap.size = p at ba ⊢
  have hpl := ba.lt
  refine (norm_calls hr1).mono ?_
  rintro e w1 ⟨rfl, rfl⟩
  rw [HN1.out]
  go_wp2_with fail
  refine (clone_calls hx' (by omega)).mono ?_
  rintro e w2 ⟨v2, n2, os, rfl, hrow, rfl, hn2, hb2⟩
  replace ba := ba.below hb2
  replace hbW := bthen hbW hb2
  rcases row_shape hrow with ⟨rfl, rfl, rfl⟩ | ⟨g, c, rfl, hg, own⟩
  · have h0 : z = 0 := by simp [val] at hv; omega
    have HD : Shut (decB z = [48]) := ⟨by unfold decB; rw [if_pos h0]⟩
    go_wp2_with fail
    go_ret
    exact ⟨by rw [HD.out]; rfl, hbW⟩
  · by_cases h0 : n2 = 0
    · subst h0
      have hos : os = [] := List.eq_nil_of_length_eq_zero own.len
      subst hos
      have h0 : z = 0 := by simp [val] at hv; omega
      have HD : Shut (decB z = [48]) := ⟨by unfold decB; rw [if_pos h0]⟩
      go_wp2_with fail
      go_ret
      exact ⟨by rw [HD.out]; rfl, hbW⟩
    · have hpos := hn1.val_pos (B := 4294967296) (by omega) dx' (by intro e; subst e; exact h0 own.len.symm)
      have hz0 : z ≠ 0 := by omega
      have HNeg := Shut.mk (Hneg.out hpos)
      have HD : Shut (decB z = (if z < 0 then [45] else []) ++ ((dec z.natAbs).map (· + 48)).reverse) := ⟨by unfold decB; rw [if_neg hz0]⟩
      have hDI := Shut.mk (DecInv.start z.natAbs)
      have HV := Shut.mk hv
      have HNr := Shut.mk hn1
      have HDg := Shut.mk dx'
      have hgw : w.heap.size ≤ g := by have := hbW.size; have := HP.out; omega
      have hpg : p < g := by omega
      clear Hneg hpos hn1 hv hr hr1 hx' hrow dx dx'
      have hb2n : ((n2 : Int) == 0) = false := by simp; omega
      have hb3n : ((n2 : Nat) == 0) = false := by simp; omega
      go_wp2_with fail
      go_loopg [3, 4] (z.natAbs) (fun V mv bv wr => ∃ (n c : Nat) (xs : List Int) (l : Nat) (bs : List Int), mv = .slice (some ⟨g, 0, none⟩) n c ∧ Shut (DecInv z.natAbs V bs ∧ val 4294967296 xs = (V : Int) ∧ Nrm xs ∧ Dgs 4294967296 xs ∧ n ≤ 4294967296) ∧ OwnS wr .u32 73 g n c xs ∧ wr.ownsRow (g + 1) 5 1 bv l (bs.map (.int .u8)) ∧ Shut (Below w.heap.size w wr) ∧ Box w wr p (.bool neg) (.slice A1 n1 c1))
      case atStart => exact ⟨n2, c, os, 0, [], rfl, ⟨hDI.out, HV.out, HNr.out, HDg.out, by omega⟩, own, World.ownsRow_nil _ _ _ _, ⟨hbW⟩, ba⟩
      case round =>
        clear own ba hbW hb2 HV HNr HDg hDI
        obtain ⟨n, c, xs, l, bs, rfl, HI, own, hrow, hbW, ba⟩ := hrel
        by_cases hn0 : n = 0
        · subst hn0
          obtain rfl : xs = [] := List.eq_nil_of_length_eq_zero own.len
          have hV0 : gk = 0 := by have := HI.out.2.1; simp [val] at this; omega
          have hbs := HI.out.1
          rw [hV0] at hbs
          have HBS := Shut.mk hbs.done
          have hlen := (hbs.len HK.out).1
          have hll : l = bs.length := by have := hrow.1; simpa using this.symm
          have hbne : 0 < l := by
            have e := congrArg List.length HBS.out
            rw [List.length_map, dec_pos (show 0 < z.natAbs by omega)] at e
            simp only [List.length_cons] at e; omega
          have hl1 : l + 1 ≤ 4398046511104 := by omega
          rcases row_shape hrow with ⟨_, h, _⟩ | ⟨gb, cb, rfl, hgb, ownb⟩
          · omega
          have hgb' : w.heap.size ≤ gb := by omega
          clear hbs hV0 HI hll hlen own
          have l0 := ba.c0
          by_cases hneg : z < 0
          · have hn : neg = true := by rw [HNeg.out]; simp [hneg]
            subst hn
            have hgs : g + 1 ≤ wr.heap.size := Nat.le_trans hgb (Nat.le_of_lt ownb.lt)
            have HR : Shut ((bs ++ [45]).reverse = decB z) := ⟨by rw [HD.out, HBS.out, if_pos hneg]; simp⟩
            go_wp2_with (at_builtin; refine wpl_append rfl (.tmp 45) (.tmp 46) 98 rfl (g + 1) 5 .u8 1 Tryz.underlying98 info_u8 _ l bs rfl (hrow.alloc _) ⟨wr.heap.size, 0, none⟩ 1 1 [_] rfl (rd_one _ _ _ _) (by omega) (by omega) (by omega) wr ((Below.refl _ _).alloc hgs _) (Nat.le_trans hgs (by simp)) ?_; intro g2 cap2 w2 hg2 own2 hb2 hgr2)
            replace hbW := Shut.mk (hbW.out.trans (hb2.mono (by omega)))
            refine (reverse_calls own2).mono ?_
            rintro e w3 ⟨rfl, own3, ho3⟩
            have HB := Shut.mk (ho3.below hbW.out (by omega))
            rw [HR.out] at own3
            have hconv := run_convert_bytes_arg (P := Tryz.prog) w3 98 5 Tryz.underlying98 Tryz.underlying5 g2 0 (l + 1) cap2 (decB z) own3.len (fun i hi => by rw [Nat.zero_add]; exact own3.cell i hi) 9 Tryz.underlying9
            clear own3 own2 ho3 hgr2 hb2 ownb hrow ba
            go_wp2
            go_ret
            exact ⟨rfl, HB.out⟩
          · have hn : neg = false := by rw [HNeg.out]; simp [hneg]
            subst hn
            have HR : Shut (bs.reverse = decB z) := ⟨by rw [HD.out, HBS.out, if_neg hneg]; simp⟩
            go_wp2_with fail
            refine (reverse_calls ownb).mono ?_
            rintro e w3 ⟨rfl, own3, ho3⟩
            have HB := Shut.mk (ho3.below hbW.out (by omega))
            rw [HR.out] at own3
            have hconv := run_convert_bytes_arg (P := Tryz.prog) w3 98 5 Tryz.underlying98 Tryz.underlying5 gb 0 l cb (decB z) own3.len (fun i hi => by rw [Nat.zero_add]; exact own3.cell i hi) 9 Tryz.underlying9
            clear own3 ho3 ownb hrow ba
            go_wp2
            go_ret
            exact ⟨rfl, HB.out⟩
        · have hdg := HI.out.2.2.2.1
          have hbn : ((n : Int) > 0) := by omega
          go_wp2_with fail
          refine (shrink_calls own hdg (by omega) (by omega)).mono ?_
          rintro e w3 ⟨ys, rfl, own3, dys, hvy, ho3⟩
          replace hrow := row_other hrow ho3 (by omega)
          replace ba := ba.only ho3 (by omega)
          replace hbW := Shut.mk (ho3.below hbW.out hgw)
          obtain ⟨m, ys', own4, dy', hm, hv2, hn2', hnl2⟩ := nrm_own own3 dys
          have HN2 := Shut.mk hnl2
          go_wp2_with fail
          refine (norm_calls own3.rd).mono ?_
          rintro e w4 ⟨rfl, rfl⟩
          rw [HN2.out]
          obtain ⟨V, hV⟩ : ∃ V : Nat, V = gk := ⟨_, rfl⟩
          obtain ⟨M, hM⟩ : ∃ M : Nat, (M : Int) = val 4294967296 ys' := ⟨(val 4294967296 ys').toNat, by have := val_nonneg (by omega) dy'; omega⟩
          have hVx := HI.out.2.1
          have hV0 := HI.out.2.2.1.val_pos (B := 4294967296) (by omega) hdg (by intro e; subst e; exact hn0 own.len.symm)
          obtain ⟨rest, hrest⟩ : ∃ rest : Int, rest = val 4294967296 xs % 1000000000 := ⟨_, rfl⟩
          have HT : Shut (TInv z.natAbs M rest 0 bs) := ⟨TInv.start HI.out.1 (by rw [hrest, hVx]) (by rw [hM, hv2, hvy, hVx])⟩
          have HM : Shut (M < gk) := ⟨by rw [hv2, hvy, hVx] at hM; omega⟩
          have HS : Shut (val 4294967296 ys' = (M : Int) ∧ Nrm ys' ∧ Dgs 4294967296 ys' ∧ m ≤ 4294967296) := ⟨hM.symm, hn2', dy', by have := HI.out.2.2.2.2; omega⟩
          have hmM : (0 < m) ↔ (0 < M) := by
            constructor
            · intro h; have := hn2'.val_pos (B := 4294967296) (by omega) dy' (by intro e; subst e; have := own4.len; simp at this; omega); omega
            · intro h
              rcases Nat.eq_zero_or_pos m with e | e
              · have := own4.len
                rw [e] at this
                rw [List.eq_nil_of_length_eq_zero this] at hM
                simp [val] at hM; omega
              · exact e
          rw [← hrest]
          clear hrest hV0 hVx hM hV hv2 hvy hn2' dy' dys HI hdg own own3 hnl2 HN2 ho3
          go_wp2_with fail
          go_loopw [4, 5, 6] (fun bv rv kv wr => ∃ (j : Nat) (rest : Int) (l : Nat) (bs : List Int), rv = .int .u32 rest ∧ kv = .int .i64 j ∧ j ≤ 9 ∧ Shut (TInv z.natAbs M rest j bs) ∧ OwnS wr .u32 73 g m c ys' ∧ wr.ownsRow (g + 1) 5 1 bv l (bs.map (.int .u8)) ∧ Shut (Below w.heap.size w wr) ∧ Box w wr p (.bool neg) (.slice A1 n1 c1)) (fun _ _ kv _ => 9 - (intOf kv).toNat)
          case atStart => exact ⟨0, rest, l, bs, rfl, rfl, by omega, HT, own4, hrow, hbW, ba⟩
          case round =>
            clear own4 hrow hbW ba HT
            obtain ⟨j, rest, l, bs, rfl, rfl, hj, HT, own, hrow, hbW, ba⟩ := hrel
            have r0 := HT.out.r0
            have r1 := HT.out.lt
            have hgs : g + 1 ≤ wr.heap.size := own.lt
            have hll : l = bs.length := by have := hrow.1; simpa using this.symm
            have hlk := (HT.out.len HK.out).2
            by_cases hc : j < 9 ∧ (0 < m ∨ 0 < rest)
            · have HS2 := Shut.mk (HT.out.step hc.1 (by rcases hc.2 with h | h; exact .inl (hmM.1 h); exact .inr h))
              have hl1 : l + 1 ≤ 4398046511104 := by have := hlk (by rcases hc.2 with h | h; exact .inl (hmM.1 h); exact .inr h); omega
              clear hlk hmM hll
              have hj9 : (j : Int) < 9 := by omega
              have HC : (decide ((m : Int) > 0) || decide (rest > 0)) = true := by rcases hc.2 with h | h <;> simp [h]
              by_cases hm0 : 0 < m
              · have hm1 : ((m : Int) > 0) := by omega
                go_wp2_with (at_builtin; refine wpl_append rfl (.tmp 34) (.tmp 39) 98 rfl (g + 1) 5 .u8 1 Tryz.underlying98 info_u8 _ l bs rfl (hrow.alloc _) ⟨wr.heap.size, 0, none⟩ 1 1 [_] rfl (rd_one _ _ _ _) (by omega) (by omega) (by omega) wr ((Below.refl _ _).alloc hgs _) (Nat.le_trans hgs (by simp)) ?_; intro g2 cap2 w2 hg2 own2 hb2 hgr2)
                go_roundw
                case rel => exact ⟨j + 1, _, _, _, rfl, by go_num, by omega, HS2, own.belowB hb2 (Nat.lt_succ_self g), own2.row hg2, ⟨hbW.out.trans (hb2.mono (by omega))⟩, ba.belowB hb2 (by omega) hgs⟩
                case measure => simp [intOf]; omega
              · have hm1 : ¬ ((m : Int) > 0) := by omega
                have hr1 : rest > 0 := by rcases hc.2 with h | h; exact absurd h hm0; exact h
                go_wp2_with (at_builtin; refine wpl_append rfl (.tmp 34) (.tmp 39) 98 rfl (g + 1) 5 .u8 1 Tryz.underlying98 info_u8 _ l bs rfl (hrow.alloc _) ⟨wr.heap.size, 0, none⟩ 1 1 [_] rfl (rd_one _ _ _ _) (by omega) (by omega) (by omega) wr ((Below.refl _ _).alloc hgs _) (Nat.le_trans hgs (by simp)) ?_; intro g2 cap2 w2 hg2 own2 hb2 hgr2)
                go_roundw
                case rel => exact ⟨j + 1, _, _, _, rfl, by go_num, by omega, HS2, own.belowB hb2 (Nat.lt_succ_self g), own2.row hg2, ⟨hbW.out.trans (hb2.mono (by omega))⟩, ba.belowB hb2 (by omega) hgs⟩
                case measure => simp [intOf]; omega
            · have HS2 := Shut.mk (HT.out.out (by
                rcases Nat.lt_or_ge j 9 with h | h
                · refine .inr ⟨?_, ?_⟩
                  · rcases Nat.eq_zero_or_pos M with e | e
                    · exact e
                    · exact absurd ⟨h, .inl (hmM.2 e)⟩ hc
                  · by_cases e : 0 < rest
                    · exact absurd ⟨h, .inr e⟩ hc
                    · omega
                · exact .inl (by omega)))
              have hc1 : 9 ≤ j ∨ (m = 0 ∧ rest = 0) := by
                rcases Nat.lt_or_ge j 9 with h | h
                · refine .inr ⟨?_, ?_⟩
                  · rcases Nat.eq_zero_or_pos m with e | e
                    · exact e
                    · exact absurd ⟨h, .inl e⟩ hc
                  · by_cases e : 0 < rest
                    · exact absurd ⟨h, .inr e⟩ hc
                    · omega
                · exact .inl h
              clear hlk hmM hc
              by_cases h9 : 9 ≤ j
              · have h9' : ¬ ((j : Int) < 9) := by omega
                go_wp2
                go_roundg M
                case measure => exact HM.out
                case rel => exact ⟨m, c, ys', l, bs, rfl, ⟨HS2.out, HS.out⟩, own, hrow, hbW, ba⟩
              · obtain ⟨rfl, rfl⟩ : m = 0 ∧ rest = 0 := by rcases hc1 with h | h; exact absurd h h9; exact h
                have h9' : (j : Int) < 9 := by omega
                clear hc1
                go_wp2
                go_roundg M
                case measure => exact HM.out
                case rel => exact ⟨0, c, ys', l, bs, rfl, ⟨HS2.out, HS.out⟩, own, hrow, hbW, ba⟩

end Go.Proofs.YtjeaakkbkjhldaaGreatDoor

set_option linter.unusedVariables false
set_option linter.unusedSimpArgs false
namespace Go.Proofs.YtjeaakkbkjhldaaGreatDoor
open Go.RowKit

set_option maxHeartbeats 4000000 in
theorem digit_calls {w : World} {c : Int} (h0 : 0 ≤ c) (h1 : c ≤ 255) :
    Calls Tryz.prog 120 #[.int .u8 c] w fun e w' => e = .returned (.int .i64 (digV c)) ∧ w = w' := by
  by_cases a1 : 48 ≤ c ∧ c ≤ 57
  · have HD : Shut (digV c = c - 48) := ⟨by unfold digV; rw [if_pos a1]⟩
    obtain ⟨b1, b2⟩ := a1
    go_enter Tryz.func120, Tryz.ntmps120
    go_wp2
    go_ret
    exact ⟨congrArg (fun x => Ending.returned (Value.int .i64 x)) HD.out.symm, rfl⟩
  · by_cases a2 : 97 ≤ c ∧ c ≤ 102
    · have HD : Shut (digV c = c - 97 + 10) := ⟨by unfold digV; rw [if_neg a1, if_pos a2]⟩
      obtain ⟨b1, b2⟩ := a2
      have b3 : ¬ c ≤ 57 := by omega
      have b4 : 48 ≤ c := by omega
      clear a1
      go_enter Tryz.func120, Tryz.ntmps120
      go_wp2
      go_ret
      exact ⟨congrArg (fun x => Ending.returned (Value.int .i64 x)) HD.out.symm, rfl⟩
    · by_cases a3 : 65 ≤ c ∧ c ≤ 70
      · have HD : Shut (digV c = c - 65 + 10) := ⟨by unfold digV; rw [if_neg a1, if_neg a2, if_pos a3]⟩
        obtain ⟨b1, b2⟩ := a3
        have b3 : ¬ c ≤ 57 := by omega
        have b4 : 48 ≤ c := by omega
        have b5 : ¬ 97 ≤ c := by omega
        clear a1 a2
        go_enter Tryz.func120, Tryz.ntmps120
        go_wp2
        go_ret
        exact ⟨congrArg (fun x => Ending.returned (Value.int .i64 x)) HD.out.symm, rfl⟩
      · have HD : Shut (digV c = 99) := ⟨by unfold digV; rw [if_neg a1, if_neg a2, if_neg a3]⟩
        by_cases e1 : 48 ≤ c <;> by_cases e2 : c ≤ 57 <;> by_cases e3 : 97 ≤ c <;> by_cases e4 : c ≤ 102 <;> by_cases e5 : 65 ≤ c <;> by_cases e6 : c ≤ 70 <;> first
          | omega
          | (clear a1 a2 a3
             go_enter Tryz.func120, Tryz.ntmps120
             go_wp2
             go_ret
             exact ⟨congrArg (fun x => Ending.returned (Value.int .i64 x)) HD.out.symm, rfl⟩)

end Go.Proofs.YtjeaakkbkjhldaaGreatDoor

set_option linter.unusedVariables false
set_option linter.unusedSimpArgs false
namespace Go.Proofs.YtjeaakkbkjhldaaGreatDoor
open Go.RowKit

def ParseRes (w : World) (o : Option Int) (en : Ending) (w' : World) : Prop := ∃ v, en = .returned (.tuple #[v, .bool o.isSome]) ∧ NBV w.heap.size w' v (o.getD 0) ∧ Below w.heap.size w w'
theorem notEmpty {s : ByteArray} (h : 0 < s.size) : s.toList.isEmpty = false := by
  rw [ByteArray.toList_eq]
  cases e : s.data.toList with
  | nil =>
    have : s.size = 0 := by
      exact congrArg List.length e
    omega
  | cons a l => rfl

theorem bys_get {s : ByteArray} {i : Nat} (h : i < s.size) : dg (bys s) i = ((s[i]'h).toNat : Int) := by
  have h1 : i < (bys s).length := by rw [bys_len]; exact h
  have h2 := dg_getElem h1
  have h3 : (bys s)[i]? = some ((s[i]'h).toNat : Int) := by
    unfold bys
    rw [List.getElem?_map, List.getElem?_eq_getElem (show i < s.data.toList.length from h)]
    rfl
  rw [h2] at h3
  exact Option.some.inj h3

set_option maxHeartbeats 4000000 in
set_option maxRecDepth 100000 in
theorem Parse_ten {w : World} {s : ByteArray} {b : Int} (hb : b = 10) (hs : s.size ≤ 1000000) (h0 : 0 < s.size) :
    Calls Tryz.prog 68 #[.string s, .int .i64 b] w (ParseRes w (pval b (bys s) 0)) := by
  obtain ⟨hbW, ba⟩ := box1_facts w 24 (.bool false) (.slice none 0 0)
  have hse := notEmpty h0
  subst hb
  have HL := Shut.mk (bys_len s)
  go_enter Tryz.func68, Tryz.ntmps68
  go_upto_region 1 with fail
  change Code.wp _ _ _ _ (box1 w 24 (.bool false) (.slice none 0 0))
  generalize box1 w 24 (.bool false) (.slice none 0 0) = W at *
  generalize hr : w.heap.size = r at ba ⊢
  have hrw : w.heap.size ≤ r := by omega
  have hWs : r + 1 ≤ W.heap.size := ba.lt
  clear hr
  go_wp2_with fail
  go_loopw [6, 30] (fun mv iv wr => ∃ (i : Nat) (n : Nat) (xs : List Int) (V : Int), iv = .int .i64 i ∧ i ≤ s.size ∧ Shut (PInv 10 (bys s) i V ∧ Dgs 4294967296 xs ∧ val 4294967296 xs = V) ∧ n ≤ i ∧ wr.ownsRow (r + 1) 73 1 mv n (xs.map (.int .u32)) ∧ Shut (Below w.heap.size w wr) ∧ Box w wr r (.bool false) (.slice none 0 0)) (fun _ iv _ => s.size - (intOf iv).toNat)
  case atStart => exact ⟨0, 0, [], 0, rfl, by omega, ⟨PInv.start _ _, Dgs.nil _, rfl⟩, by omega, World.ownsRow_nil _ _ _ _, ⟨hbW⟩, ba⟩
  case round =>
    clear hbW ba
    obtain ⟨i, n, xs, V, rfl, hi, HI, hn, hrow, hbW, ba⟩ := hrel
    by_cases hlt : i < s.size
    · obtain ⟨c, hc⟩ : ∃ c, c = ((s[i]'hlt).toNat : Int) := ⟨_, rfl⟩
      have hget : Shut (dg (bys s) i = c) := ⟨by rw [hc]; exact bys_get hlt⟩
      have c0 : 0 ≤ c := by omega
      have c1 : c ≤ 255 := by have := (s[i]'hlt).toNat_lt; omega
      have HC := Shut.mk hc
      clear hc
      go_wp2_with fail
      rw [← HC.out]
      refine (digit_calls c0 c1).mono ?_
      rintro e w1 ⟨rfl, rfl⟩
      have hdb := digV_bd c
      have hiL : i < (bys s).length := by rw [HL.out]; exact hlt
      by_cases hd : 10 ≤ digV c
      · have HN : Shut (pval 10 (bys s) 0 = none) := ⟨HI.out.1.none hiL (by rw [hget.out]; exact hd)⟩
        clear hget HC HI
        generalize digV c = d at *
        have r0 := ba.c0
        have r1 := ba.c1
        have g0 := ba.f0
        have g1 := ba.f1
        go_wp2
        refine bodyPost_ret (v := .tuple #[.agg #[.bool false, .slice none 0 0], .bool false]) (by simp [results, Tryz.results68, go_sem, r0, r1]) rfl ?_
        unfold ParseRes
        rw [HN.out]
        exact ⟨_, rfl, NBV.nil _ _, below_two hbW.out ba.ge _ _⟩
      · have HS := Shut.mk (HI.out.1.step (by omega) hiL (by rw [hget.out]; omega))
        rw [hget.out] at HS
        have HV := Shut.mk HI.out.2.2
        have hdg := HI.out.2.1
        have hgs : r + 1 ≤ wr.heap.size := ba.lt
        clear hget HC HI
        generalize digV c = d at *
        go_wp2_with fail
        refine (grow_calls hrow hdg (by omega) (by omega) (by omega) (by omega) (by omega) (Below.refl _ _) hgs).mono ?_
        rintro e w2 ⟨v2, n2, os, rfl, hrow2, ⟨hdg2, hval⟩, hn2, hb2⟩
        rw [HV.out] at hval
        have HI2 := Shut.mk (And.intro HS.out (And.intro hdg2 hval))
        clear hrow
        go_wp2
        go_roundw
        case rel => exact ⟨i + 1, n2, os, _, by go_num, by omega, HI2, by omega, hrow2, ⟨hbW.out.trans (hb2.mono (by omega))⟩, ba.belowB hb2 (by omega) hgs⟩
        case measure => simp [intOf]; omega
    · have HD : Shut (pval 10 (bys s) 0 = some V) := ⟨HI.out.1.done (by rw [HL.out]; omega)⟩
      have HV := Shut.mk HI.out.2.2
      have hdg := HI.out.2.1
      obtain ⟨A, n', c, xs', rfl, hrd, hxs, hn'⟩ : ∃ A n' c xs', u6 = .slice A n' c ∧ RdS wr .u32 A n' c xs' ∧ xs' = xs ∧ n' = n := by
        rcases row_shape hrow with ⟨rfl, rfl, rfl⟩ | ⟨g, c, rfl, hg, own⟩
        · exact ⟨_, _, _, _, rfl, RdS.nil _ _, rfl, rfl⟩
        · exact ⟨_, _, _, _, rfl, own.rd, rfl, rfl⟩
      subst hxs
      subst hn'
      clear HI hrow
      go_wp2_with fail
      refine (made_calls hrd hdg (by omega)).mono ?_
      rintro e w1 ⟨v, rfl, hv, hb⟩
      rw [show sg false (val 4294967296 xs') = V from HV.out] at hv
      have HL1 := Shut.mk ba.lt
      have HS1 := Shut.mk hbW.out.size
      replace hbW := Shut.mk (bthen' hbW.out hbW.out.size hb)
      replace ba := ba.below hb
      have r0 := ba.c0
      have r1 := ba.c1
      have g0 := ba.f0
      have g1 := ba.f1
      have HV1 := Shut.mk hv
      obtain ⟨ng, A1, m1, e1, rfl⟩ := hv.shape
      clear hv hb hrd
      go_wp2
      refine bodyPost_ret (v := .tuple #[.agg #[.bool ng, .slice A1 m1 e1], .bool true]) (by simp [results, Tryz.results68, go_sem, r0, r1]) rfl ?_
      unfold ParseRes
      rw [HD.out]
      exact ⟨_, rfl, (HV1.out.two HL1.out _ _).mono HS1.out, below_two hbW.out ba.ge _ _⟩

set_option maxHeartbeats 4000000 in
set_option maxRecDepth 100000 in
theorem Parse_two {w : World} {s : ByteArray} {b : Int} (hb : b = 2) (hs : s.size ≤ 1000000) (h0 : 0 < s.size) :
    Calls Tryz.prog 68 #[.string s, .int .i64 b] w (ParseRes w (pval b (bys s) 0)) := by
  obtain ⟨hbW, ba⟩ := box1_facts w 24 (.bool false) (.slice none 0 0)
  have hse := notEmpty h0
  subst hb
  have HL := Shut.mk (bys_len s)
  go_enter Tryz.func68, Tryz.ntmps68
  go_upto_region 1 with fail
  change Code.wp _ _ _ _ (box1 w 24 (.bool false) (.slice none 0 0))
  generalize box1 w 24 (.bool false) (.slice none 0 0) = W at *
  generalize hr : w.heap.size = r at ba ⊢
  have hrw : w.heap.size ≤ r := by omega
  have hWs : r + 1 ≤ W.heap.size := ba.lt
  clear hr
  go_wp2_with fail
  go_loopw [6, 30] (fun mv iv wr => ∃ (i : Nat) (n : Nat) (xs : List Int) (V : Int), iv = .int .i64 i ∧ i ≤ s.size ∧ Shut (PInv 2 (bys s) i V ∧ Dgs 4294967296 xs ∧ val 4294967296 xs = V) ∧ n ≤ i ∧ wr.ownsRow (r + 1) 73 1 mv n (xs.map (.int .u32)) ∧ Shut (Below w.heap.size w wr) ∧ Box w wr r (.bool false) (.slice none 0 0)) (fun _ iv _ => s.size - (intOf iv).toNat)
  case atStart => exact ⟨0, 0, [], 0, rfl, by omega, ⟨PInv.start _ _, Dgs.nil _, rfl⟩, by omega, World.ownsRow_nil _ _ _ _, ⟨hbW⟩, ba⟩
  case round =>
    clear hbW ba
    obtain ⟨i, n, xs, V, rfl, hi, HI, hn, hrow, hbW, ba⟩ := hrel
    by_cases hlt : i < s.size
    · obtain ⟨c, hc⟩ : ∃ c, c = ((s[i]'hlt).toNat : Int) := ⟨_, rfl⟩
      have hget : Shut (dg (bys s) i = c) := ⟨by rw [hc]; exact bys_get hlt⟩
      have c0 : 0 ≤ c := by omega
      have c1 : c ≤ 255 := by have := (s[i]'hlt).toNat_lt; omega
      have HC := Shut.mk hc
      clear hc
      go_wp2_with fail
      rw [← HC.out]
      refine (digit_calls c0 c1).mono ?_
      rintro e w1 ⟨rfl, rfl⟩
      have hdb := digV_bd c
      have hiL : i < (bys s).length := by rw [HL.out]; exact hlt
      by_cases hd : 2 ≤ digV c
      · have HN : Shut (pval 2 (bys s) 0 = none) := ⟨HI.out.1.none hiL (by rw [hget.out]; exact hd)⟩
        clear hget HC HI
        generalize digV c = d at *
        have r0 := ba.c0
        have r1 := ba.c1
        have g0 := ba.f0
        have g1 := ba.f1
        go_wp2
        refine bodyPost_ret (v := .tuple #[.agg #[.bool false, .slice none 0 0], .bool false]) (by simp [results, Tryz.results68, go_sem, r0, r1]) rfl ?_
        unfold ParseRes
        rw [HN.out]
        exact ⟨_, rfl, NBV.nil _ _, below_two hbW.out ba.ge _ _⟩
      · have HS := Shut.mk (HI.out.1.step (by omega) hiL (by rw [hget.out]; omega))
        rw [hget.out] at HS
        have HV := Shut.mk HI.out.2.2
        have hdg := HI.out.2.1
        have hgs : r + 1 ≤ wr.heap.size := ba.lt
        clear hget HC HI
        generalize digV c = d at *
        go_wp2_with fail
        refine (grow_calls hrow hdg (by omega) (by omega) (by omega) (by omega) (by omega) (Below.refl _ _) hgs).mono ?_
        rintro e w2 ⟨v2, n2, os, rfl, hrow2, ⟨hdg2, hval⟩, hn2, hb2⟩
        rw [HV.out] at hval
        have HI2 := Shut.mk (And.intro HS.out (And.intro hdg2 hval))
        clear hrow
        go_wp2
        go_roundw
        case rel => exact ⟨i + 1, n2, os, _, by go_num, by omega, HI2, by omega, hrow2, ⟨hbW.out.trans (hb2.mono (by omega))⟩, ba.belowB hb2 (by omega) hgs⟩
        case measure => simp [intOf]; omega
    · have HD : Shut (pval 2 (bys s) 0 = some V) := ⟨HI.out.1.done (by rw [HL.out]; omega)⟩
      have HV := Shut.mk HI.out.2.2
      have hdg := HI.out.2.1
      obtain ⟨A, n', c, xs', rfl, hrd, hxs, hn'⟩ : ∃ A n' c xs', u6 = .slice A n' c ∧ RdS wr .u32 A n' c xs' ∧ xs' = xs ∧ n' = n := by
        rcases row_shape hrow with ⟨rfl, rfl, rfl⟩ | ⟨g, c, rfl, hg, own⟩
        · exact ⟨_, _, _, _, rfl, RdS.nil _ _, rfl, rfl⟩
        · exact ⟨_, _, _, _, rfl, own.rd, rfl, rfl⟩
      subst hxs
      subst hn'
      clear HI hrow
      go_wp2_with fail
      refine (made_calls hrd hdg (by omega)).mono ?_
      rintro e w1 ⟨v, rfl, hv, hb⟩
      rw [show sg false (val 4294967296 xs') = V from HV.out] at hv
      have HL1 := Shut.mk ba.lt
      have HS1 := Shut.mk hbW.out.size
      replace hbW := Shut.mk (bthen' hbW.out hbW.out.size hb)
      replace ba := ba.below hb
      have r0 := ba.c0
      have r1 := ba.c1
      have g0 := ba.f0
      have g1 := ba.f1
      have HV1 := Shut.mk hv
      obtain ⟨ng, A1, m1, e1, rfl⟩ := hv.shape
      clear hv hb hrd
      go_wp2
      refine bodyPost_ret (v := .tuple #[.agg #[.bool ng, .slice A1 m1 e1], .bool true]) (by simp [results, Tryz.results68, go_sem, r0, r1]) rfl ?_
      unfold ParseRes
      rw [HD.out]
      exact ⟨_, rfl, (HV1.out.two HL1.out _ _).mono HS1.out, below_two hbW.out ba.ge _ _⟩

set_option maxHeartbeats 4000000 in
set_option maxRecDepth 100000 in
theorem Parse_eight {w : World} {s : ByteArray} {b : Int} (hb : b = 8) (hs : s.size ≤ 1000000) (h0 : 0 < s.size) :
    Calls Tryz.prog 68 #[.string s, .int .i64 b] w (ParseRes w (pval b (bys s) 0)) := by
  obtain ⟨hbW, ba⟩ := box1_facts w 24 (.bool false) (.slice none 0 0)
  have hse := notEmpty h0
  subst hb
  have HL := Shut.mk (bys_len s)
  go_enter Tryz.func68, Tryz.ntmps68
  go_upto_region 1 with fail
  change Code.wp _ _ _ _ (box1 w 24 (.bool false) (.slice none 0 0))
  generalize box1 w 24 (.bool false) (.slice none 0 0) = W at *
  generalize hr : w.heap.size = r at ba ⊢
  have hrw : w.heap.size ≤ r := by omega
  have hWs : r + 1 ≤ W.heap.size := ba.lt
  clear hr
  go_wp2_with fail
  go_loopw [6, 30] (fun mv iv wr => ∃ (i : Nat) (n : Nat) (xs : List Int) (V : Int), iv = .int .i64 i ∧ i ≤ s.size ∧ Shut (PInv 8 (bys s) i V ∧ Dgs 4294967296 xs ∧ val 4294967296 xs = V) ∧ n ≤ i ∧ wr.ownsRow (r + 1) 73 1 mv n (xs.map (.int .u32)) ∧ Shut (Below w.heap.size w wr) ∧ Box w wr r (.bool false) (.slice none 0 0)) (fun _ iv _ => s.size - (intOf iv).toNat)
  case atStart => exact ⟨0, 0, [], 0, rfl, by omega, ⟨PInv.start _ _, Dgs.nil _, rfl⟩, by omega, World.ownsRow_nil _ _ _ _, ⟨hbW⟩, ba⟩
  case round =>
    clear hbW ba
    obtain ⟨i, n, xs, V, rfl, hi, HI, hn, hrow, hbW, ba⟩ := hrel
    by_cases hlt : i < s.size
    · obtain ⟨c, hc⟩ : ∃ c, c = ((s[i]'hlt).toNat : Int) := ⟨_, rfl⟩
      have hget : Shut (dg (bys s) i = c) := ⟨by rw [hc]; exact bys_get hlt⟩
      have c0 : 0 ≤ c := by omega
      have c1 : c ≤ 255 := by have := (s[i]'hlt).toNat_lt; omega
      have HC := Shut.mk hc
      clear hc
      go_wp2_with fail
      rw [← HC.out]
      refine (digit_calls c0 c1).mono ?_
      rintro e w1 ⟨rfl, rfl⟩
      have hdb := digV_bd c
      have hiL : i < (bys s).length := by rw [HL.out]; exact hlt
      by_cases hd : 8 ≤ digV c
      · have HN : Shut (pval 8 (bys s) 0 = none) := ⟨HI.out.1.none hiL (by rw [hget.out]; exact hd)⟩
        clear hget HC HI
        generalize digV c = d at *
        have r0 := ba.c0
        have r1 := ba.c1
        have g0 := ba.f0
        have g1 := ba.f1
        go_wp2
        refine bodyPost_ret (v := .tuple #[.agg #[.bool false, .slice none 0 0], .bool false]) (by simp [results, Tryz.results68, go_sem, r0, r1]) rfl ?_
        unfold ParseRes
        rw [HN.out]
        exact ⟨_, rfl, NBV.nil _ _, below_two hbW.out ba.ge _ _⟩
      · have HS := Shut.mk (HI.out.1.step (by omega) hiL (by rw [hget.out]; omega))
        rw [hget.out] at HS
        have HV := Shut.mk HI.out.2.2
        have hdg := HI.out.2.1
        have hgs : r + 1 ≤ wr.heap.size := ba.lt
        clear hget HC HI
        generalize digV c = d at *
        go_wp2_with fail
        refine (grow_calls hrow hdg (by omega) (by omega) (by omega) (by omega) (by omega) (Below.refl _ _) hgs).mono ?_
        rintro e w2 ⟨v2, n2, os, rfl, hrow2, ⟨hdg2, hval⟩, hn2, hb2⟩
        rw [HV.out] at hval
        have HI2 := Shut.mk (And.intro HS.out (And.intro hdg2 hval))
        clear hrow
        go_wp2
        go_roundw
        case rel => exact ⟨i + 1, n2, os, _, by go_num, by omega, HI2, by omega, hrow2, ⟨hbW.out.trans (hb2.mono (by omega))⟩, ba.belowB hb2 (by omega) hgs⟩
        case measure => simp [intOf]; omega
    · have HD : Shut (pval 8 (bys s) 0 = some V) := ⟨HI.out.1.done (by rw [HL.out]; omega)⟩
      have HV := Shut.mk HI.out.2.2
      have hdg := HI.out.2.1
      obtain ⟨A, n', c, xs', rfl, hrd, hxs, hn'⟩ : ∃ A n' c xs', u6 = .slice A n' c ∧ RdS wr .u32 A n' c xs' ∧ xs' = xs ∧ n' = n := by
        rcases row_shape hrow with ⟨rfl, rfl, rfl⟩ | ⟨g, c, rfl, hg, own⟩
        · exact ⟨_, _, _, _, rfl, RdS.nil _ _, rfl, rfl⟩
        · exact ⟨_, _, _, _, rfl, own.rd, rfl, rfl⟩
      subst hxs
      subst hn'
      clear HI hrow
      go_wp2_with fail
      refine (made_calls hrd hdg (by omega)).mono ?_
      rintro e w1 ⟨v, rfl, hv, hb⟩
      rw [show sg false (val 4294967296 xs') = V from HV.out] at hv
      have HL1 := Shut.mk ba.lt
      have HS1 := Shut.mk hbW.out.size
      replace hbW := Shut.mk (bthen' hbW.out hbW.out.size hb)
      replace ba := ba.below hb
      have r0 := ba.c0
      have r1 := ba.c1
      have g0 := ba.f0
      have g1 := ba.f1
      have HV1 := Shut.mk hv
      obtain ⟨ng, A1, m1, e1, rfl⟩ := hv.shape
      clear hv hb hrd
      go_wp2
      refine bodyPost_ret (v := .tuple #[.agg #[.bool ng, .slice A1 m1 e1], .bool true]) (by simp [results, Tryz.results68, go_sem, r0, r1]) rfl ?_
      unfold ParseRes
      rw [HD.out]
      exact ⟨_, rfl, (HV1.out.two HL1.out _ _).mono HS1.out, below_two hbW.out ba.ge _ _⟩

set_option maxHeartbeats 4000000 in
set_option maxRecDepth 100000 in
theorem Parse_sixteen {w : World} {s : ByteArray} {b : Int} (hb : b = 16) (hs : s.size ≤ 1000000) (h0 : 0 < s.size) :
    Calls Tryz.prog 68 #[.string s, .int .i64 b] w (ParseRes w (pval b (bys s) 0)) := by
  obtain ⟨hbW, ba⟩ := box1_facts w 24 (.bool false) (.slice none 0 0)
  have hse := notEmpty h0
  subst hb
  have HL := Shut.mk (bys_len s)
  go_enter Tryz.func68, Tryz.ntmps68
  go_upto_region 1 with fail
  change Code.wp _ _ _ _ (box1 w 24 (.bool false) (.slice none 0 0))
  generalize box1 w 24 (.bool false) (.slice none 0 0) = W at *
  generalize hr : w.heap.size = r at ba ⊢
  have hrw : w.heap.size ≤ r := by omega
  have hWs : r + 1 ≤ W.heap.size := ba.lt
  clear hr
  go_wp2_with fail
  go_loopw [6, 30] (fun mv iv wr => ∃ (i : Nat) (n : Nat) (xs : List Int) (V : Int), iv = .int .i64 i ∧ i ≤ s.size ∧ Shut (PInv 16 (bys s) i V ∧ Dgs 4294967296 xs ∧ val 4294967296 xs = V) ∧ n ≤ i ∧ wr.ownsRow (r + 1) 73 1 mv n (xs.map (.int .u32)) ∧ Shut (Below w.heap.size w wr) ∧ Box w wr r (.bool false) (.slice none 0 0)) (fun _ iv _ => s.size - (intOf iv).toNat)
  case atStart => exact ⟨0, 0, [], 0, rfl, by omega, ⟨PInv.start _ _, Dgs.nil _, rfl⟩, by omega, World.ownsRow_nil _ _ _ _, ⟨hbW⟩, ba⟩
  case round =>
    clear hbW ba
    obtain ⟨i, n, xs, V, rfl, hi, HI, hn, hrow, hbW, ba⟩ := hrel
    by_cases hlt : i < s.size
    · obtain ⟨c, hc⟩ : ∃ c, c = ((s[i]'hlt).toNat : Int) := ⟨_, rfl⟩
      have hget : Shut (dg (bys s) i = c) := ⟨by rw [hc]; exact bys_get hlt⟩
      have c0 : 0 ≤ c := by omega
      have c1 : c ≤ 255 := by have := (s[i]'hlt).toNat_lt; omega
      have HC := Shut.mk hc
      clear hc
      go_wp2_with fail
      rw [← HC.out]
      refine (digit_calls c0 c1).mono ?_
      rintro e w1 ⟨rfl, rfl⟩
      have hdb := digV_bd c
      have hiL : i < (bys s).length := by rw [HL.out]; exact hlt
      by_cases hd : 16 ≤ digV c
      · have HN : Shut (pval 16 (bys s) 0 = none) := ⟨HI.out.1.none hiL (by rw [hget.out]; exact hd)⟩
        clear hget HC HI
        generalize digV c = d at *
        have r0 := ba.c0
        have r1 := ba.c1
        have g0 := ba.f0
        have g1 := ba.f1
        go_wp2
        refine bodyPost_ret (v := .tuple #[.agg #[.bool false, .slice none 0 0], .bool false]) (by simp [results, Tryz.results68, go_sem, r0, r1]) rfl ?_
        unfold ParseRes
        rw [HN.out]
        exact ⟨_, rfl, NBV.nil _ _, below_two hbW.out ba.ge _ _⟩
      · have HS := Shut.mk (HI.out.1.step (by omega) hiL (by rw [hget.out]; omega))
        rw [hget.out] at HS
        have HV := Shut.mk HI.out.2.2
        have hdg := HI.out.2.1
        have hgs : r + 1 ≤ wr.heap.size := ba.lt
        clear hget HC HI
        generalize digV c = d at *
        go_wp2_with fail
        refine (grow_calls hrow hdg (by omega) (by omega) (by omega) (by omega) (by omega) (Below.refl _ _) hgs).mono ?_
        rintro e w2 ⟨v2, n2, os, rfl, hrow2, ⟨hdg2, hval⟩, hn2, hb2⟩
        rw [HV.out] at hval
        have HI2 := Shut.mk (And.intro HS.out (And.intro hdg2 hval))
        clear hrow
        go_wp2
        go_roundw
        case rel => exact ⟨i + 1, n2, os, _, by go_num, by omega, HI2, by omega, hrow2, ⟨hbW.out.trans (hb2.mono (by omega))⟩, ba.belowB hb2 (by omega) hgs⟩
        case measure => simp [intOf]; omega
    · have HD : Shut (pval 16 (bys s) 0 = some V) := ⟨HI.out.1.done (by rw [HL.out]; omega)⟩
      have HV := Shut.mk HI.out.2.2
      have hdg := HI.out.2.1
      obtain ⟨A, n', c, xs', rfl, hrd, hxs, hn'⟩ : ∃ A n' c xs', u6 = .slice A n' c ∧ RdS wr .u32 A n' c xs' ∧ xs' = xs ∧ n' = n := by
        rcases row_shape hrow with ⟨rfl, rfl, rfl⟩ | ⟨g, c, rfl, hg, own⟩
        · exact ⟨_, _, _, _, rfl, RdS.nil _ _, rfl, rfl⟩
        · exact ⟨_, _, _, _, rfl, own.rd, rfl, rfl⟩
      subst hxs
      subst hn'
      clear HI hrow
      go_wp2_with fail
      refine (made_calls hrd hdg (by omega)).mono ?_
      rintro e w1 ⟨v, rfl, hv, hb⟩
      rw [show sg false (val 4294967296 xs') = V from HV.out] at hv
      have HL1 := Shut.mk ba.lt
      have HS1 := Shut.mk hbW.out.size
      replace hbW := Shut.mk (bthen' hbW.out hbW.out.size hb)
      replace ba := ba.below hb
      have r0 := ba.c0
      have r1 := ba.c1
      have g0 := ba.f0
      have g1 := ba.f1
      have HV1 := Shut.mk hv
      obtain ⟨ng, A1, m1, e1, rfl⟩ := hv.shape
      clear hv hb hrd
      go_wp2
      refine bodyPost_ret (v := .tuple #[.agg #[.bool ng, .slice A1 m1 e1], .bool true]) (by simp [results, Tryz.results68, go_sem, r0, r1]) rfl ?_
      unfold ParseRes
      rw [HD.out]
      exact ⟨_, rfl, (HV1.out.two HL1.out _ _).mono HS1.out, below_two hbW.out ba.ge _ _⟩

set_option maxHeartbeats 4000000 in
theorem Parse_empty {w : World} {s : ByteArray} {b : Int} (h0 : s.size = 0) :
    Calls Tryz.prog 68 #[.string s, .int .i64 b] w (ParseRes w none) := by
  obtain ⟨hbW, ba⟩ := box1_facts w 24 (.bool false) (.slice none 0 0)
  have hse : s.toList.isEmpty = true := by
    rw [ByteArray.toList_eq]
    have : s.data.toList.length = 0 := h0
    rw [List.eq_nil_of_length_eq_zero this]; rfl
  clear h0
  go_enter Tryz.func68, Tryz.ntmps68
  go_upto_region 1 with fail
  change Code.wp _ _ _ _ (box1 w 24 (.bool false) (.slice none 0 0))
  generalize box1 w 24 (.bool false) (.slice none 0 0) = W at *
  generalize hr : w.heap.size = r at ba ⊢
  clear hr
  have r0 := ba.c0
  have r1 := ba.c1
  have g0 := ba.f0
  have g1 := ba.f1
  go_wp2
  refine bodyPost_ret (v := .tuple #[.agg #[.bool false, .slice none 0 0], .bool false]) (by simp [results, Tryz.results68, go_sem, r0, r1]) rfl ?_
  exact ⟨_, rfl, NBV.nil _ _, below_two hbW ba.ge _ _⟩
theorem Parse_calls {w : World} {s : ByteArray} {b : Int} (hb : b = 2 ∨ b = 8 ∨ b = 10 ∨ b = 16) (hs : s.size ≤ 1000000) :
    Calls Tryz.prog 68 #[.string s, .int .i64 b] w (ParseRes w (parseI (bys s) b)) := by
  unfold parseI
  rcases Nat.eq_zero_or_pos s.size with h0 | h0
  · rw [if_pos (.inl (List.eq_nil_of_length_eq_zero (by rw [bys_len]; exact h0)))]
    exact Parse_empty h0
  · rw [if_neg (by
      rintro (h | h)
      · have := bys_len s; rw [h] at this; simp at this; omega
      · exact h hb)]
    rcases hb with h | h | h | h
    · exact Parse_two h hs h0
    · exact Parse_eight h hs h0
    · exact Parse_ten h hs h0
    · exact Parse_sixteen h hs h0

end Go.Proofs.YtjeaakkbkjhldaaGreatDoor

set_option linter.unusedVariables false
set_option linter.unusedSimpArgs false
namespace Go.Proofs.YtjeaakkbkjhldaaGreatDoor
open Go.RowKit

/-- a box of four cells -/
def boxS (w : World) (T : Nat) (a0 a1 a2 a3 : Value) : World := w.alloc (.cells #[a0, a1, a2, a3] T)
theorem boxS_facts (w : World) (T : Nat) (a0 a1 a2 a3 : Value) : Below w.heap.size w (boxS w T a0 a1 a2 a3) ∧ Box4 w (boxS w T a0 a1 a2 a3) w.heap.size a0 a1 a2 a3 :=
  ⟨alloc_below _ _, Box4.new _ _ _ _ _ _ _ (Nat.le_refl _)⟩
theorem decB_len {k : Nat} {z : Int} (h : Sm k z) : (decB z).length ≤ k + 1 := by
  unfold decB
  split
  · simp
  · have := dec_len k _ h.pow10
    rw [List.length_append, List.length_reverse, List.length_map]
    split <;> simp <;> omega
/-- a fraction's text -/
def ratS (q : Rat) : ByteArray := strOfNums (decB q.num) ++ ⟨#[47]⟩ ++ strOfNums (decB (q.den : Int))

set_option maxHeartbeats 4000000 in
set_option maxRecDepth 100000 in
theorem RText_calls {w : World} {v : Value} {n d : Int} {k : Nat} (h : RV w v n d) (sx : Sm k n) (sy : Sm k d) (hk : k ≤ 137438953472) (hk1 : 1 ≤ k) :
    Calls Tryz.prog 27 #[v] w (fun e w' => e = .returned (.string (ratS (fr n d))) ∧ Below w.heap.size w w') := by
  have hlow : ∀ W, RV W v n d → Calls Tryz.prog 48 #[v] W (RatRes W (fr n d)) := fun W h => low_calls h sx sy hk hk1
  obtain ⟨neg, A1, n1, c1, neg2, A2, n2, c2, rfl⟩ := h.shape
  obtain ⟨hbW, ba⟩ := boxS_facts w 26 (.bool neg) (.slice A1 n1 c1) (.bool neg2) (.slice A2 n2 c2)
  replace h := h.below hbW
  have sq := SmR.fr sx sy hk1
  have sq1 := sq.1
  have sq2 := sq.2
  generalize fr n d = q at *
  go_enter Tryz.func27, Tryz.ntmps27
  go_wp2_with fail
  change Calls _ _ _ (boxS w 26 (.bool neg) (.slice A1 n1 c1) (.bool neg2) (.slice A2 n2 c2)) _
  generalize boxS w 26 (.bool neg) (.slice A1 n1 c1) (.bool neg2) (.slice A2 n2 c2) = W at *
  generalize hp : w.heap.size = p at ba ⊢
  clear hp
  refine (hlow W h).mono ?_
  rintro e w1 ⟨v, rfl, hv, hb⟩
  have HL := Shut.mk (And.intro ba.lt ba.lt)
  have HS := Shut.mk hbW.size
  replace hbW := bthen hbW hb
  (replace ba := ba.below hb)
  clear hb h
  have l0 := ba.c0
  have l1 := ba.c1
  have l2 := ba.c2
  have l3 := ba.c3
  have f0 := ba.f0
  have f1 := ba.f1
  have f2 := ba.f2
  have f3 := ba.f3
  have HV := Shut.mk hv
  obtain ⟨ng, B1, m1, e1, ng2, B2, m2, e2, rfl⟩ := hv.shape
  clear hv
  go_upto_region 2 with fail
  change Code.wp _ _ _ _ ((((w1.setCell ⟨p, 0, none⟩ (.bool ng)).setCell ⟨p, 1, none⟩ (.slice B1 m1 e1)).setCell ⟨p, 2, none⟩ (.bool ng2)).setCell ⟨p, 3, none⟩ (.slice B2 m2 e2))
  clear l0 l1 l2 l3 f0 f1 f2 f3
  replace hbW := below_four hbW ba.ge (.bool ng) (.slice B1 m1 e1) (.bool ng2) (.slice B2 m2 e2)
  replace HV := Shut.mk (HV.out.four HL.out.1 (.bool ng) (.slice B1 m1 e1) (.bool ng2) (.slice B2 m2 e2))
  replace ba := ba.put (.bool ng) (.slice B1 m1 e1) (.bool ng2) (.slice B2 m2 e2)
  generalize (((w1.setCell ⟨p, 0, none⟩ (.bool ng)).setCell ⟨p, 1, none⟩ (.slice B1 m1 e1)).setCell ⟨p, 2, none⟩ (.bool ng2)).setCell ⟨p, 3, none⟩ (.slice B2 m2 e2) = W2 at *
  replace ba := ba.drew
  replace hbW := hbW.drew
  have l0 := ba.c0
  have l1 := ba.c1
  have l2 := ba.c2
  have l3 := ba.c3
  obtain ⟨hvn, hvd⟩ := HV.out.parts
  replace hvn := hvn.below (drew_below _)
  replace hvd := hvd.below (drew_below _)
  have q1 := decB_len sq1
  have q2 := decB_len sq2
  have z1 := strOfNums_size (decB q.num)
  have z2 := strOfNums_size (decB (q.den : Int))
  have z3 : (strOfNums (decB q.num) ++ (⟨#[47]⟩ : ByteArray)).size = (strOfNums (decB q.num)).size + 1 := ByteArray.size_append
  have hadd1 := fun (wx : World) => run_string_add_sum (P := Tryz.prog) wx (strOfNums (decB q.num)) ⟨#[47]⟩ (by have : (⟨#[47]⟩ : ByteArray).size = 1 := rfl; omega)
  have hadd2 := fun (wx : World) => run_string_add_sum (P := Tryz.prog) wx (strOfNums (decB q.num) ++ (⟨#[47]⟩ : ByteArray)) (strOfNums (decB (q.den : Int))) (by omega)
  clear q1 q2 z1 z2 z3
  go_region_held3 (fun w' => w'.cell? ⟨p, 0, none⟩ = some (.bool ng) ∧ w'.cell? ⟨p, 1, none⟩ = some (.slice B1 m1 e1) ∧ w'.cell? ⟨p, 2, none⟩ = some (.bool ng2) ∧ w'.cell? ⟨p, 3, none⟩ = some (.slice B2 m2 e2)) (first | (with_reducible exact ⟨l0, l1, l2, l3⟩) | go_keep)
    (first
      | (go_at_call 46; (with_reducible refine (Text_calls (hvn.bv sq1 hk) sq1 hk).mono ?_); rintro e w2 ⟨rfl, hb2⟩; replace hbW := bthen hbW hb2; (replace hvn := hvn.below hb2; replace hvd := hvd.below hb2; replace ba := ba.below hb2; replace l0 := old_cell hb2 l0; replace l1 := old_cell hb2 l1; replace l2 := old_cell hb2 l2; replace l3 := old_cell hb2 l3); clear hb2)
      | (go_at_call 46; (with_reducible refine (Text_calls (hvd.bv sq2 hk) sq2 hk).mono ?_); rintro e w2 ⟨rfl, hb2⟩; replace hbW := bthen hbW hb2; (replace hvn := hvn.below hb2; replace hvd := hvd.below hb2; replace ba := ba.below hb2; replace l0 := old_cell hb2 l0; replace l1 := old_cell hb2 l1; replace l2 := old_cell hb2 l2; replace l3 := old_cell hb2 l3); clear hb2))
  all_goals
    clear l0 l1 l2 l3
    go_wp2_with fail
    go_ret
    exact ⟨rfl, hbW⟩

end Go.Proofs.YtjeaakkbkjhldaaGreatDoor

set_option linter.unusedVariables false
set_option linter.unusedSimpArgs false
namespace Go.Proofs.YtjeaakkbkjhldaaGreatDoor
open Go.RowKit

def fits64 (z : Int) : Prop := -9223372036854775808 ≤ z ∧ z ≤ 9223372036854775807
instance (z : Int) : Decidable (fits64 z) := by unfold fits64; infer_instance
def Int64Res (w : World) (z : Int) (en : Ending) (w' : World) : Prop := en = .returned (.tuple #[.int .i64 (if fits64 z then z else 0), .bool (decide (fits64 z))]) ∧ Below w.heap.size w w'
theorem or_zero64 {b : Int} (b0 : 0 ≤ b) (b1 : b < 4294967296) : bits .or .u64 0 b = b := by
  have := or_add32 (a := 0) (b := b) (by omega) (by omega) b0 b1
  simpa using this
theorem or_low64 {a b : Int} (a0 : 0 ≤ a) (a1 : a < 4294967296) (b0 : 0 ≤ b) (b1 : b < 4294967296) : bits .or .u64 a (b * 4294967296) = a + b * 4294967296 := by
  have h := or_add32 b0 b1 a0 a1
  obtain ⟨x, rfl⟩ : ∃ x : Nat, a = x := ⟨a.toNat, by omega⟩
  obtain ⟨y, hy⟩ : ∃ y : Nat, b * 4294967296 = y := ⟨(b * 4294967296).toNat, by omega⟩
  rw [hy] at h ⊢
  rw [bits_or_u64_nat y x (by omega) (by omega)] at h
  rw [bits_or_u64_nat x y (by omega) (by omega), Nat.or_comm, h]
  omega
/-- what the first i digits, of two at most, are worth -/
structure I64Inv (xs : List Int) (i : Nat) (u : Int) : Prop where
  eq : u = (if 0 < i then dg xs 0 else 0) + (if 1 < i then dg xs 1 * 4294967296 else 0)
theorem I64Inv.start (xs : List Int) : I64Inv xs 0 0 := ⟨rfl⟩
theorem I64Inv.done {xs : List Int} {i : Nat} {u : Int} (h : I64Inv xs i u) (hi : i = xs.length) (h2 : i ≤ 2) : u = val 4294967296 xs := by
  rw [h.eq]
  match xs, i, hi, h2 with
  | [], _, rfl, _ => rfl
  | [a], _, rfl, _ => simp [dg, val]
  | [a, b], _, rfl, _ => simp [dg, val, Int.mul_comm]
  | a :: b :: c :: l, _, rfl, h => simp at h
/-- the end: what is told of a number of the magnitude u -/
theorem int64_ends (neg : Bool) {u z : Int} (hz : z = sg neg u) (u0 : 0 ≤ u) (u1 : u < 18446744073709551616) :
    (neg = true → u ≤ 9223372036854775808 → fits64 z ∧ z = IntKind.i64.wrap (IntKind.u64.wrap (-u))) ∧ (neg = true → ¬ u ≤ 9223372036854775808 → ¬ fits64 z) ∧ (neg = false → u < 9223372036854775808 → fits64 z ∧ z = u) ∧ (neg = false → ¬ u < 9223372036854775808 → ¬ fits64 z) := by
  subst hz
  unfold sg fits64
  refine ⟨fun h h1 => ?_, fun h h1 => ?_, fun h h1 => ?_, fun h h1 => ?_⟩
  · subst h
    rw [IntKind.wrap_u64, IntKind.wrap_i64]
    simp only [if_true]
    omega
  · subst h; simp; omega
  · subst h; simp; omega
  · subst h; simp; omega

set_option maxHeartbeats 4000000 in
set_option maxRecDepth 100000 in
theorem Int64_few {w : World} {neg : Bool} {A1 : Option Addr} {n1 c1 : Nat} {xs0 : List Int} {z : Int} (hr : RdS w .u32 A1 n1 c1 xs0) (dx : Dgs 4294967296 xs0) (hz : z = sg neg (val 4294967296 xs0)) (h2 : nlen xs0 n1 ≤ 2) :
    Calls Tryz.prog 129 #[.agg #[.bool neg, .slice A1 n1 c1]] w (Int64Res w z) := by
  obtain ⟨hbW, ba⟩ := box1_facts w 24 (.bool neg) (.slice A1 n1 c1)
  have hr1 := hr.below hbW
  obtain ⟨m1, xs', hx', dx', hm1, hv1, hn1, hnl1⟩ := nrm_of hr1 dx
  have h3 : m1 ≤ 2 := by omega
  have HN1 := Shut.mk hnl1
  rw [← hv1] at hz
  have HZ := Shut.mk hz
  have HL := Shut.mk hx'.len
  clear hnl1 h2 hv1 hr dx hz
  go_enter Tryz.func129, Tryz.ntmps129
  go_wp2_with fail
  change Calls _ _ _ (box1 w 24 (.bool neg) (.slice A1 n1 c1)) _
  generalize box1 w 24 (.bool neg) (.slice A1 n1 c1) = W at *
  generalize hp : w.heap.size = p at ba ⊢
  clear hp
  refine (norm_calls hr1).mono ?_
  rintro e w1 ⟨rfl, rfl⟩
  rw [HN1.out]
  have hb3 : ¬ ((m1 : Int) > 2) := by omega
  go_wp2_with fail
  go_loopw [5, 16] (fun uv iv wr => ∃ (i : Nat) (u : Int), iv = .int .i64 i ∧ uv = .int .u64 u ∧ i ≤ m1 ∧ Shut (I64Inv xs' i u) ∧ wr = W) (fun _ iv _ => m1 - (intOf iv).toNat)
  case atStart => exact ⟨0, 0, rfl, rfl, by omega, ⟨I64Inv.start _⟩, rfl⟩
  case round =>
    obtain ⟨i, u, rfl, rfl, hi, HI, rfl⟩ := hrel
    by_cases hlt : i < m1
    · obtain ⟨ad, rfl, hc⟩ := hx'.cell i hlt
      have e0 := dg_lt (by omega) dx' i
      have HU := Shut.mk HI.out.eq
      obtain ⟨x, hxe⟩ : ∃ x, dg xs' i = x := ⟨_, rfl⟩
      rw [hxe] at hc e0
      have e1 := dg_lt (by omega) dx' 0
      have HX := Shut.mk hxe
      clear hxe hx' hr1 HI
      go_upto_region 8 with fail
      have h01 : i = 0 ∨ i = 1 := by omega
      rcases h01 with rfl | rfl
      · have hu : u = 0 := by have := HU.out; simpa using this
        subst hu
        have ho := or_zero64 e0.1 e0.2
        have HS : Shut (I64Inv xs' 1 x) := ⟨⟨by rw [← HX.out]; simp⟩⟩
        clear HX HU
        go_wp2
        go_roundw
        case rel => exact ⟨1, x, by go_num, rfl, by omega, HS, trivial⟩
        case measure => simp [intOf]; omega
      · have hu : u = dg xs' 0 := by have := HU.out; simpa using this
        rw [← hu] at e1
        have ho := or_low64 e1.1 e1.2 e0.1 e0.2
        have HS : Shut (I64Inv xs' 2 (u + x * 4294967296)) := ⟨⟨by rw [← HX.out, hu]; simp⟩⟩
        clear HX HU hu
        go_wp2
        go_roundw
        case rel => exact ⟨2, _, by go_num, rfl, by omega, HS, trivial⟩
        case measure => simp [intOf]; omega
    · have hu := HI.out.done (by rw [HL.out]; omega) (by omega)
      have u0 := val_nonneg (by omega) dx'
      have u1 : val 4294967296 xs' < 18446744073709551616 := by
        have := val_lt (by omega) dx'
        have h4 : (4294967296 : Int) ^ xs'.length ≤ 4294967296 ^ 2 := pow_le_pow' (by omega) (by rw [HL.out]; exact h3)
        have h5 : (4294967296 : Int) ^ 2 = 18446744073709551616 := by decide
        omega
      rw [← hu] at u0 u1
      have HZ2 := Shut.mk (int64_ends neg (z := z) (u := u) (by rw [hu]; exact HZ.out) u0 u1)
      have l0 := ba.c0
      clear hu HI HZ hx' hr1
      cases neg with
      | true =>
        by_cases h : u ≤ 9223372036854775808
        · have HE := Shut.mk (HZ2.out.1 rfl h)
          clear HZ2
          go_wp2
          refine bodyPost_ret (v := .tuple #[.int .i64 (wrap64 (IntKind.u64.wrap (-u))), .bool true]) (by simp [results, Tryz.results129, go_sem]) rfl ?_
          refine ⟨?_, hbW⟩
          rw [if_pos HE.out.1, decide_eq_true HE.out.1, HE.out.2, IntWalk.i64_left]
        · have HE := Shut.mk (HZ2.out.2.1 rfl h)
          clear HZ2
          go_wp2
          refine bodyPost_ret (v := .tuple #[.int .i64 0, .bool false]) (by simp [results, Tryz.results129, go_sem]) rfl ?_
          refine ⟨?_, hbW⟩
          rw [if_neg HE.out, decide_eq_false HE.out]
      | false =>
        by_cases h : u < 9223372036854775808
        · have HE := Shut.mk (HZ2.out.2.2.1 rfl h)
          clear HZ2
          go_wp2
          refine bodyPost_ret (v := .tuple #[.int .i64 u, .bool true]) (by simp [results, Tryz.results129, go_sem]) rfl ?_
          refine ⟨?_, hbW⟩
          rw [if_pos HE.out.1, decide_eq_true HE.out.1, HE.out.2]
        · have HE := Shut.mk (HZ2.out.2.2.2 rfl h)
          clear HZ2
          go_wp2
          refine bodyPost_ret (v := .tuple #[.int .i64 0, .bool false]) (by simp [results, Tryz.results129, go_sem]) rfl ?_
          refine ⟨?_, hbW⟩
          rw [if_neg HE.out, decide_eq_false HE.out]

set_option maxHeartbeats 4000000 in
theorem Int64_many {w : World} {neg : Bool} {A1 : Option Addr} {n1 c1 : Nat} {xs0 : List Int} {z : Int} (hr : RdS w .u32 A1 n1 c1 xs0) (dx : Dgs 4294967296 xs0) (hz : z = sg neg (val 4294967296 xs0)) (h2 : 3 ≤ nlen xs0 n1) :
    Calls Tryz.prog 129 #[.agg #[.bool neg, .slice A1 n1 c1]] w (Int64Res w z) := by
  obtain ⟨hbW, ba⟩ := box1_facts w 24 (.bool neg) (.slice A1 n1 c1)
  have hr1 := hr.below hbW
  obtain ⟨m1, xs', hx', dx', hm1, hv1, hn1, hnl1⟩ := nrm_of hr1 dx
  have h3 : 3 ≤ m1 := by omega
  have HN1 := Shut.mk hnl1
  rw [← hv1] at hz
  have HE : Shut (¬ fits64 z) := ⟨by
    have h4 := hn1.val_ge (B := 4294967296) (by omega) dx' (by intro e; have := hx'.len; rw [e] at this; simp at this; omega)
    have h5 : (4294967296 : Int) ^ 2 ≤ 4294967296 ^ (xs'.length - 1) := pow_le_pow' (by omega) (by rw [hx'.len]; omega)
    have h6 : (4294967296 : Int) ^ 2 = 18446744073709551616 := by decide
    subst hz
    unfold fits64 sg
    cases neg <;> simp <;> omega⟩
  clear hnl1 h2 hv1 hr dx hz
  go_enter Tryz.func129, Tryz.ntmps129
  go_wp2_with fail
  change Calls _ _ _ (box1 w 24 (.bool neg) (.slice A1 n1 c1)) _
  generalize box1 w 24 (.bool neg) (.slice A1 n1 c1) = W at *
  refine (norm_calls hr1).mono ?_
  rintro e w1 ⟨rfl, rfl⟩
  rw [HN1.out]
  have hb3 : ((m1 : Int) > 2) := by omega
  clear hr1 hx' dx' hn1 ba
  go_wp2
  refine bodyPost_ret (v := .tuple #[.int .i64 0, .bool false]) (by simp [results, Tryz.results129, go_sem]) rfl ?_
  refine ⟨?_, hbW⟩
  rw [if_neg HE.out, decide_eq_false HE.out]
theorem Int64_calls {w : World} {v : Value} {z : Int} (hx : BV w v z) : Calls Tryz.prog 129 #[v] w (Int64Res w z) := by
  obtain ⟨neg, A, n, c, xs, rfl, hr, dx, hl, hz⟩ := hx
  rcases Nat.lt_or_ge 2 (nlen xs n) with h | h
  · exact Int64_many hr dx hz h
  · exact Int64_few hr dx hz h

end Go.Proofs.YtjeaakkbkjhldaaGreatDoor

set_option linter.unusedVariables false
set_option linter.unusedSimpArgs false
namespace Go.Proofs.YtjeaakkbkjhldaaGreatDoor
open Go.RowKit

theorem Sm.pow {k : Nat} {b : Int} (h : Sm k b) (m : Nat) : Sm (k * m + 1) (b ^ m) := by
  induction m with
  | zero => exact Sm.of_le (by simp) (by omega)
  | succ m ih =>
    rw [Int.pow_succ]
    have := ih.mul h
    have e : k * m + 1 + k = k * (m + 1) + 1 := by rw [Nat.mul_succ]; omega
    rw [e] at this; exact this
theorem wraps_i64 (n : Int) (h0 : 0 ≤ n) (h1 : n < 2 ^ 63) : IntKind.i64.wrap n = n := by rw [IntKind.wrap_i64]; omega
theorem and_one {n : Int} (h0 : 0 ≤ n) (h1 : n ≤ 9223372036854775807) : bits .and .i64 n 1 = n % 2 := by
  have h := bits_mask .i64 63 (by decide) wraps_i64 1 (by omega) n h0 (by omega)
  have e : ((2 : Int) ^ 1 - 1) = 1 := by decide
  rw [e] at h
  rw [h]; omega
theorem NBV.apset {B : Nat} {w : World} {neg : Bool} {A : Option Addr} {n c : Nat} {z : Int} (h : NBV B w (.agg #[.bool neg, .slice A n c]) z) {lo hi : Nat} (ha : Ap lo hi A n) {p : Addr} (h1 : lo ≤ p.block) (h2 : p.block < hi) (u : Value) : NBV B (w.setCell p u) (.agg #[.bool neg, .slice A n c]) z := by
  obtain ⟨A', n', c', xs, e, h3, h4⟩ := h
  simp only [Value.agg.injEq, Array.mk.injEq, List.cons.injEq, Value.bool.injEq, Value.slice.injEq, and_true] at e
  obtain ⟨rfl, rfl, rfl, rfl⟩ := e
  refine ⟨A, n, c, xs, rfl, ⟨h3.len, h3.cap, h3.big, fun j hj => ?_⟩, h4⟩
  obtain ⟨ad, rfl, hc⟩ := h3.cell j hj
  refine ⟨ad, rfl, ?_⟩
  have := ha ad rfl (by omega)
  rw [World.cell?_of_block (w := w) (heap_setCell_other w p _ u (by rw [addr_add_block]; omega))]
  exact hc
theorem NBV.aptwo {B : Nat} {w : World} {neg : Bool} {A : Option Addr} {n c : Nat} {z : Int} (h : NBV B w (.agg #[.bool neg, .slice A n c]) z) {lo hi : Nat} (ha : Ap lo hi A n) {p i j : Nat} (h1 : lo ≤ p) (h2 : p < hi) (u v : Value) : NBV B ((w.setCell ⟨p, i, none⟩ u).setCell ⟨p, j, none⟩ v) (.agg #[.bool neg, .slice A n c]) z :=
  (h.apset ha (p := ⟨p, i, none⟩) h1 h2 u).apset ha (p := ⟨p, j, none⟩) h1 h2 v
theorem NBV.ap {B : Nat} {w : World} {neg : Bool} {A : Option Addr} {n c : Nat} {z : Int} (h : NBV B w (.agg #[.bool neg, .slice A n c]) z) {lo hi : Nat} (hB : hi ≤ B) : Ap lo hi A n := by
  obtain ⟨A', n', c', xs, e, _, _, _, _, h3⟩ := h
  simp only [Value.agg.injEq, Array.mk.injEq, List.cons.injEq, Value.bool.injEq, Value.slice.injEq, and_true] at e
  obtain ⟨rfl, rfl, rfl, rfl⟩ := e
  exact fun ad e _ => .inr (Nat.le_trans hB (h3 ad e))
/-- a power that is being taken: out = b^f, by = b^e, f + e m = n -/
structure PwInv (b : Int) (n m : Nat) (x y : Int) : Prop where
  ex : ∃ e f, x = b ^ f ∧ y = b ^ e ∧ f + e * m = n ∧ e ≤ 2 * n + 1
theorem PwInv.start (b : Int) (n : Nat) : PwInv b n n 1 b := ⟨1, 0, (Int.pow_zero b).symm, (Int.pow_succ b 0).symm ▸ by rw [Int.pow_zero, Int.one_mul], by omega, by omega⟩
theorem PwInv.even {b : Int} {n m : Nat} {x y : Int} (h : PwInv b n m x y) (h0 : 0 < m) (h1 : m % 2 = 0) : PwInv b n (m / 2) x (y * y) := by
  obtain ⟨e, f, rfl, rfl, h2, h3⟩ := h.ex
  refine ⟨e + e, f, rfl, by rw [Int.pow_add], ?_, ?_⟩
  · have e1 : m = 2 * (m / 2) := by omega
    rw [← h2]
    conv => rhs; rw [e1]
    rw [Nat.add_mul, ← Nat.mul_assoc, Nat.mul_comm e 2, Nat.mul_assoc, Nat.two_mul]
  · have : e * 1 ≤ e * m := Nat.mul_le_mul_left e h0
    omega
theorem PwInv.odd {b : Int} {n m : Nat} {x y : Int} (h : PwInv b n m x y) (h1 : m % 2 = 1) : PwInv b n (m / 2) (x * y) (y * y) := by
  obtain ⟨e, f, rfl, rfl, h2, h3⟩ := h.ex
  refine ⟨e + e, f + e, by rw [Int.pow_add], by rw [Int.pow_add], ?_, ?_⟩
  · have e1 : m = 2 * (m / 2) + 1 := by omega
    rw [← h2]
    conv => rhs; rw [e1]
    rw [Nat.add_mul, Nat.mul_add, ← Nat.mul_assoc, Nat.mul_comm e 2, Nat.mul_assoc, Nat.two_mul]
    omega
  · have : e * 1 ≤ e * m := Nat.mul_le_mul_left e (by omega)
    omega
theorem PwInv.done {b : Int} {n : Nat} {x y : Int} (h : PwInv b n 0 x y) : x = b ^ n := by
  obtain ⟨e, f, rfl, rfl, h2, h3⟩ := h.ex
  have : f = n := by simpa using h2
  rw [this]
theorem PwInv.sm {b : Int} {n m : Nat} {x y : Int} (h : PwInv b n m x y) {k : Nat} (hb : Sm k b) : Sm (k * (2 * n + 1) + 1) x ∧ Sm (k * (2 * n + 1) + 1) y := by
  obtain ⟨e, f, rfl, rfl, h2, h3⟩ := h.ex
  exact ⟨(hb.pow f).mono (Nat.succ_le_succ (Nat.mul_le_mul_left k (by omega))), (hb.pow e).mono (Nat.succ_le_succ (Nat.mul_le_mul_left k h3))⟩

end Go.Proofs.YtjeaakkbkjhldaaGreatDoor

set_option linter.unusedVariables false
set_option linter.unusedSimpArgs false
namespace Go.Proofs.YtjeaakkbkjhldaaGreatDoor
open Go.RowKit

set_option maxHeartbeats 4000000 in
set_option maxRecDepth 100000 in
theorem power_calls {w : World} {b : Int} {n : Nat} (b0 : 0 ≤ b) (b1 : b ≤ 16) (hn : n ≤ 1000000) :
    Calls Tryz.prog 149 #[.int .i64 b, .int .i64 n] w (MadeRes w (b ^ n)) := by
  have sb : Sm 5 b := by unfold Sm; have : (2 : Int) ^ 5 = 32 := by decide
                         omega
  have hkk : 5 * (2 * n + 1) + 1 ≤ 137438953472 := by omega
  obtain ⟨hbW, br⟩ := box1_facts w 24 (.bool false) (.slice none 0 0)
  go_enter Tryz.func149, Tryz.ntmps149
  go_wp2_with fail
  change Calls _ _ _ (box1 w 24 (.bool false) (.slice none 0 0)) _
  generalize box1 w 24 (.bool false) (.slice none 0 0) = W at *
  generalize hr : w.heap.size = r at br ⊢
  have hrw : w.heap.size ≤ r := by omega
  clear hr
  refine (Of_calls (by omega) (by omega)).mono ?_
  rintro e w1 ⟨v1, rfl, hv1, hb1⟩
  have hrl : r < W.heap.size := br.lt
  replace hv1 := hv1.mono (show r + 1 ≤ W.heap.size from hrl)
  replace hbW := bthen hbW hb1
  replace br := br.below hb1
  clear hb1
  go_wp2_with fail
  refine (Of_calls (by omega) (by omega)).mono ?_
  rintro e w2 ⟨v2, rfl, hv2, hb2⟩
  have hrl2 : r < w1.heap.size := br.lt
  replace hv2 := hv2.mono (show r + 1 ≤ w1.heap.size from hrl2)
  replace hbW := bthen hbW hb2
  replace br := br.below hb2
  replace hv1 := hv1.below hb2
  clear hb2 hrl hrl2
  have a1 := (hv1.bv (Sm.of_le (k := 5) (by decide) (by omega)) (by omega))
  have a2 := (hv2.bv sb (by omega))
  obtain ⟨ng, A1, n1, c1, rfl⟩ := hv1.shape
  obtain ⟨ng2, A2, n2, c2, rfl⟩ := hv2.shape
  have p1 := a1.apart (w2.heap.size + 1 + 1)
  have p2 := a2.apart (w2.heap.size + 1 + 1)
  clear a1 a2
  go_wp2_with fail
  change Code.wp _ _ _ _ (box2 w2 24 24 (.bool ng) (.slice A1 n1 c1) (.bool ng2) (.slice A2 n2 c2))
  obtain ⟨hb3, ba, bb⟩ := box2_facts w2 24 24 (.bool ng) (.slice A1 n1 c1) (.bool ng2) (.slice A2 n2 c2)
  have hrp := br.lt
  generalize box2 w2 24 24 (.bool ng) (.slice A1 n1 c1) (.bool ng2) (.slice A2 n2 c2) = W3 at *
  have o1 : w2.heap.size < w2.heap.size + 1 := by omega
  have o2 : w2.heap.size + 1 < w2.heap.size + 1 + 1 := by omega
  have hws := hbW.size
  replace hbW := bthen hbW hb3
  (replace hv1 := hv1.below hb3; replace hv2 := hv2.below hb3; replace br := br.below hb3)
  clear hb3
  obtain ⟨hi, hhi0, o5⟩ : ∃ hi, w2.heap.size + 1 + 1 = hi ∧ hi ≤ w2.heap.size + 1 + 1 := ⟨_, rfl, Nat.le_refl _⟩
  rw [hhi0] at p1 p2 o2
  clear hhi0
  generalize w2.heap.size + 1 = q at *
  generalize w2.heap.size = p at *
  have d1 : ¬ p = q := by omega
  have d2 : ¬ q = p := by omega
  have d3 : ¬ r = p := by omega
  have d4 : ¬ r = q := by omega
  have d5 : ¬ p = r := by omega
  have d6 : ¬ q = r := by omega
  have hpe : p ≤ q := by omega
  have hph : p < hi := by omega
  have hqh : q < hi := by omega
  have hwp : w.heap.size ≤ p := by omega
  have hwq : w.heap.size ≤ q := by omega
  go_loopg [1] (n + 1) (fun g nv wr => ∃ (m : Nat) (x y : Int) (ng : Bool) (A1 : Option Addr) (n1 c1 : Nat) (ng2 : Bool) (A2 : Option Addr) (n2 c2 : Nat), nv = .int .i64 m ∧ m + 1 = g ∧ m ≤ 1000000 ∧ Shut (PwInv b n m x y) ∧ Shut (Below w.heap.size w wr) ∧ NBV (r + 1) wr (.agg #[.bool ng, .slice A1 n1 c1]) x ∧ NBV (r + 1) wr (.agg #[.bool ng2, .slice A2 n2 c2]) y ∧ Shut (Ap p hi A1 n1 ∧ Ap p hi A2 n2) ∧ Box w2 wr p (.bool ng) (.slice A1 n1 c1) ∧ Box w2 wr q (.bool ng2) (.slice A2 n2 c2) ∧ Box w wr r (.bool false) (.slice none 0 0))
  case atStart => exact ⟨n, 1, b, ng, A1, n1, c1, ng2, A2, n2, c2, rfl, rfl, hn, ⟨PwInv.start b n⟩, ⟨hbW⟩, hv1, hv2, ⟨p1, p2⟩, ba, bb, br⟩
  case round =>
    clear hbW hv1 hv2 ba bb br p1 p2 hn
    obtain ⟨m, x, y, ng, A1, n1, c1, ng2, A2, n2, c2, rfl, hg, hm, HI, hbW, hv1, hv2, HA, ba, bb, br⟩ := hrel
    obtain ⟨sx, sy⟩ := HI.out.sm sb
    by_cases hm0 : 0 < m
    · have HG : Shut (m / 2 + 1 < gk) := ⟨by omega⟩
      have hand := and_one (n := (m : Int)) (by omega) (by omega)
      by_cases hodd : m % 2 = 1
      · have hmod : (m : Int) % 2 = 1 := by omega
        have l0 := ba.c0
        have l1 := ba.c1
        have l2 := bb.c0
        have l3 := bb.c1
        have HS := Shut.mk (HI.out.odd hodd)
        clear hodd HI hg
        go_wp2_with fail
        refine (Mul_calls (hv1.bv sx hkk) (hv2.bv sy hkk)).mono ?_
        rintro e w5 ⟨v5, rfl, hv5, hb5⟩
        replace hv5 := hv5.mono (show hi ≤ _ by have := bb.lt; omega)
        obtain ⟨ng5, A5, n5, c5, rfl⟩ := hv5.shape
        have HAx : Ap p hi A5 n5 := hv5.ap (Nat.le_refl _)
        replace hv5 := hv5.mono (show r + 1 ≤ hi by omega)
        replace hbW := Shut.mk (bthen' hbW.out hbW.out.size hb5)
        (replace hv2 := hv2.below hb5; replace ba := ba.below hb5; replace bb := bb.below hb5; replace br := br.below hb5)
        clear hb5 hv1 l0 l1 l2 l3
        have f0 := ba.f0
        have f1 := ba.f1
        have l0 := ba.c0
        have l1 := ba.c1
        go_upto_region 6 with fail
        change Code.wp _ _ _ _ ((w5.setCell ⟨p, 0, none⟩ (.bool ng5)).setCell ⟨p, 1, none⟩ (.slice A5 n5 c5))
        clear l0 l1 f0 f1
        replace hv5 := hv5.aptwo HAx (i := 0) (j := 1) (Nat.le_refl _) hph (.bool ng5) (.slice A5 n5 c5)
        replace hv2 := hv2.aptwo HA.out.2 (i := 0) (j := 1) (Nat.le_refl _) hph (.bool ng5) (.slice A5 n5 c5)
        replace hbW := Shut.mk (below_two hbW.out hwp (i := 0) (j := 1) (.bool ng5) (.slice A5 n5 c5))
        replace bb := bb.two d2 (i := 0) (j := 1) (.bool ng5) (.slice A5 n5 c5)
        replace br := br.two d3 (i := 0) (j := 1) (.bool ng5) (.slice A5 n5 c5)
        replace ba := ba.put (.bool ng5) (.slice A5 n5 c5)
        generalize (w5.setCell ⟨p, 0, none⟩ (.bool ng5)).setCell ⟨p, 1, none⟩ (.slice A5 n5 c5) = W6 at *
        have l2 := bb.c0
        have l3 := bb.c1
        go_wp2_with fail
        skip
        refine (Mul_calls (hv2.bv sy hkk) (hv2.bv sy hkk)).mono ?_
        rintro e w7 ⟨v7, rfl, hv7, hb7⟩
        replace hv7 := hv7.mono (show hi ≤ _ by have := bb.lt; omega)
        obtain ⟨ng7, A7, n7, c7, rfl⟩ := hv7.shape
        have p7' : Ap p hi A7 n7 := hv7.ap (Nat.le_refl _)
        replace hv7 := hv7.mono (show r + 1 ≤ hi by omega)
        replace hbW := Shut.mk (bthen' hbW.out hbW.out.size hb7)
        (replace hv5 := hv5.below hb7; replace ba := ba.below hb7; replace bb := bb.below hb7; replace br := br.below hb7)
        clear hv2 hb7 l2 l3
        have l2 := bb.c0
        have l3 := bb.c1
        have f2 := bb.f0
        have f3 := bb.f1
        go_wp2
        go_roundg (m / 2 + 1)
        case measure => exact HG.out
        case rel => exact ⟨m / 2, _, _, ng5, A5, n5, c5, ng7, A7, n7, c7, by first | rfl | simp | (congr 1; omega), rfl, by omega, HS, ⟨below_two hbW.out hwq _ _⟩, hv5.aptwo HAx hpe hqh _ _, hv7.aptwo p7' hpe hqh _ _, ⟨HAx, p7'⟩, ba.two d1 _ _, bb.put _ _, br.two d4 _ _⟩
      · have hmod : (m : Int) % 2 = 0 := by omega
        have HS := Shut.mk (HI.out.even hm0 (by omega))
        have HAx := HA.out.1
        clear hodd HI hg
        have l2 := bb.c0
        have l3 := bb.c1
        go_wp2_with fail
        skip
        refine (Mul_calls (hv2.bv sy hkk) (hv2.bv sy hkk)).mono ?_
        rintro e w7 ⟨v7, rfl, hv7, hb7⟩
        replace hv7 := hv7.mono (show hi ≤ _ by have := bb.lt; omega)
        obtain ⟨ng7, A7, n7, c7, rfl⟩ := hv7.shape
        have p7' : Ap p hi A7 n7 := hv7.ap (Nat.le_refl _)
        replace hv7 := hv7.mono (show r + 1 ≤ hi by omega)
        replace hbW := Shut.mk (bthen' hbW.out hbW.out.size hb7)
        (replace hv1 := hv1.below hb7; replace ba := ba.below hb7; replace bb := bb.below hb7; replace br := br.below hb7)
        clear hv2 hb7 l2 l3
        have l2 := bb.c0
        have l3 := bb.c1
        have f2 := bb.f0
        have f3 := bb.f1
        go_wp2
        go_roundg (m / 2 + 1)
        case measure => exact HG.out
        case rel => exact ⟨m / 2, _, _, ng, A1, n1, c1, ng7, A7, n7, c7, by first | rfl | simp | (congr 1; omega), rfl, by omega, HS, ⟨below_two hbW.out hwq _ _⟩, hv1.aptwo HAx hpe hqh _ _, hv7.aptwo p7' hpe hqh _ _, ⟨HAx, p7'⟩, ba.two d1 _ _, bb.put _ _, br.two d4 _ _⟩
    · obtain rfl : m = 0 := by omega
      have HV : Shut (x = b ^ n) := ⟨HI.out.done⟩
      have l0 := ba.c0
      have l1 := ba.c1
      have r0 := br.c0
      have r1 := br.c1
      have g0 := br.f0
      have g1 := br.f1
      rw [HV.out] at hv1
      have HV1 := Shut.mk hv1
      clear hv1 hv2 HI hg ba bb hm0
      go_wp2
      refine bodyPost_ret (v := .agg #[.bool ng, .slice A1 n1 c1]) (by simp [results, Tryz.results149, go_sem, r0, r1, l0, l1]) rfl ?_
      exact ⟨_, rfl, (HV1.out.two (Nat.lt_succ_self r) _ _).mono (by omega), below_two hbW.out hrw _ _⟩

end Go.Proofs.YtjeaakkbkjhldaaGreatDoor
