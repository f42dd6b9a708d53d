/- RatField: fractions are a field, for every three fractions that come in, whatever their lengths (the law itself cuts each number to three words). Condition: the package-level variables that the row lists read as the program's text lays them (the card ties them). -/
import Derived.Test.YtjeaakkbkjhldaaDoorK10
import Derived.Test.YtjeaakkbkjhldaaDoorK9
import Derived.Test.YtjeaakkbkjhldaaDoorCards
import Derived.Test.YtjeaakkbkjhldaaDoorTie
import Derived.Lay
import Derived.LaidOnce
import Derived.SevenTiedAt
set_option linter.unusedVariables false
namespace Go.Proofs.YtjeaakkbkjhldaaDoor
open Go.RowKit Go.ChangeShapes Go.WideShapes Go.ChangeAt

theorem own : ownKnob Tryd.prog.godebug = none := by kernel_rfl
theorem laidOutP : laidOutB Tryd.prog = true := by kernel_rfl
theorem readRat : Tryd.prog.readableRec 26 = true := by kernel_rfl
theorem rowRat : 26 < Tryd.prog.types.size := of_decide_eq_true (by kernel_rfl)
def zeroRat : Value := .agg #[.bool false, .slice none 0 0, .bool false, .slice none 0 0]

set_option maxRecDepth 100000 in
theorem field_lifted (os : Os) (started : os.Started) (H : Type) (enc : TypeId × Value → H) :
    ReturnsInHanded {} Tryd.checked os 3 .any (fun w args => (Rows.ratFieldSpec.pre enc Tryd.prog Tryd.f3 [] false w args ∧ laidMetH Tryd.prog Rows.ratFieldRow.laid w) ∧ sizedMet enc Tryd.prog Tryd.f3 (OpenSpec.ofChange Rows.ratFieldSpec) false w args)
      (Rows.ratFieldSpec.post enc Tryd.prog Tryd.f3 false true false false) := by
  refine returnsInHanded_of_change_and (C := Tryd.checked) (X := fun w _ => laidMetH Tryd.prog Rows.ratFieldRow.laid w) (fun _ _ _ hh h => h.of_heap hh) own started (by kernel_rfl) Tryd.func3
    (ChangeSpec.witness_shaped (enc := enc) (C := Tryd.checked) (os := os) (X := fun w _ => laidMetH Tryd.prog Rows.ratFieldRow.laid w) false (World.laidAll Tryd.prog os Rows.ratFieldRow.laid) #[zeroRat, zeroRat, zeroRat] 8 (World.laidAll_os _ _ _)
      (World.shaped_of_ZipB (by kernel_rfl) (by kernel_rfl)) (by kernel_rfl) (by kernel_rfl) (by kernel_rfl)
      (by rw [MakeChecks.laidMetH_plain _ _ _ (by kernel_rfl)]; exact laidMet_laidAll _ (by kernel_rfl) (by kernel_rfl))) ?_
  intro W base args ds gs before hval0 hW _ _ hL _
  have hval : ∀ (j : Nat) t v, Tryd.f3.params[j]? = some t → args[j]? = some v → Value.okWide Tryd.prog W .any base t v := hval0
  have hW' := hW
  obtain ⟨p, q, hA0, hV, rfl, _, _⟩ := hW
  have hA : DataW.TrodAll enc Tryd.prog W 0 (fun _ => true) true Tryd.f3.params.toList args.toList ds p := hA0
  rw [Tryd.params3] at hA hval
  obtain ⟨v0, v1, v2, d0, d1, d2, p0, p1, p2, rfl, rfl, rfl, h0, h1, h2⟩ := trodAll_three hA
  obtain ⟨rfl, rfl⟩ := trodVars_none hV
  obtain ⟨a1, Aa, la, ca, a2, Aa2, la2, ca2, rfl, ra, ra2⟩ := rat_of_arg (hval 0 26 v0 rfl rfl) h0
  obtain ⟨b1, Ab, lb, cb, b2, Ab2, lb2, cb2, rfl, rb, rb2⟩ := rat_of_arg (hval 1 26 v1 rfl rfl) h1
  obtain ⟨e1, Ae, le, ce, e2, Ae2, le2, ce2, rfl, re, re2⟩ := rat_of_arg (hval 2 26 v2 rfl rfl) h2
  have hlt : ∀ x ∈ p0 ++ (p1 ++ p2), x.block < W.heap.size := fun x hx => hW'.lt x (by simpa using hx)
  refine (field_law ra ra2 rb rb2 re re2).mono fun e W' ⟨he, hb⟩ => ?_
  subst he
  exact ⟨_, rfl, _, _, _, [], p0 ++ (p1 ++ p2), [], hW', trodAll_mk1 (shut_bool Tryd.underlying4 _),
    trodAll_mk3 (Below.trod laidOutP readRat rowRat h0 hb (fun x hx => hlt x (by simp [hx]))) (Below.trod laidOutP readRat rowRat h1 hb (fun x hx => hlt x (by simp [hx]))) (Below.trod laidOutP readRat rowRat h2 hb (fun x hx => hlt x (by simp [hx]))),
    rfl, hb.frame _, fun h => by cases h⟩

theorem field_said : Rows.RatFieldSaid :=
  OpenClaim.holds_of_wide 3 Tryd.f3 rfl rfl rfl rfl rfl rfl rfl ⟨rfl, rfl, rfl, rfl, rfl⟩ rfl rfl rfl rfl rfl (by kernel_rfl) Tryd.func3 (by kernel_rfl)
    (of_decide_eq_true (by kernel_rfl)) (by unfold Func.isWrapper; first | (rw [if_pos (by decide +kernel)]; kernel_rfl) | (rw [if_neg (by decide +kernel)]; exact ⟨rfl, rfl⟩))
    (fun os started H enc _ => field_lifted os started H enc)

theorem field_plain (f : FuncId) (fn : Func) (hf : Tryd.pinned.checked.prog.funcNamed "sterling/sterlinglaw2.RatField" = some f) (hfn : Tryd.pinned.checked.prog.funcs[f]? = some fn) :
    false = Tryd.pinned.checked.prog.looks [] ∧ ∀ (j : Nat) t, fn.params[j]? = some t → Tryd.pinned.checked.prog.wantsStandIn t = false := by
  obtain rfl : f = 3 := Option.some.inj ((show Tryd.prog.funcNamed "sterling/sterlinglaw2.RatField" = some 3 by kernel_rfl).symm.trans hf) |>.symm
  obtain rfl : fn = Tryd.f3 := (Option.some.inj (Tryd.func3.symm.trans hfn)).symm
  refine ⟨by kernel_rfl, fun j t ht => ?_⟩
  rw [Tryd.params3] at ht
  have hm : t ∈ [26] := by simpa using Array.mem_of_getElem? ht
  have hall : ([26].all fun u => !Tryd.prog.wantsStandIn u) = true := by kernel_rfl
  exact (show Tryd.prog.wantsStandIn t = false by simpa using List.all_eq_true.1 hall t hm)

/-- THE CARD. -/
theorem field_holds : Rows.RatFieldCardSaid :=
  Claim7.holds_tied_plain_at .later [] _ _ _ _ field_said (fun _ h => by cases h) (by kernel_rfl) (fun _ h => by cases h) ratField_row_tie rfl ⟨rfl, rfl⟩ (by kernel_rfl) rfl field_plain (by kernel_rfl)

end Go.Proofs.YtjeaakkbkjhldaaDoor
