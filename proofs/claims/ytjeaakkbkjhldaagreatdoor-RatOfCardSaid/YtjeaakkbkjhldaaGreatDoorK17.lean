/- RatOf: a fraction of two numbers is in lowest terms, its denominator above zero, for every two numbers that come in, whatever their lengths (the law itself cuts each to six words). Condition: the package-level variables that the row lists read as the program's text lays them (the card ties them). -/
import Derived.Test.YtjeaakkbkjhldaaGreatDoorK16
import Derived.Test.YtjeaakkbkjhldaaGreatDoorK9
import Derived.Test.YtjeaakkbkjhldaaGreatDoorCards
import Derived.Test.YtjeaakkbkjhldaaGreatDoorTie
import Derived.Lay
import Derived.LaidOnce
import Derived.SevenTiedAt
set_option linter.unusedVariables false
namespace Go.Proofs.YtjeaakkbkjhldaaGreatDoor
open Go.RowKit Go.ChangeShapes Go.WideShapes Go.ChangeAt

theorem own : ownKnob Tryz.prog.godebug = none := by kernel_rfl
theorem laidOutP : laidOutB Tryz.prog = true := by kernel_rfl
theorem readRat : Tryz.prog.readableRec 26 = true := by kernel_rfl
theorem rowRat : 26 < Tryz.prog.types.size := of_decide_eq_true (by kernel_rfl)
theorem readBig : Tryz.prog.readableRec 24 = true := by kernel_rfl
theorem rowBig : 24 < Tryz.prog.types.size := of_decide_eq_true (by kernel_rfl)
def zeroRat : Value := .agg #[.bool false, .slice none 0 0, .bool false, .slice none 0 0]
def zeroBig : Value := .agg #[.bool false, .slice none 0 0]

set_option maxRecDepth 100000 in
theorem ratOf_lifted (os : Os) (started : os.Started) (H : Type) (enc : TypeId × Value → H) :
    ReturnsInHanded {} Tryz.checked os 4 .any (fun w args => (Rows.ratOfSpec.pre enc Tryz.prog Tryz.f4 [] false w args ∧ laidMetH Tryz.prog Rows.ratOfRow.laid w) ∧ sizedMet enc Tryz.prog Tryz.f4 (OpenSpec.ofChange Rows.ratOfSpec) false w args)
      (Rows.ratOfSpec.post enc Tryz.prog Tryz.f4 false true false false) := by
  refine returnsInHanded_of_change_and (C := Tryz.checked) (X := fun w _ => laidMetH Tryz.prog Rows.ratOfRow.laid w) (fun _ _ _ hh h => h.of_heap hh) own started (by kernel_rfl) Tryz.func4
    (ChangeSpec.witness_shaped (enc := enc) (C := Tryz.checked) (os := os) (X := fun w _ => laidMetH Tryz.prog Rows.ratOfRow.laid w) false (World.laidAll Tryz.prog os Rows.ratOfRow.laid) #[zeroBig, zeroBig] 8 (World.laidAll_os _ _ _)
      (World.shaped_of_ZipB (by kernel_rfl) (by kernel_rfl)) (by kernel_rfl) (by kernel_rfl) (by kernel_rfl)
      (by rw [MakeChecks.laidMetH_plain _ _ _ (by kernel_rfl)]; exact laidMet_laidAll _ (by kernel_rfl) (by kernel_rfl))) ?_
  intro W base args ds gs before hval0 hW _ _ hL _
  have hval : ∀ (j : Nat) t v, Tryz.f4.params[j]? = some t → args[j]? = some v → Value.okWide Tryz.prog W .any base t v := hval0
  have hW' := hW
  obtain ⟨p, q, hA0, hV, rfl, _, _⟩ := hW
  have hA : DataW.TrodAll enc Tryz.prog W 0 (fun _ => true) true Tryz.f4.params.toList args.toList ds p := hA0
  rw [Tryz.params4] at hA hval
  obtain ⟨v0, v1, d0, d1, p0, p1, rfl, rfl, rfl, h0, h1⟩ := trodAll_two hA
  obtain ⟨rfl, rfl⟩ := trodVars_none hV
  obtain ⟨s0, A0, l0, c0, rfl, r0⟩ := big_of_arg (hval 0 24 v0 rfl rfl) h0
  obtain ⟨s1, A1, l1, c1, rfl, r1⟩ := big_of_arg (hval 1 24 v1 rfl rfl) h1
  have hlt : ∀ x ∈ p0 ++ p1, x.block < W.heap.size := fun x hx => hW'.lt x (by simpa using hx)
  refine (of_law r0 r1).mono fun e W' ⟨he, hb⟩ => ?_
  subst he
  exact ⟨_, rfl, _, _, _, [], p0 ++ p1, [], hW', trodAll_mk1 (shut_bool Tryz.underlying4 _),
    trodAll_mk2 (Below.trod laidOutP readBig rowBig h0 hb (fun x hx => hlt x (by simp [hx]))) (Below.trod laidOutP readBig rowBig h1 hb (fun x hx => hlt x (by simp [hx]))),
    rfl, hb.frame _, fun h => by cases h⟩

theorem ratOf_said : Rows.RatOfSaid :=
  OpenClaim.holds_of_wide 4 Tryz.f4 rfl rfl rfl rfl rfl rfl rfl ⟨rfl, rfl, rfl, rfl, rfl⟩ rfl rfl rfl rfl rfl (by kernel_rfl) Tryz.func4 (by kernel_rfl)
    (of_decide_eq_true (by kernel_rfl)) (by unfold Func.isWrapper; first | (rw [if_pos (by decide +kernel)]; kernel_rfl) | (rw [if_neg (by decide +kernel)]; exact ⟨rfl, rfl⟩))
    (fun os started H enc _ => ratOf_lifted os started H enc)

theorem ratOf_plain (f : FuncId) (fn : Func) (hf : Tryz.pinned.checked.prog.funcNamed "sterling/sterlinglaw2.RatOf" = some f) (hfn : Tryz.pinned.checked.prog.funcs[f]? = some fn) :
    false = Tryz.pinned.checked.prog.looks [] ∧ ∀ (j : Nat) t, fn.params[j]? = some t → Tryz.pinned.checked.prog.wantsStandIn t = false := by
  obtain rfl : f = 4 := Option.some.inj ((show Tryz.prog.funcNamed "sterling/sterlinglaw2.RatOf" = some 4 by kernel_rfl).symm.trans hf) |>.symm
  obtain rfl : fn = Tryz.f4 := (Option.some.inj (Tryz.func4.symm.trans hfn)).symm
  refine ⟨by kernel_rfl, fun j t ht => ?_⟩
  rw [Tryz.params4] at ht
  have hm : t ∈ [24] := by simpa using Array.mem_of_getElem? ht
  have hall : ([24].all fun u => !Tryz.prog.wantsStandIn u) = true := by kernel_rfl
  exact (show Tryz.prog.wantsStandIn t = false by simpa using List.all_eq_true.1 hall t hm)

/-- THE CARD. -/
theorem ratOf_holds : Rows.RatOfCardSaid :=
  Claim7.holds_tied_plain_at .later [] _ _ _ _ ratOf_said (fun _ h => by cases h) (by kernel_rfl) (fun _ h => by cases h) ratOf_row_tie rfl ⟨rfl, rfl⟩ (by kernel_rfl) rfl ratOf_plain (by kernel_rfl)

end Go.Proofs.YtjeaakkbkjhldaaGreatDoor
