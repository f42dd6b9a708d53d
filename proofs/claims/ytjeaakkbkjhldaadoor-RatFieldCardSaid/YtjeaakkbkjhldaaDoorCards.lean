/-
  DERIVED. GIVEN WITH THE SEED: THE CARDS: each row of YtjeaakkbkjhldaaDoorRows.lean that lists a variable, with what it lists TIED to the program's text (the seventh form; the later family's looks); each row that meets fmt, with fmt's text TOLD by the authors' own Lean function (tested against real Go, not proved from fmt's source: count such statements apart). THE CARD IS WHAT COUNTS. Prove the row's statement (the work); the ties are given (YtjeaakkbkjhldaaDoorTie.lean); close each card by the builder's one call (the guide's Derived/Test/ToyasCard.lean, 'card_holds'). Laid BY PROGRAM, IN A SANDBOX (cutbox-door.mjs). By AI agents, Wed Nov 11 2026. No macro, syntax, notation, axiom, sorry.
-/
import Derived.Test.YtjeaakkbkjhldaaDoorRows
import GoSem.ClaimSeven
namespace Go.Proofs.YtjeaakkbkjhldaaDoor
namespace Rows

/-- THE TIED CARD OF 'sterlinglaw2.RatField'. -/
def ratFieldCard : Claim7 := { stood := { row := ratFieldRow, standIns := [], harness := (true, "9dceb1688fc9bf28583ceb6d4495743e1d0dc78242df85482b88099c03d1201e"), looks := false }, kinds := [], alts := [], laidByText := true, laidKinds := [.data, .pinned, .pinned], laidTests := true, laidLooks := .later }
def RatFieldCardSaid : Prop := Claim7.holds Tryd.pinned (.plain (OpenSpec.ofChange ratFieldSpec)) ratFieldCard

/-- THE SECOND FORM's CARD OF 'sterlinglaw2.RatField'. -/
def ratFieldUptoCard : Claim7 := { stood := { row := ratFieldUptoRow, standIns := [], harness := (true, "9dceb1688fc9bf28583ceb6d4495743e1d0dc78242df85482b88099c03d1201e"), looks := false }, kinds := [], alts := [], laidByText := true, laidKinds := [.data, .pinned, .pinned], laidTests := true, laidLooks := .later }
def RatFieldUptoCardSaid : Prop := Claim7.holds Tryd.pinned (.plain (OpenSpec.upto ratFieldSpec)) ratFieldUptoCard
end Rows
end Go.Proofs.YtjeaakkbkjhldaaDoor
