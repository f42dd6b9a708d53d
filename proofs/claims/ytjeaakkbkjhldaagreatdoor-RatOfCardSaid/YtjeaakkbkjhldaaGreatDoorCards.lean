/-
  DERIVED. GIVEN WITH THE SEED: THE CARDS: each row of YtjeaakkbkjhldaaGreatDoorRows.lean that lists a variable, with what it lists TIED to the program's text (the seventh form; the later family's looks); each row that meets fmt, with fmt's text TOLD by the authors' own Lean function (tested against real Go, not proved from fmt's source: count such statements apart). THE CARD IS WHAT COUNTS. Prove the row's statement (the work); the ties are given (YtjeaakkbkjhldaaGreatDoorTie.lean); close each card by the builder's one call (the guide's Derived/Test/ToyasCard.lean, 'card_holds'). Laid BY PROGRAM, IN A SANDBOX (cutbox-door.mjs). By AI agents, Wed Nov 11 2026. No macro, syntax, notation, axiom, sorry.
-/
import Derived.Test.YtjeaakkbkjhldaaGreatDoorRows
import GoSem.ClaimSeven
namespace Go.Proofs.YtjeaakkbkjhldaaGreatDoor
namespace Rows

/-- THE TIED CARD OF 'sterlinglaw2.RatSums'. -/
def ratSumsCard : Claim7 := { stood := { row := ratSumsRow, standIns := [], harness := (true, "226a9828ceba636829ec5503390ca3ec38c942bc615fe3534042306f4688f735"), looks := false }, kinds := [], alts := [], laidByText := true, laidKinds := [.data, .pinned, .pinned], laidTests := true, laidLooks := .later }
def RatSumsCardSaid : Prop := Claim7.holds Tryz.pinned (.plain (OpenSpec.ofChange ratSumsSpec)) ratSumsCard

/-- THE TIED CARD OF 'sterlinglaw2.RatOf'. -/
def ratOfCard : Claim7 := { stood := { row := ratOfRow, standIns := [], harness := (true, "226a9828ceba636829ec5503390ca3ec38c942bc615fe3534042306f4688f735"), looks := false }, kinds := [], alts := [], laidByText := true, laidKinds := [.data, .pinned, .pinned], laidTests := true, laidLooks := .later }
def RatOfCardSaid : Prop := Claim7.holds Tryz.pinned (.plain (OpenSpec.ofChange ratOfSpec)) ratOfCard

/-- THE TIED CARD OF 'sterlinglaw2.RatParse'. -/
def ratParseCard : Claim7 := { stood := { row := ratParseRow, standIns := [], harness := (true, "226a9828ceba636829ec5503390ca3ec38c942bc615fe3534042306f4688f735"), looks := false }, kinds := [], alts := [], laidByText := true, laidKinds := [.data, .pinned, .pinned], laidTests := true, laidLooks := .later }
def RatParseCardSaid : Prop := Claim7.holds Tryz.pinned (.plain (OpenSpec.ofChange ratParseSpec)) ratParseCard

/-- THE TIED CARD OF 'sterlinglaw3.FloatRound'. -/
def floatRoundCard : Claim7 := { stood := { row := floatRoundRow, standIns := [], harness := (true, "226a9828ceba636829ec5503390ca3ec38c942bc615fe3534042306f4688f735"), looks := false }, kinds := [], alts := [], laidByText := true, laidKinds := [.data, .pinned, .pinned], laidTests := true, laidLooks := .later }
def FloatRoundCardSaid : Prop := Claim7.holds Tryz.pinned (.plain (OpenSpec.ofChange floatRoundSpec)) floatRoundCard

/-- THE SECOND FORM's CARD OF 'sterlinglaw2.RatSums'. -/
def ratSumsUptoCard : Claim7 := { stood := { row := ratSumsUptoRow, standIns := [], harness := (true, "226a9828ceba636829ec5503390ca3ec38c942bc615fe3534042306f4688f735"), looks := false }, kinds := [], alts := [], laidByText := true, laidKinds := [.data, .pinned, .pinned], laidTests := true, laidLooks := .later }
def RatSumsUptoCardSaid : Prop := Claim7.holds Tryz.pinned (.plain (OpenSpec.upto ratSumsSpec)) ratSumsUptoCard

/-- THE SECOND FORM's CARD OF 'sterlinglaw2.RatOf'. -/
def ratOfUptoCard : Claim7 := { stood := { row := ratOfUptoRow, standIns := [], harness := (true, "226a9828ceba636829ec5503390ca3ec38c942bc615fe3534042306f4688f735"), looks := false }, kinds := [], alts := [], laidByText := true, laidKinds := [.data, .pinned, .pinned], laidTests := true, laidLooks := .later }
def RatOfUptoCardSaid : Prop := Claim7.holds Tryz.pinned (.plain (OpenSpec.upto ratOfSpec)) ratOfUptoCard

/-- THE SECOND FORM's CARD OF 'sterlinglaw2.RatParse'. -/
def ratParseUptoCard : Claim7 := { stood := { row := ratParseUptoRow, standIns := [], harness := (true, "226a9828ceba636829ec5503390ca3ec38c942bc615fe3534042306f4688f735"), looks := false }, kinds := [], alts := [], laidByText := true, laidKinds := [.data, .pinned, .pinned], laidTests := true, laidLooks := .later }
def RatParseUptoCardSaid : Prop := Claim7.holds Tryz.pinned (.plain (OpenSpec.upto ratParseSpec)) ratParseUptoCard

/-- THE SECOND FORM's CARD OF 'sterlinglaw3.FloatRound'. -/
def floatRoundUptoCard : Claim7 := { stood := { row := floatRoundUptoRow, standIns := [], harness := (true, "226a9828ceba636829ec5503390ca3ec38c942bc615fe3534042306f4688f735"), looks := false }, kinds := [], alts := [], laidByText := true, laidKinds := [.data, .pinned, .pinned], laidTests := true, laidLooks := .later }
def FloatRoundUptoCardSaid : Prop := Claim7.holds Tryz.pinned (.plain (OpenSpec.upto floatRoundSpec)) floatRoundUptoCard
end Rows
end Go.Proofs.YtjeaakkbkjhldaaGreatDoor
