/-
  DERIVED. GIVEN WITH THE SEED: THE CARDS: each row of YtknifbdijcocpaaGreatDoorRows.lean that lists a variable, with what it lists TIED to the program's text (the seventh form; the later family's looks); each row that meets fmt, with fmt's text TOLD by the authors' own Lean function (tested against real Go, not proved from fmt's source: count such statements apart). THE CARD IS WHAT COUNTS. Prove the row's statement (the work); the ties are given (YtknifbdijcocpaaGreatDoorTie.lean); close each card by the builder's one call (the guide's Derived/Test/ToyasCard.lean, 'card_holds'). Laid BY PROGRAM, IN A SANDBOX (cutbox-door.mjs). By AI agents, Wed Nov 11 2026. No macro, syntax, notation, axiom, sorry.
-/
import Derived.Test.YtknifbdijcocpaaGreatDoorRows
import GoSem.ClaimSeven
namespace Go.Proofs.YtknifbdijcocpaaGreatDoor
namespace Rows

/-- THE TIED CARD OF 'antecedelaw32.LinearLater'. -/
def linearLaterCard : Claim7 := { stood := { row := linearLaterRow, standIns := [], harness := (true, "ab1b75163a947068053c1ed8cdce59e76501c693b918b6dd58f51541e773ff5c"), looks := false }, kinds := [], alts := [], laidByText := true, laidKinds := [.data], laidTests := true, laidLooks := .later }
def LinearLaterCardSaid : Prop := Claim7.holds Tryz.pinned (.plain (OpenSpec.ofChange linearLaterSpec)) linearLaterCard

/-- THE SECOND FORM's CARD OF 'antecedelaw32.LinearLater'. -/
def linearLaterUptoCard : Claim7 := { stood := { row := linearLaterUptoRow, standIns := [], harness := (true, "ab1b75163a947068053c1ed8cdce59e76501c693b918b6dd58f51541e773ff5c"), looks := false }, kinds := [], alts := [], laidByText := true, laidKinds := [.data], laidTests := true, laidLooks := .later }
def LinearLaterUptoCardSaid : Prop := Claim7.holds Tryz.pinned (.plain (OpenSpec.upto linearLaterSpec)) linearLaterUptoCard
end Rows
end Go.Proofs.YtknifbdijcocpaaGreatDoor
