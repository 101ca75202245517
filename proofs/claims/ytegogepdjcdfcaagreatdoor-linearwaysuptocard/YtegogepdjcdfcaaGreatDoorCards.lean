/-
  DERIVED. GIVEN WITH THE SEED: THE CARDS: each row of YtegogepdjcdfcaaGreatDoorRows.lean that lists a variable, with what it lists TIED to the program's text (the seventh form; the later family's looks); each row that meets fmt, with fmt's text TOLD by the authors' own Lean function (tested against real Go, not proved from fmt's source: count such statements apart). THE CARD IS WHAT COUNTS. Prove the row's statement (the work); the ties are given (YtegogepdjcdfcaaGreatDoorTie.lean); close each card by the builder's one call (the guide's Derived/Test/ToyasCard.lean, 'card_holds'). Laid BY PROGRAM, IN A SANDBOX (cutbox-door.mjs). By AI agents, Wed Nov 11 2026. No macro, syntax, notation, axiom, sorry.
-/
import Derived.Test.YtegogepdjcdfcaaGreatDoorRows
import GoSem.ClaimSeven
namespace Go.Proofs.YtegogepdjcdfcaaGreatDoor
namespace Rows

/-- THE TIED CARD OF 'antecedelaw32.LinearWays'. -/
def linearWaysCard : Claim7 := { stood := { row := linearWaysRow, standIns := [], harness := (true, "b5ab39b774da800dbb27014455f749bd05ab23e5002aeb1d04183806ee1321a5"), looks := false }, kinds := [], alts := [], laidByText := true, laidKinds := [.data], laidTests := true, laidLooks := .later }
def LinearWaysCardSaid : Prop := Claim7.holds Tryz.pinned (.plain (OpenSpec.ofChange linearWaysSpec)) linearWaysCard

/-- THE SECOND FORM's CARD OF 'antecedelaw32.LinearWays'. -/
def linearWaysUptoCard : Claim7 := { stood := { row := linearWaysUptoRow, standIns := [], harness := (true, "b5ab39b774da800dbb27014455f749bd05ab23e5002aeb1d04183806ee1321a5"), looks := false }, kinds := [], alts := [], laidByText := true, laidKinds := [.data], laidTests := true, laidLooks := .later }
def LinearWaysUptoCardSaid : Prop := Claim7.holds Tryz.pinned (.plain (OpenSpec.upto linearWaysSpec)) linearWaysUptoCard
end Rows
end Go.Proofs.YtegogepdjcdfcaaGreatDoor
