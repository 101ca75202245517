/-
  DERIVED. GIVEN WITH THE SEED: THE CARDS: each row of YtgnmmpchdcccbaaGreatDoorRows.lean that lists a variable, with what it lists TIED to the program's text (the seventh form; the later family's looks); each row that meets fmt, with fmt's text TOLD by the authors' own Lean function (tested against real Go, not proved from fmt's source: count such statements apart). THE CARD IS WHAT COUNTS. Prove the row's statement (the work); the ties are given (YtgnmmpchdcccbaaGreatDoorTie.lean); close each card by the builder's one call (the guide's Derived/Test/ToyasCard.lean, 'card_holds'). Laid BY PROGRAM, IN A SANDBOX (cutbox-door.mjs). By AI agents, Wed Nov 11 2026. No macro, syntax, notation, axiom, sorry.
-/
import Derived.Test.YtgnmmpchdcccbaaGreatDoorRows
import GoSem.ClaimSeven
namespace Go.Proofs.YtgnmmpchdcccbaaGreatDoor
namespace Rows

/-- THE TIED CARD OF 'antecedelaw32.LinearForbids'. -/
def linearForbidsCard : Claim7 := { stood := { row := linearForbidsRow, standIns := [], harness := (true, "f4a69b291618970ef6713ccb79c18c708136c501d9b9b5f7a0f809f25c4e3f44"), looks := false }, kinds := [], alts := [], laidByText := true, laidKinds := [.data], laidTests := true, laidLooks := .later }
def LinearForbidsCardSaid : Prop := Claim7.holds Tryz.pinned (.plain (OpenSpec.ofChange linearForbidsSpec)) linearForbidsCard

/-- THE SECOND FORM's CARD OF 'antecedelaw32.LinearForbids'. -/
def linearForbidsUptoCard : Claim7 := { stood := { row := linearForbidsUptoRow, standIns := [], harness := (true, "f4a69b291618970ef6713ccb79c18c708136c501d9b9b5f7a0f809f25c4e3f44"), looks := false }, kinds := [], alts := [], laidByText := true, laidKinds := [.data], laidTests := true, laidLooks := .later }
def LinearForbidsUptoCardSaid : Prop := Claim7.holds Tryz.pinned (.plain (OpenSpec.upto linearForbidsSpec)) linearForbidsUptoCard
end Rows
end Go.Proofs.YtgnmmpchdcccbaaGreatDoor
