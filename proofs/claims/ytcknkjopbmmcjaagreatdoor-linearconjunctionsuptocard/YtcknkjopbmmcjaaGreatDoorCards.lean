/-
  DERIVED. GIVEN WITH THE SEED: THE CARDS: each row of YtcknkjopbmmcjaaGreatDoorRows.lean that lists a variable, with what it lists TIED to the program's text (the seventh form; the later family's looks); each row that meets fmt, with fmt's text TOLD by the authors' own Lean function (tested against real Go, not proved from fmt's source: count such statements apart). THE CARD IS WHAT COUNTS. Prove the row's statement (the work); the ties are given (YtcknkjopbmmcjaaGreatDoorTie.lean); close each card by the builder's one call (the guide's Derived/Test/ToyasCard.lean, 'card_holds'). Laid BY PROGRAM, IN A SANDBOX (cutbox-door.mjs). By AI agents, Wed Nov 11 2026. No macro, syntax, notation, axiom, sorry.
-/
import Derived.Test.YtcknkjopbmmcjaaGreatDoorRows
import GoSem.ClaimSeven
namespace Go.Proofs.YtcknkjopbmmcjaaGreatDoor
namespace Rows

/-- THE TIED CARD OF 'antecedelaw32.LinearConjunctions'. -/
def linearConjunctionsCard : Claim7 := { stood := { row := linearConjunctionsRow, standIns := [], harness := (true, "f06910cc131ea25248a63deaec6a5003e13c8ebdc562f6dbe6d2726d173de748"), looks := false }, kinds := [], alts := [], laidByText := true, laidKinds := [.data], laidTests := true, laidLooks := .later }
def LinearConjunctionsCardSaid : Prop := Claim7.holds Tryz.pinned (.plain (OpenSpec.ofChange linearConjunctionsSpec)) linearConjunctionsCard

/-- THE SECOND FORM's CARD OF 'antecedelaw32.LinearConjunctions'. -/
def linearConjunctionsUptoCard : Claim7 := { stood := { row := linearConjunctionsUptoRow, standIns := [], harness := (true, "f06910cc131ea25248a63deaec6a5003e13c8ebdc562f6dbe6d2726d173de748"), looks := false }, kinds := [], alts := [], laidByText := true, laidKinds := [.data], laidTests := true, laidLooks := .later }
def LinearConjunctionsUptoCardSaid : Prop := Claim7.holds Tryz.pinned (.plain (OpenSpec.upto linearConjunctionsSpec)) linearConjunctionsUptoCard
end Rows
end Go.Proofs.YtcknkjopbmmcjaaGreatDoor
