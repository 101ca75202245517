/-
  DERIVED. GIVEN WITH THE SEED: THE CARDS: each row of YtbglidfgdmhlnaaGreatDoorRows.lean that lists a variable, with what it lists TIED to the program's text (the seventh form; the later family's looks); each row that meets fmt, with fmt's text TOLD by the authors' own Lean function (tested against real Go, not proved from fmt's source: count such statements apart). THE CARD IS WHAT COUNTS. Prove the row's statement (the work); the ties are given (YtbglidfgdmhlnaaGreatDoorTie.lean); close each card by the builder's one call (the guide's Derived/Test/ToyasCard.lean, 'card_holds'). Laid BY PROGRAM, IN A SANDBOX (cutbox-door.mjs). By AI agents, Wed Nov 11 2026. No macro, syntax, notation, axiom, sorry.
-/
import Derived.Test.YtbglidfgdmhlnaaGreatDoorRows
import GoSem.ClaimSeven
namespace Go.Proofs.YtbglidfgdmhlnaaGreatDoor
namespace Rows

/-- THE TIED CARD OF 'antecedelaw32.LinearEnds'. -/
def linearEndsCard : Claim7 := { stood := { row := linearEndsRow, standIns := [], harness := (true, "444fd35d3fdc4a308893bacb9a173004e1fd8dd811d12ca5d3ef73cebd91cb5e"), looks := false }, kinds := [], alts := [], laidByText := true, laidKinds := [.data], laidTests := true, laidLooks := .later }
def LinearEndsCardSaid : Prop := Claim7.holds Tryz.pinned (.plain (OpenSpec.ofChange linearEndsSpec)) linearEndsCard

/-- THE SECOND FORM's CARD OF 'antecedelaw32.LinearEnds'. -/
def linearEndsUptoCard : Claim7 := { stood := { row := linearEndsUptoRow, standIns := [], harness := (true, "444fd35d3fdc4a308893bacb9a173004e1fd8dd811d12ca5d3ef73cebd91cb5e"), looks := false }, kinds := [], alts := [], laidByText := true, laidKinds := [.data], laidTests := true, laidLooks := .later }
def LinearEndsUptoCardSaid : Prop := Claim7.holds Tryz.pinned (.plain (OpenSpec.upto linearEndsSpec)) linearEndsUptoCard
end Rows
end Go.Proofs.YtbglidfgdmhlnaaGreatDoor
