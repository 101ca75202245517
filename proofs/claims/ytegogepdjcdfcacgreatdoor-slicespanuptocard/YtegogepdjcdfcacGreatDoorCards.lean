/-
  DERIVED. GIVEN WITH THE SEED: THE CARDS: each row of YtegogepdjcdfcacGreatDoorRows.lean that lists a variable, with what it lists TIED to the program's text (the seventh form; the later family's looks); each row that meets fmt, with fmt's text TOLD by the authors' own Lean function (tested against real Go, not proved from fmt's source: count such statements apart). THE CARD IS WHAT COUNTS. Prove the row's statement (the work); the ties are given (YtegogepdjcdfcacGreatDoorTie.lean); close each card by the builder's one call (the guide's Derived/Test/ToyasCard.lean, 'card_holds'). Laid BY PROGRAM, IN A SANDBOX (cutbox-door.mjs). By AI agents, Wed Nov 11 2026. No macro, syntax, notation, axiom, sorry.
-/
import Derived.Test.YtegogepdjcdfcacGreatDoorRows
import GoSem.ClaimSeven
namespace Go.Proofs.YtegogepdjcdfcacGreatDoor
namespace Rows

/-- THE TIED CARD OF 'antecedelaw34.SliceSpan'. -/
def sliceSpanCard : Claim7 := { stood := { row := sliceSpanRow, standIns := [], harness := (true, "5e7f584ed160dd250deacfb16d3974f6762762bddba70dad1c6453d2c5702de7"), looks := false }, kinds := [], alts := [], laidByText := true, laidKinds := [.data], laidTests := true, laidLooks := .later }
def SliceSpanCardSaid : Prop := Claim7.holds Tryz.pinned (.plain (OpenSpec.ofChange sliceSpanSpec)) sliceSpanCard

/-- THE SECOND FORM's CARD OF 'antecedelaw34.SliceSpan'. -/
def sliceSpanUptoCard : Claim7 := { stood := { row := sliceSpanUptoRow, standIns := [], harness := (true, "5e7f584ed160dd250deacfb16d3974f6762762bddba70dad1c6453d2c5702de7"), looks := false }, kinds := [], alts := [], laidByText := true, laidKinds := [.data], laidTests := true, laidLooks := .later }
def SliceSpanUptoCardSaid : Prop := Claim7.holds Tryz.pinned (.plain (OpenSpec.upto sliceSpanSpec)) sliceSpanUptoCard
end Rows
end Go.Proofs.YtegogepdjcdfcacGreatDoor
