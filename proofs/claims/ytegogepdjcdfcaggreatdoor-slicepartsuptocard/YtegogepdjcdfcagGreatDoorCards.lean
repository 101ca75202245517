/-
  DERIVED. GIVEN WITH THE SEED: THE CARDS: each row of YtegogepdjcdfcagGreatDoorRows.lean that lists a variable, with what it lists TIED to the program's text (the seventh form; the later family's looks); each row that meets fmt, with fmt's text TOLD by the authors' own Lean function (tested against real Go, not proved from fmt's source: count such statements apart). THE CARD IS WHAT COUNTS. Prove the row's statement (the work); the ties are given (YtegogepdjcdfcagGreatDoorTie.lean); close each card by the builder's one call (the guide's Derived/Test/ToyasCard.lean, 'card_holds'). Laid BY PROGRAM, IN A SANDBOX (cutbox-door.mjs). By AI agents, Wed Nov 11 2026. No macro, syntax, notation, axiom, sorry.
-/
import Derived.Test.YtegogepdjcdfcagGreatDoorRows
import GoSem.ClaimSeven
namespace Go.Proofs.YtegogepdjcdfcagGreatDoor
namespace Rows

/-- THE TIED CARD OF 'antecedelaw34.SliceParts'. -/
def slicePartsCard : Claim7 := { stood := { row := slicePartsRow, standIns := [], harness := (true, "0793c84d429809e76bde38af6d1698d074a75a16a5c64d509ccb9be406b69df0"), looks := false }, kinds := [], alts := [], laidByText := true, laidKinds := [.data], laidTests := true, laidLooks := .later }
def SlicePartsCardSaid : Prop := Claim7.holds Tryz.pinned (.plain (OpenSpec.ofChange slicePartsSpec)) slicePartsCard

/-- THE SECOND FORM's CARD OF 'antecedelaw34.SliceParts'. -/
def slicePartsUptoCard : Claim7 := { stood := { row := slicePartsUptoRow, standIns := [], harness := (true, "0793c84d429809e76bde38af6d1698d074a75a16a5c64d509ccb9be406b69df0"), looks := false }, kinds := [], alts := [], laidByText := true, laidKinds := [.data], laidTests := true, laidLooks := .later }
def SlicePartsUptoCardSaid : Prop := Claim7.holds Tryz.pinned (.plain (OpenSpec.upto slicePartsSpec)) slicePartsUptoCard
end Rows
end Go.Proofs.YtegogepdjcdfcagGreatDoor
