/-
  DERIVED. GIVEN WITH THE SEED: THE CARDS: each row of YtjbnbbbiijdbpaaGreatDoorRows.lean that lists a variable, with what it lists TIED to the program's text (the seventh form; the later family's looks); each row that meets fmt, with fmt's text TOLD by the authors' own Lean function (tested against real Go, not proved from fmt's source: count such statements apart). THE CARD IS WHAT COUNTS. Prove the row's statement (the work); the ties are given (YtjbnbbbiijdbpaaGreatDoorTie.lean); close each card by the builder's one call (the guide's Derived/Test/ToyasCard.lean, 'card_holds'). Laid BY PROGRAM, IN A SANDBOX (cutbox-door.mjs). By AI agents, Wed Nov 11 2026. No macro, syntax, notation, axiom, sorry.
-/
import Derived.Test.YtjbnbbbiijdbpaaGreatDoorRows
import GoSem.ClaimSeven
namespace Go.Proofs.YtjbnbbbiijdbpaaGreatDoor
namespace Rows

/-- THE TIED CARD OF 'antecedelaw34.SliceLists'. -/
def sliceListsCard : Claim7 := { stood := { row := sliceListsRow, standIns := [], harness := (true, "cb81ba3e1dae3f82404f4d3060634716180e8ea6e218cfaaf2458e6da9108c8f"), looks := false }, kinds := [], alts := [], laidByText := true, laidKinds := [.data], laidTests := true, laidLooks := .later }
def SliceListsCardSaid : Prop := Claim7.holds Tryz.pinned (.plain (OpenSpec.ofChange sliceListsSpec)) sliceListsCard

/-- THE TIED CARD OF 'antecedelaw34.SliceForms'. -/
def sliceFormsCard : Claim7 := { stood := { row := sliceFormsRow, standIns := [], harness := (true, "cb81ba3e1dae3f82404f4d3060634716180e8ea6e218cfaaf2458e6da9108c8f"), looks := false }, kinds := [], alts := [], laidByText := true, laidKinds := [.data], laidTests := true, laidLooks := .later }
def SliceFormsCardSaid : Prop := Claim7.holds Tryz.pinned (.plain (OpenSpec.ofChange sliceFormsSpec)) sliceFormsCard

/-- THE TIED CARD OF 'antecedelaw34.SliceOrders'. -/
def sliceOrdersCard : Claim7 := { stood := { row := sliceOrdersRow, standIns := [], harness := (true, "cb81ba3e1dae3f82404f4d3060634716180e8ea6e218cfaaf2458e6da9108c8f"), looks := false }, kinds := [], alts := [], laidByText := true, laidKinds := [.data], laidTests := true, laidLooks := .later }
def SliceOrdersCardSaid : Prop := Claim7.holds Tryz.pinned (.plain (OpenSpec.ofChange sliceOrdersSpec)) sliceOrdersCard

/-- THE TIED CARD OF 'antecedelaw34.SliceLattice'. -/
def sliceLatticeCard : Claim7 := { stood := { row := sliceLatticeRow, standIns := [], harness := (true, "cb81ba3e1dae3f82404f4d3060634716180e8ea6e218cfaaf2458e6da9108c8f"), looks := false }, kinds := [], alts := [], laidByText := true, laidKinds := [.data], laidTests := true, laidLooks := .later }
def SliceLatticeCardSaid : Prop := Claim7.holds Tryz.pinned (.plain (OpenSpec.ofChange sliceLatticeSpec)) sliceLatticeCard

/-- THE TIED CARD OF 'antecedelaw34.SliceParts'. -/
def slicePartsCard : Claim7 := { stood := { row := slicePartsRow, standIns := [], harness := (true, "cb81ba3e1dae3f82404f4d3060634716180e8ea6e218cfaaf2458e6da9108c8f"), looks := false }, kinds := [], alts := [], laidByText := true, laidKinds := [.data], laidTests := true, laidLooks := .later }
def SlicePartsCardSaid : Prop := Claim7.holds Tryz.pinned (.plain (OpenSpec.ofChange slicePartsSpec)) slicePartsCard

/-- THE TIED CARD OF 'antecedelaw34.SliceSpan'. -/
def sliceSpanCard : Claim7 := { stood := { row := sliceSpanRow, standIns := [], harness := (true, "cb81ba3e1dae3f82404f4d3060634716180e8ea6e218cfaaf2458e6da9108c8f"), looks := false }, kinds := [], alts := [], laidByText := true, laidKinds := [.data], laidTests := true, laidLooks := .later }
def SliceSpanCardSaid : Prop := Claim7.holds Tryz.pinned (.plain (OpenSpec.ofChange sliceSpanSpec)) sliceSpanCard

/-- THE SECOND FORM's CARD OF 'antecedelaw34.SliceLists'. -/
def sliceListsUptoCard : Claim7 := { stood := { row := sliceListsUptoRow, standIns := [], harness := (true, "cb81ba3e1dae3f82404f4d3060634716180e8ea6e218cfaaf2458e6da9108c8f"), looks := false }, kinds := [], alts := [], laidByText := true, laidKinds := [.data], laidTests := true, laidLooks := .later }
def SliceListsUptoCardSaid : Prop := Claim7.holds Tryz.pinned (.plain (OpenSpec.upto sliceListsSpec)) sliceListsUptoCard

/-- THE SECOND FORM's CARD OF 'antecedelaw34.SliceForms'. -/
def sliceFormsUptoCard : Claim7 := { stood := { row := sliceFormsUptoRow, standIns := [], harness := (true, "cb81ba3e1dae3f82404f4d3060634716180e8ea6e218cfaaf2458e6da9108c8f"), looks := false }, kinds := [], alts := [], laidByText := true, laidKinds := [.data], laidTests := true, laidLooks := .later }
def SliceFormsUptoCardSaid : Prop := Claim7.holds Tryz.pinned (.plain (OpenSpec.upto sliceFormsSpec)) sliceFormsUptoCard

/-- THE SECOND FORM's CARD OF 'antecedelaw34.SliceOrders'. -/
def sliceOrdersUptoCard : Claim7 := { stood := { row := sliceOrdersUptoRow, standIns := [], harness := (true, "cb81ba3e1dae3f82404f4d3060634716180e8ea6e218cfaaf2458e6da9108c8f"), looks := false }, kinds := [], alts := [], laidByText := true, laidKinds := [.data], laidTests := true, laidLooks := .later }
def SliceOrdersUptoCardSaid : Prop := Claim7.holds Tryz.pinned (.plain (OpenSpec.upto sliceOrdersSpec)) sliceOrdersUptoCard

/-- THE SECOND FORM's CARD OF 'antecedelaw34.SliceLattice'. -/
def sliceLatticeUptoCard : Claim7 := { stood := { row := sliceLatticeUptoRow, standIns := [], harness := (true, "cb81ba3e1dae3f82404f4d3060634716180e8ea6e218cfaaf2458e6da9108c8f"), looks := false }, kinds := [], alts := [], laidByText := true, laidKinds := [.data], laidTests := true, laidLooks := .later }
def SliceLatticeUptoCardSaid : Prop := Claim7.holds Tryz.pinned (.plain (OpenSpec.upto sliceLatticeSpec)) sliceLatticeUptoCard

/-- THE SECOND FORM's CARD OF 'antecedelaw34.SliceParts'. -/
def slicePartsUptoCard : Claim7 := { stood := { row := slicePartsUptoRow, standIns := [], harness := (true, "cb81ba3e1dae3f82404f4d3060634716180e8ea6e218cfaaf2458e6da9108c8f"), looks := false }, kinds := [], alts := [], laidByText := true, laidKinds := [.data], laidTests := true, laidLooks := .later }
def SlicePartsUptoCardSaid : Prop := Claim7.holds Tryz.pinned (.plain (OpenSpec.upto slicePartsSpec)) slicePartsUptoCard

/-- THE SECOND FORM's CARD OF 'antecedelaw34.SliceSpan'. -/
def sliceSpanUptoCard : Claim7 := { stood := { row := sliceSpanUptoRow, standIns := [], harness := (true, "cb81ba3e1dae3f82404f4d3060634716180e8ea6e218cfaaf2458e6da9108c8f"), looks := false }, kinds := [], alts := [], laidByText := true, laidKinds := [.data], laidTests := true, laidLooks := .later }
def SliceSpanUptoCardSaid : Prop := Claim7.holds Tryz.pinned (.plain (OpenSpec.upto sliceSpanSpec)) sliceSpanUptoCard
end Rows
end Go.Proofs.YtjbnbbbiijdbpaaGreatDoor
