/-
  DERIVED. GIVEN WITH THE SEED: THE CARDS: each row of YtfjedefhlilglaaGreatDoorRows.lean that lists a variable, with what it lists TIED to the program's text (the seventh form; the later family's looks); each row that meets fmt, with fmt's text TOLD by the authors' own Lean function (tested against real Go, not proved from fmt's source: count such statements apart). THE CARD IS WHAT COUNTS. Prove the row's statement (the work); the ties are given (YtfjedefhlilglaaGreatDoorTie.lean); close each card by the builder's one call (the guide's Derived/Test/ToyasCard.lean, 'card_holds'). Laid BY PROGRAM, IN A SANDBOX (cutbox-door.mjs). By AI agents, Wed Nov 11 2026. No macro, syntax, notation, axiom, sorry.
-/
import Derived.Test.YtfjedefhlilglaaGreatDoorRows
import GoSem.ClaimSeven
namespace Go.Proofs.YtfjedefhlilglaaGreatDoor
namespace Rows

/-- THE TIED CARD OF 'antecedelaw32.LinearForbids'. -/
def linearForbidsCard : Claim7 := { stood := { row := linearForbidsRow, standIns := [], harness := (true, "e9e28aa6478dee934a54478dcd25c914310245255cd39dda2021557daed05ab1"), looks := false }, kinds := [], alts := [], laidByText := true, laidKinds := [.data], laidTests := true, laidLooks := .later }
def LinearForbidsCardSaid : Prop := Claim7.holds Tryz.pinned (.plain (OpenSpec.ofChange linearForbidsSpec)) linearForbidsCard

/-- THE TIED CARD OF 'antecedelaw32.LinearAdvances'. -/
def linearAdvancesCard : Claim7 := { stood := { row := linearAdvancesRow, standIns := [], harness := (true, "e9e28aa6478dee934a54478dcd25c914310245255cd39dda2021557daed05ab1"), looks := false }, kinds := [], alts := [], laidByText := true, laidKinds := [.data], laidTests := true, laidLooks := .later }
def LinearAdvancesCardSaid : Prop := Claim7.holds Tryz.pinned (.plain (OpenSpec.ofChange linearAdvancesSpec)) linearAdvancesCard

/-- THE TIED CARD OF 'antecedelaw32.LinearWays'. -/
def linearWaysCard : Claim7 := { stood := { row := linearWaysRow, standIns := [], harness := (true, "e9e28aa6478dee934a54478dcd25c914310245255cd39dda2021557daed05ab1"), looks := false }, kinds := [], alts := [], laidByText := true, laidKinds := [.data], laidTests := true, laidLooks := .later }
def LinearWaysCardSaid : Prop := Claim7.holds Tryz.pinned (.plain (OpenSpec.ofChange linearWaysSpec)) linearWaysCard

/-- THE TIED CARD OF 'antecedelaw32.LinearEnds'. -/
def linearEndsCard : Claim7 := { stood := { row := linearEndsRow, standIns := [], harness := (true, "e9e28aa6478dee934a54478dcd25c914310245255cd39dda2021557daed05ab1"), looks := false }, kinds := [], alts := [], laidByText := true, laidKinds := [.data], laidTests := true, laidLooks := .later }
def LinearEndsCardSaid : Prop := Claim7.holds Tryz.pinned (.plain (OpenSpec.ofChange linearEndsSpec)) linearEndsCard

/-- THE TIED CARD OF 'antecedelaw32.LinearLeast'. -/
def linearLeastCard : Claim7 := { stood := { row := linearLeastRow, standIns := [], harness := (true, "e9e28aa6478dee934a54478dcd25c914310245255cd39dda2021557daed05ab1"), looks := false }, kinds := [], alts := [], laidByText := true, laidKinds := [.data], laidTests := true, laidLooks := .later }
def LinearLeastCardSaid : Prop := Claim7.holds Tryz.pinned (.plain (OpenSpec.ofChange linearLeastSpec)) linearLeastCard

/-- THE TIED CARD OF 'antecedelaw32.LinearClass'. -/
def linearClassCard : Claim7 := { stood := { row := linearClassRow, standIns := [], harness := (true, "e9e28aa6478dee934a54478dcd25c914310245255cd39dda2021557daed05ab1"), looks := false }, kinds := [], alts := [], laidByText := true, laidKinds := [.data], laidTests := true, laidLooks := .later }
def LinearClassCardSaid : Prop := Claim7.holds Tryz.pinned (.plain (OpenSpec.ofChange linearClassSpec)) linearClassCard

/-- THE TIED CARD OF 'antecedelaw32.LinearConjunctions'. -/
def linearConjunctionsCard : Claim7 := { stood := { row := linearConjunctionsRow, standIns := [], harness := (true, "e9e28aa6478dee934a54478dcd25c914310245255cd39dda2021557daed05ab1"), looks := false }, kinds := [], alts := [], laidByText := true, laidKinds := [.data], laidTests := true, laidLooks := .later }
def LinearConjunctionsCardSaid : Prop := Claim7.holds Tryz.pinned (.plain (OpenSpec.ofChange linearConjunctionsSpec)) linearConjunctionsCard

/-- THE SECOND FORM's CARD OF 'antecedelaw32.LinearForbids'. -/
def linearForbidsUptoCard : Claim7 := { stood := { row := linearForbidsUptoRow, standIns := [], harness := (true, "e9e28aa6478dee934a54478dcd25c914310245255cd39dda2021557daed05ab1"), looks := false }, kinds := [], alts := [], laidByText := true, laidKinds := [.data], laidTests := true, laidLooks := .later }
def LinearForbidsUptoCardSaid : Prop := Claim7.holds Tryz.pinned (.plain (OpenSpec.upto linearForbidsSpec)) linearForbidsUptoCard

/-- THE SECOND FORM's CARD OF 'antecedelaw32.LinearAdvances'. -/
def linearAdvancesUptoCard : Claim7 := { stood := { row := linearAdvancesUptoRow, standIns := [], harness := (true, "e9e28aa6478dee934a54478dcd25c914310245255cd39dda2021557daed05ab1"), looks := false }, kinds := [], alts := [], laidByText := true, laidKinds := [.data], laidTests := true, laidLooks := .later }
def LinearAdvancesUptoCardSaid : Prop := Claim7.holds Tryz.pinned (.plain (OpenSpec.upto linearAdvancesSpec)) linearAdvancesUptoCard

/-- THE SECOND FORM's CARD OF 'antecedelaw32.LinearWays'. -/
def linearWaysUptoCard : Claim7 := { stood := { row := linearWaysUptoRow, standIns := [], harness := (true, "e9e28aa6478dee934a54478dcd25c914310245255cd39dda2021557daed05ab1"), looks := false }, kinds := [], alts := [], laidByText := true, laidKinds := [.data], laidTests := true, laidLooks := .later }
def LinearWaysUptoCardSaid : Prop := Claim7.holds Tryz.pinned (.plain (OpenSpec.upto linearWaysSpec)) linearWaysUptoCard

/-- THE SECOND FORM's CARD OF 'antecedelaw32.LinearEnds'. -/
def linearEndsUptoCard : Claim7 := { stood := { row := linearEndsUptoRow, standIns := [], harness := (true, "e9e28aa6478dee934a54478dcd25c914310245255cd39dda2021557daed05ab1"), looks := false }, kinds := [], alts := [], laidByText := true, laidKinds := [.data], laidTests := true, laidLooks := .later }
def LinearEndsUptoCardSaid : Prop := Claim7.holds Tryz.pinned (.plain (OpenSpec.upto linearEndsSpec)) linearEndsUptoCard

/-- THE SECOND FORM's CARD OF 'antecedelaw32.LinearLeast'. -/
def linearLeastUptoCard : Claim7 := { stood := { row := linearLeastUptoRow, standIns := [], harness := (true, "e9e28aa6478dee934a54478dcd25c914310245255cd39dda2021557daed05ab1"), looks := false }, kinds := [], alts := [], laidByText := true, laidKinds := [.data], laidTests := true, laidLooks := .later }
def LinearLeastUptoCardSaid : Prop := Claim7.holds Tryz.pinned (.plain (OpenSpec.upto linearLeastSpec)) linearLeastUptoCard

/-- THE SECOND FORM's CARD OF 'antecedelaw32.LinearClass'. -/
def linearClassUptoCard : Claim7 := { stood := { row := linearClassUptoRow, standIns := [], harness := (true, "e9e28aa6478dee934a54478dcd25c914310245255cd39dda2021557daed05ab1"), looks := false }, kinds := [], alts := [], laidByText := true, laidKinds := [.data], laidTests := true, laidLooks := .later }
def LinearClassUptoCardSaid : Prop := Claim7.holds Tryz.pinned (.plain (OpenSpec.upto linearClassSpec)) linearClassUptoCard

/-- THE SECOND FORM's CARD OF 'antecedelaw32.LinearConjunctions'. -/
def linearConjunctionsUptoCard : Claim7 := { stood := { row := linearConjunctionsUptoRow, standIns := [], harness := (true, "e9e28aa6478dee934a54478dcd25c914310245255cd39dda2021557daed05ab1"), looks := false }, kinds := [], alts := [], laidByText := true, laidKinds := [.data], laidTests := true, laidLooks := .later }
def LinearConjunctionsUptoCardSaid : Prop := Claim7.holds Tryz.pinned (.plain (OpenSpec.upto linearConjunctionsSpec)) linearConjunctionsUptoCard
end Rows
end Go.Proofs.YtfjedefhlilglaaGreatDoor
