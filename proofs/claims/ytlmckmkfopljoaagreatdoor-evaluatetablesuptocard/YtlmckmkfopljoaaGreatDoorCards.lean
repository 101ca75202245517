/-
  DERIVED. GIVEN WITH THE SEED: THE CARDS: each row of YtlmckmkfopljoaaGreatDoorRows.lean that lists a variable, with what it lists TIED to the program's text (the seventh form; the later family's looks); each row that meets fmt, with fmt's text TOLD by the authors' own Lean function (tested against real Go, not proved from fmt's source: count such statements apart). THE CARD IS WHAT COUNTS. Prove the row's statement (the work); the ties are given (YtlmckmkfopljoaaGreatDoorTie.lean); close each card by the builder's one call (the guide's Derived/Test/ToyasCard.lean, 'card_holds'). Laid BY PROGRAM, IN A SANDBOX (cutbox-door.mjs). By AI agents, Wed Nov 11 2026. No macro, syntax, notation, axiom, sorry.
-/
import Derived.Test.YtlmckmkfopljoaaGreatDoorRows
import GoSem.ClaimSeven
namespace Go.Proofs.YtlmckmkfopljoaaGreatDoor
namespace Rows

/-- THE TIED CARD OF 'antecedelaw29.EvaluateCuts'. -/
def evaluateCutsCard : Claim7 := { stood := { row := evaluateCutsRow, standIns := [], harness := (true, "63ee802f9431e3ca1937f3eef58615fab8c159baba510532c80bf6e936502895"), looks := false }, kinds := [], alts := [], laidByText := true, laidKinds := [.data], laidTests := true, laidLooks := .later }
def EvaluateCutsCardSaid : Prop := Claim7.holds Tryz.pinned (.plain (OpenSpec.ofChange evaluateCutsSpec)) evaluateCutsCard

/-- THE TIED CARD OF 'antecedelaw29.EvaluateParts'. -/
def evaluatePartsCard : Claim7 := { stood := { row := evaluatePartsRow, standIns := [], harness := (true, "63ee802f9431e3ca1937f3eef58615fab8c159baba510532c80bf6e936502895"), looks := false }, kinds := [], alts := [], laidByText := true, laidKinds := [.data], laidTests := true, laidLooks := .later }
def EvaluatePartsCardSaid : Prop := Claim7.holds Tryz.pinned (.plain (OpenSpec.ofChange evaluatePartsSpec)) evaluatePartsCard

/-- THE TIED CARD OF 'antecedelaw29.EvaluateChannels'. -/
def evaluateChannelsCard : Claim7 := { stood := { row := evaluateChannelsRow, standIns := [], harness := (true, "63ee802f9431e3ca1937f3eef58615fab8c159baba510532c80bf6e936502895"), looks := false }, kinds := [], alts := [], laidByText := true, laidKinds := [.data], laidTests := true, laidLooks := .later }
def EvaluateChannelsCardSaid : Prop := Claim7.holds Tryz.pinned (.plain (OpenSpec.ofChange evaluateChannelsSpec)) evaluateChannelsCard

/-- THE TIED CARD OF 'antecedelaw29.EvaluateBounds'. -/
def evaluateBoundsCard : Claim7 := { stood := { row := evaluateBoundsRow, standIns := [], harness := (true, "63ee802f9431e3ca1937f3eef58615fab8c159baba510532c80bf6e936502895"), looks := false }, kinds := [], alts := [], laidByText := true, laidKinds := [.data], laidTests := true, laidLooks := .later }
def EvaluateBoundsCardSaid : Prop := Claim7.holds Tryz.pinned (.plain (OpenSpec.ofChange evaluateBoundsSpec)) evaluateBoundsCard

/-- THE TIED CARD OF 'antecedelaw29.EvaluateTables'. -/
def evaluateTablesCard : Claim7 := { stood := { row := evaluateTablesRow, standIns := [], harness := (true, "63ee802f9431e3ca1937f3eef58615fab8c159baba510532c80bf6e936502895"), looks := false }, kinds := [], alts := [], laidByText := true, laidKinds := [.data], laidTests := true, laidLooks := .later }
def EvaluateTablesCardSaid : Prop := Claim7.holds Tryz.pinned (.plain (OpenSpec.ofChange evaluateTablesSpec)) evaluateTablesCard

/-- THE TIED CARD OF 'antecedelaw29.EvaluateLocal'. -/
def evaluateLocalCard : Claim7 := { stood := { row := evaluateLocalRow, standIns := [], harness := (true, "63ee802f9431e3ca1937f3eef58615fab8c159baba510532c80bf6e936502895"), looks := false }, kinds := [], alts := [], laidByText := true, laidKinds := [.data], laidTests := true, laidLooks := .later }
def EvaluateLocalCardSaid : Prop := Claim7.holds Tryz.pinned (.plain (OpenSpec.ofChange evaluateLocalSpec)) evaluateLocalCard

/-- THE TIED CARD OF 'antecedelaw29.EvaluateStates'. -/
def evaluateStatesCard : Claim7 := { stood := { row := evaluateStatesRow, standIns := [], harness := (true, "63ee802f9431e3ca1937f3eef58615fab8c159baba510532c80bf6e936502895"), looks := false }, kinds := [], alts := [], laidByText := true, laidKinds := [.data], laidTests := true, laidLooks := .later }
def EvaluateStatesCardSaid : Prop := Claim7.holds Tryz.pinned (.plain (OpenSpec.ofChange evaluateStatesSpec)) evaluateStatesCard

/-- THE SECOND FORM's CARD OF 'antecedelaw29.EvaluateCuts'. -/
def evaluateCutsUptoCard : Claim7 := { stood := { row := evaluateCutsUptoRow, standIns := [], harness := (true, "63ee802f9431e3ca1937f3eef58615fab8c159baba510532c80bf6e936502895"), looks := false }, kinds := [], alts := [], laidByText := true, laidKinds := [.data], laidTests := true, laidLooks := .later }
def EvaluateCutsUptoCardSaid : Prop := Claim7.holds Tryz.pinned (.plain (OpenSpec.upto evaluateCutsSpec)) evaluateCutsUptoCard

/-- THE SECOND FORM's CARD OF 'antecedelaw29.EvaluateParts'. -/
def evaluatePartsUptoCard : Claim7 := { stood := { row := evaluatePartsUptoRow, standIns := [], harness := (true, "63ee802f9431e3ca1937f3eef58615fab8c159baba510532c80bf6e936502895"), looks := false }, kinds := [], alts := [], laidByText := true, laidKinds := [.data], laidTests := true, laidLooks := .later }
def EvaluatePartsUptoCardSaid : Prop := Claim7.holds Tryz.pinned (.plain (OpenSpec.upto evaluatePartsSpec)) evaluatePartsUptoCard

/-- THE SECOND FORM's CARD OF 'antecedelaw29.EvaluateChannels'. -/
def evaluateChannelsUptoCard : Claim7 := { stood := { row := evaluateChannelsUptoRow, standIns := [], harness := (true, "63ee802f9431e3ca1937f3eef58615fab8c159baba510532c80bf6e936502895"), looks := false }, kinds := [], alts := [], laidByText := true, laidKinds := [.data], laidTests := true, laidLooks := .later }
def EvaluateChannelsUptoCardSaid : Prop := Claim7.holds Tryz.pinned (.plain (OpenSpec.upto evaluateChannelsSpec)) evaluateChannelsUptoCard

/-- THE SECOND FORM's CARD OF 'antecedelaw29.EvaluateBounds'. -/
def evaluateBoundsUptoCard : Claim7 := { stood := { row := evaluateBoundsUptoRow, standIns := [], harness := (true, "63ee802f9431e3ca1937f3eef58615fab8c159baba510532c80bf6e936502895"), looks := false }, kinds := [], alts := [], laidByText := true, laidKinds := [.data], laidTests := true, laidLooks := .later }
def EvaluateBoundsUptoCardSaid : Prop := Claim7.holds Tryz.pinned (.plain (OpenSpec.upto evaluateBoundsSpec)) evaluateBoundsUptoCard

/-- THE SECOND FORM's CARD OF 'antecedelaw29.EvaluateTables'. -/
def evaluateTablesUptoCard : Claim7 := { stood := { row := evaluateTablesUptoRow, standIns := [], harness := (true, "63ee802f9431e3ca1937f3eef58615fab8c159baba510532c80bf6e936502895"), looks := false }, kinds := [], alts := [], laidByText := true, laidKinds := [.data], laidTests := true, laidLooks := .later }
def EvaluateTablesUptoCardSaid : Prop := Claim7.holds Tryz.pinned (.plain (OpenSpec.upto evaluateTablesSpec)) evaluateTablesUptoCard

/-- THE SECOND FORM's CARD OF 'antecedelaw29.EvaluateLocal'. -/
def evaluateLocalUptoCard : Claim7 := { stood := { row := evaluateLocalUptoRow, standIns := [], harness := (true, "63ee802f9431e3ca1937f3eef58615fab8c159baba510532c80bf6e936502895"), looks := false }, kinds := [], alts := [], laidByText := true, laidKinds := [.data], laidTests := true, laidLooks := .later }
def EvaluateLocalUptoCardSaid : Prop := Claim7.holds Tryz.pinned (.plain (OpenSpec.upto evaluateLocalSpec)) evaluateLocalUptoCard

/-- THE SECOND FORM's CARD OF 'antecedelaw29.EvaluateStates'. -/
def evaluateStatesUptoCard : Claim7 := { stood := { row := evaluateStatesUptoRow, standIns := [], harness := (true, "63ee802f9431e3ca1937f3eef58615fab8c159baba510532c80bf6e936502895"), looks := false }, kinds := [], alts := [], laidByText := true, laidKinds := [.data], laidTests := true, laidLooks := .later }
def EvaluateStatesUptoCardSaid : Prop := Claim7.holds Tryz.pinned (.plain (OpenSpec.upto evaluateStatesSpec)) evaluateStatesUptoCard
end Rows
end Go.Proofs.YtlmckmkfopljoaaGreatDoor
