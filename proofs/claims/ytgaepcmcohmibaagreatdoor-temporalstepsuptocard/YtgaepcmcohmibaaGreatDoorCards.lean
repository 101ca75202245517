/-
  DERIVED. GIVEN WITH THE SEED: THE CARDS: each row of YtgaepcmcohmibaaGreatDoorRows.lean that lists a variable, with what it lists TIED to the program's text (the seventh form; the later family's looks); each row that meets fmt, with fmt's text TOLD by the authors' own Lean function (tested against real Go, not proved from fmt's source: count such statements apart). THE CARD IS WHAT COUNTS. Prove the row's statement (the work); the ties are given (YtgaepcmcohmibaaGreatDoorTie.lean); close each card by the builder's one call (the guide's Derived/Test/ToyasCard.lean, 'card_holds'). Laid BY PROGRAM, IN A SANDBOX (cutbox-door.mjs). By AI agents, Wed Nov 11 2026. No macro, syntax, notation, axiom, sorry.
-/
import Derived.Test.YtgaepcmcohmibaaGreatDoorRows
import GoSem.ClaimSeven
namespace Go.Proofs.YtgaepcmcohmibaaGreatDoor
namespace Rows

/-- THE TIED CARD OF 'antecedelaw41.TemporalSteps'. -/
def temporalStepsCard : Claim7 := { stood := { row := temporalStepsRow, standIns := [], harness := (true, "878dbf9262a206fe6c87420acf810696a7d7f0ad8ddfedd6e9a238507ab3d4d6"), looks := false }, kinds := [], alts := [], laidByText := true, laidKinds := [.data], laidTests := true, laidLooks := .later }
def TemporalStepsCardSaid : Prop := Claim7.holds Tryz.pinned (.plain (OpenSpec.ofChange temporalStepsSpec)) temporalStepsCard

/-- THE SECOND FORM's CARD OF 'antecedelaw41.TemporalSteps'. -/
def temporalStepsUptoCard : Claim7 := { stood := { row := temporalStepsUptoRow, standIns := [], harness := (true, "878dbf9262a206fe6c87420acf810696a7d7f0ad8ddfedd6e9a238507ab3d4d6"), looks := false }, kinds := [], alts := [], laidByText := true, laidKinds := [.data], laidTests := true, laidLooks := .later }
def TemporalStepsUptoCardSaid : Prop := Claim7.holds Tryz.pinned (.plain (OpenSpec.upto temporalStepsSpec)) temporalStepsUptoCard
end Rows
end Go.Proofs.YtgaepcmcohmibaaGreatDoor
