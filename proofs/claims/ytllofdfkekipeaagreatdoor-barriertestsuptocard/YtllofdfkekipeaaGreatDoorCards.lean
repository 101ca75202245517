/-
  DERIVED. GIVEN WITH THE SEED: THE CARDS: each row of YtllofdfkekipeaaGreatDoorRows.lean that lists a variable, with what it lists TIED to the program's text (the seventh form; the later family's looks); each row that meets fmt, with fmt's text TOLD by the authors' own Lean function (tested against real Go, not proved from fmt's source: count such statements apart). THE CARD IS WHAT COUNTS. Prove the row's statement (the work); the ties are given (YtllofdfkekipeaaGreatDoorTie.lean); close each card by the builder's one call (the guide's Derived/Test/ToyasCard.lean, 'card_holds'). Laid BY PROGRAM, IN A SANDBOX (cutbox-door.mjs). By AI agents, Wed Nov 11 2026. No macro, syntax, notation, axiom, sorry.
-/
import Derived.Test.YtllofdfkekipeaaGreatDoorRows
import GoSem.ClaimSeven
namespace Go.Proofs.YtllofdfkekipeaaGreatDoor
namespace Rows

/-- THE TIED CARD OF 'antecedelaw42.BarrierTests'. -/
def barrierTestsCard : Claim7 := { stood := { row := barrierTestsRow, standIns := [], harness := (true, "810c9f2b56d1ff84fa0101ac5e4b38d393a3c56b4abc8e1c6bc632354b06cd98"), looks := false }, kinds := [], alts := [], laidByText := true, laidKinds := [.data], laidTests := true, laidLooks := .later }
def BarrierTestsCardSaid : Prop := Claim7.holds Tryz.pinned (.plain (OpenSpec.ofChange barrierTestsSpec)) barrierTestsCard

/-- THE SECOND FORM's CARD OF 'antecedelaw42.BarrierTests'. -/
def barrierTestsUptoCard : Claim7 := { stood := { row := barrierTestsUptoRow, standIns := [], harness := (true, "810c9f2b56d1ff84fa0101ac5e4b38d393a3c56b4abc8e1c6bc632354b06cd98"), looks := false }, kinds := [], alts := [], laidByText := true, laidKinds := [.data], laidTests := true, laidLooks := .later }
def BarrierTestsUptoCardSaid : Prop := Claim7.holds Tryz.pinned (.plain (OpenSpec.upto barrierTestsSpec)) barrierTestsUptoCard
end Rows
end Go.Proofs.YtllofdfkekipeaaGreatDoor
