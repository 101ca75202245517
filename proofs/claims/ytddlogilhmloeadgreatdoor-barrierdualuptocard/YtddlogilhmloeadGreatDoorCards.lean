/-
  DERIVED. GIVEN WITH THE SEED: THE CARDS: each row of YtddlogilhmloeadGreatDoorRows.lean that lists a variable, with what it lists TIED to the program's text (the seventh form; the later family's looks); each row that meets fmt, with fmt's text TOLD by the authors' own Lean function (tested against real Go, not proved from fmt's source: count such statements apart). THE CARD IS WHAT COUNTS. Prove the row's statement (the work); the ties are given (YtddlogilhmloeadGreatDoorTie.lean); close each card by the builder's one call (the guide's Derived/Test/ToyasCard.lean, 'card_holds'). Laid BY PROGRAM, IN A SANDBOX (cutbox-door.mjs). By AI agents, Wed Nov 11 2026. No macro, syntax, notation, axiom, sorry.
-/
import Derived.Test.YtddlogilhmloeadGreatDoorRows
import GoSem.ClaimSeven
namespace Go.Proofs.YtddlogilhmloeadGreatDoor
namespace Rows

/-- THE TIED CARD OF 'antecedelaw42.BarrierDual'. -/
def barrierDualCard : Claim7 := { stood := { row := barrierDualRow, standIns := [], harness := (true, "591a6342d57dc3585d1cae9ffeeece0fa55e62c055197f86df8fd4cae26a9066"), looks := false }, kinds := [], alts := [], laidByText := true, laidKinds := [.data], laidTests := true, laidLooks := .later }
def BarrierDualCardSaid : Prop := Claim7.holds Tryz.pinned (.plain (OpenSpec.ofChange barrierDualSpec)) barrierDualCard

/-- THE SECOND FORM's CARD OF 'antecedelaw42.BarrierDual'. -/
def barrierDualUptoCard : Claim7 := { stood := { row := barrierDualUptoRow, standIns := [], harness := (true, "591a6342d57dc3585d1cae9ffeeece0fa55e62c055197f86df8fd4cae26a9066"), looks := false }, kinds := [], alts := [], laidByText := true, laidKinds := [.data], laidTests := true, laidLooks := .later }
def BarrierDualUptoCardSaid : Prop := Claim7.holds Tryz.pinned (.plain (OpenSpec.upto barrierDualSpec)) barrierDualUptoCard
end Rows
end Go.Proofs.YtddlogilhmloeadGreatDoor
