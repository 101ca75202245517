/-
  DERIVED. GIVEN WITH THE SEED: THE CARDS: each row of YtlhegnhabpldfaaGreatDoorRows.lean that lists a variable, with what it lists TIED to the program's text (the seventh form; the later family's looks); each row that meets fmt, with fmt's text TOLD by the authors' own Lean function (tested against real Go, not proved from fmt's source: count such statements apart). THE CARD IS WHAT COUNTS. Prove the row's statement (the work); the ties are given (YtlhegnhabpldfaaGreatDoorTie.lean); close each card by the builder's one call (the guide's Derived/Test/ToyasCard.lean, 'card_holds'). Laid BY PROGRAM, IN A SANDBOX (cutbox-door.mjs). By AI agents, Wed Nov 11 2026. No macro, syntax, notation, axiom, sorry.
-/
import Derived.Test.YtlhegnhabpldfaaGreatDoorRows
import GoSem.ClaimSeven
namespace Go.Proofs.YtlhegnhabpldfaaGreatDoor
namespace Rows

/-- THE TIED CARD OF 'antecedelaw42.BarrierThin'. -/
def barrierThinCard : Claim7 := { stood := { row := barrierThinRow, standIns := [], harness := (true, "b0dedc06191a3304aeba2045b069525211237e5b961da17c812096d0feecbcd7"), looks := false }, kinds := [], alts := [], laidByText := true, laidKinds := [.data], laidTests := true, laidLooks := .later }
def BarrierThinCardSaid : Prop := Claim7.holds Tryz.pinned (.plain (OpenSpec.ofChange barrierThinSpec)) barrierThinCard

/-- THE TIED CARD OF 'antecedelaw42.BarrierNear'. -/
def barrierNearCard : Claim7 := { stood := { row := barrierNearRow, standIns := [], harness := (true, "b0dedc06191a3304aeba2045b069525211237e5b961da17c812096d0feecbcd7"), looks := false }, kinds := [], alts := [], laidByText := true, laidKinds := [.data], laidTests := true, laidLooks := .later }
def BarrierNearCardSaid : Prop := Claim7.holds Tryz.pinned (.plain (OpenSpec.ofChange barrierNearSpec)) barrierNearCard

/-- THE SECOND FORM's CARD OF 'antecedelaw42.BarrierThin'. -/
def barrierThinUptoCard : Claim7 := { stood := { row := barrierThinUptoRow, standIns := [], harness := (true, "b0dedc06191a3304aeba2045b069525211237e5b961da17c812096d0feecbcd7"), looks := false }, kinds := [], alts := [], laidByText := true, laidKinds := [.data], laidTests := true, laidLooks := .later }
def BarrierThinUptoCardSaid : Prop := Claim7.holds Tryz.pinned (.plain (OpenSpec.upto barrierThinSpec)) barrierThinUptoCard

/-- THE SECOND FORM's CARD OF 'antecedelaw42.BarrierNear'. -/
def barrierNearUptoCard : Claim7 := { stood := { row := barrierNearUptoRow, standIns := [], harness := (true, "b0dedc06191a3304aeba2045b069525211237e5b961da17c812096d0feecbcd7"), looks := false }, kinds := [], alts := [], laidByText := true, laidKinds := [.data], laidTests := true, laidLooks := .later }
def BarrierNearUptoCardSaid : Prop := Claim7.holds Tryz.pinned (.plain (OpenSpec.upto barrierNearSpec)) barrierNearUptoCard
end Rows
end Go.Proofs.YtlhegnhabpldfaaGreatDoor
