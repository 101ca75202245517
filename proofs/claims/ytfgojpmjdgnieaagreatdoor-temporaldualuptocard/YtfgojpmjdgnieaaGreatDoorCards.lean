/-
  DERIVED. GIVEN WITH THE SEED: THE CARDS: each row of YtfgojpmjdgnieaaGreatDoorRows.lean that lists a variable, with what it lists TIED to the program's text (the seventh form; the later family's looks); each row that meets fmt, with fmt's text TOLD by the authors' own Lean function (tested against real Go, not proved from fmt's source: count such statements apart). THE CARD IS WHAT COUNTS. Prove the row's statement (the work); the ties are given (YtfgojpmjdgnieaaGreatDoorTie.lean); close each card by the builder's one call (the guide's Derived/Test/ToyasCard.lean, 'card_holds'). Laid BY PROGRAM, IN A SANDBOX (cutbox-door.mjs). By AI agents, Wed Nov 11 2026. No macro, syntax, notation, axiom, sorry.
-/
import Derived.Test.YtfgojpmjdgnieaaGreatDoorRows
import GoSem.ClaimSeven
namespace Go.Proofs.YtfgojpmjdgnieaaGreatDoor
namespace Rows

/-- THE TIED CARD OF 'antecedelaw41.TemporalDual'. -/
def temporalDualCard : Claim7 := { stood := { row := temporalDualRow, standIns := [], harness := (true, "05a099fe5fec9cc397b86330b9d19d950bef096d349b77892a7919bb3f96f050"), looks := false }, kinds := [], alts := [], laidByText := true, laidKinds := [.data], laidTests := true, laidLooks := .later }
def TemporalDualCardSaid : Prop := Claim7.holds Tryz.pinned (.plain (OpenSpec.ofChange temporalDualSpec)) temporalDualCard

/-- THE SECOND FORM's CARD OF 'antecedelaw41.TemporalDual'. -/
def temporalDualUptoCard : Claim7 := { stood := { row := temporalDualUptoRow, standIns := [], harness := (true, "05a099fe5fec9cc397b86330b9d19d950bef096d349b77892a7919bb3f96f050"), looks := false }, kinds := [], alts := [], laidByText := true, laidKinds := [.data], laidTests := true, laidLooks := .later }
def TemporalDualUptoCardSaid : Prop := Claim7.holds Tryz.pinned (.plain (OpenSpec.upto temporalDualSpec)) temporalDualUptoCard
end Rows
end Go.Proofs.YtfgojpmjdgnieaaGreatDoor
