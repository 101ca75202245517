/-
  DERIVED. GIVEN WITH THE SEED: THE CARDS: each row of YtddlogilhmloeabGreatDoorRows.lean that lists a variable, with what it lists TIED to the program's text (the seventh form; the later family's looks); each row that meets fmt, with fmt's text TOLD by the authors' own Lean function (tested against real Go, not proved from fmt's source: count such statements apart). THE CARD IS WHAT COUNTS. Prove the row's statement (the work); the ties are given (YtddlogilhmloeabGreatDoorTie.lean); close each card by the builder's one call (the guide's Derived/Test/ToyasCard.lean, 'card_holds'). Laid BY PROGRAM, IN A SANDBOX (cutbox-door.mjs). By AI agents, Wed Nov 11 2026. No macro, syntax, notation, axiom, sorry.
-/
import Derived.Test.YtddlogilhmloeabGreatDoorRows
import GoSem.ClaimSeven
namespace Go.Proofs.YtddlogilhmloeabGreatDoor
namespace Rows

/-- THE TIED CARD OF 'antecedelaw41.TemporalTables'. -/
def temporalTablesCard : Claim7 := { stood := { row := temporalTablesRow, standIns := [], harness := (true, "606f0a947bcf4818f846810c41f4e63137721b0453ec4d07f3f911ab39c90cbe"), looks := false }, kinds := [], alts := [], laidByText := true, laidKinds := [.data], laidTests := true, laidLooks := .later }
def TemporalTablesCardSaid : Prop := Claim7.holds Tryz.pinned (.plain (OpenSpec.ofChange temporalTablesSpec)) temporalTablesCard

/-- THE SECOND FORM's CARD OF 'antecedelaw41.TemporalTables'. -/
def temporalTablesUptoCard : Claim7 := { stood := { row := temporalTablesUptoRow, standIns := [], harness := (true, "606f0a947bcf4818f846810c41f4e63137721b0453ec4d07f3f911ab39c90cbe"), looks := false }, kinds := [], alts := [], laidByText := true, laidKinds := [.data], laidTests := true, laidLooks := .later }
def TemporalTablesUptoCardSaid : Prop := Claim7.holds Tryz.pinned (.plain (OpenSpec.upto temporalTablesSpec)) temporalTablesUptoCard
end Rows
end Go.Proofs.YtddlogilhmloeabGreatDoor
