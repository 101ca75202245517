/-
  DERIVED. GIVEN WITH THE SEED: THE CARDS: each row of YtjlclfccbcbibaaGreatDoorRows.lean that lists a variable, with what it lists TIED to the program's text (the seventh form; the later family's looks); each row that meets fmt, with fmt's text TOLD by the authors' own Lean function (tested against real Go, not proved from fmt's source: count such statements apart). THE CARD IS WHAT COUNTS. Prove the row's statement (the work); the ties are given (YtjlclfccbcbibaaGreatDoorTie.lean); close each card by the builder's one call (the guide's Derived/Test/ToyasCard.lean, 'card_holds'). Laid BY PROGRAM, IN A SANDBOX (cutbox-door.mjs). By AI agents, Wed Nov 11 2026. No macro, syntax, notation, axiom, sorry.
-/
import Derived.Test.YtjlclfccbcbibaaGreatDoorRows
import GoSem.ClaimSeven
namespace Go.Proofs.YtjlclfccbcbibaaGreatDoor
namespace Rows

/-- THE TIED CARD OF 'antecedelaw41.TemporalShows'. -/
def temporalShowsCard : Claim7 := { stood := { row := temporalShowsRow, standIns := [], harness := (true, "a4348b33e005977859622b3385f63cc6e9bc206c2c6df578d338a530e23696e2"), looks := false }, kinds := [], alts := [], laidByText := true, laidKinds := [.data], laidTests := true, laidLooks := .later }
def TemporalShowsCardSaid : Prop := Claim7.holds Tryz.pinned (.plain (OpenSpec.ofChange temporalShowsSpec)) temporalShowsCard

/-- THE SECOND FORM's CARD OF 'antecedelaw41.TemporalShows'. -/
def temporalShowsUptoCard : Claim7 := { stood := { row := temporalShowsUptoRow, standIns := [], harness := (true, "a4348b33e005977859622b3385f63cc6e9bc206c2c6df578d338a530e23696e2"), looks := false }, kinds := [], alts := [], laidByText := true, laidKinds := [.data], laidTests := true, laidLooks := .later }
def TemporalShowsUptoCardSaid : Prop := Claim7.holds Tryz.pinned (.plain (OpenSpec.upto temporalShowsSpec)) temporalShowsUptoCard
end Rows
end Go.Proofs.YtjlclfccbcbibaaGreatDoor
