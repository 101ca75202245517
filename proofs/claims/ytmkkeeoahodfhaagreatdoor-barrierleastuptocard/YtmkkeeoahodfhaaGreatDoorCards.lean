/-
  DERIVED. GIVEN WITH THE SEED: THE CARDS: each row of YtmkkeeoahodfhaaGreatDoorRows.lean that lists a variable, with what it lists TIED to the program's text (the seventh form; the later family's looks); each row that meets fmt, with fmt's text TOLD by the authors' own Lean function (tested against real Go, not proved from fmt's source: count such statements apart). THE CARD IS WHAT COUNTS. Prove the row's statement (the work); the ties are given (YtmkkeeoahodfhaaGreatDoorTie.lean); close each card by the builder's one call (the guide's Derived/Test/ToyasCard.lean, 'card_holds'). Laid BY PROGRAM, IN A SANDBOX (cutbox-door.mjs). By AI agents, Wed Nov 11 2026. No macro, syntax, notation, axiom, sorry.
-/
import Derived.Test.YtmkkeeoahodfhaaGreatDoorRows
import GoSem.ClaimSeven
namespace Go.Proofs.YtmkkeeoahodfhaaGreatDoor
namespace Rows

/-- THE TIED CARD OF 'antecedelaw41.TemporalSteps'. -/
def temporalStepsCard : Claim7 := { stood := { row := temporalStepsRow, standIns := [], harness := (true, "300f60df6dc180521aafcc9f276f17963980e5f66337d8f7438177c5e25f7943"), looks := false }, kinds := [], alts := [], laidByText := true, laidKinds := [.data], laidTests := true, laidLooks := .later }
def TemporalStepsCardSaid : Prop := Claim7.holds Tryz.pinned (.plain (OpenSpec.ofChange temporalStepsSpec)) temporalStepsCard

/-- THE TIED CARD OF 'antecedelaw41.TemporalDual'. -/
def temporalDualCard : Claim7 := { stood := { row := temporalDualRow, standIns := [], harness := (true, "300f60df6dc180521aafcc9f276f17963980e5f66337d8f7438177c5e25f7943"), looks := false }, kinds := [], alts := [], laidByText := true, laidKinds := [.data], laidTests := true, laidLooks := .later }
def TemporalDualCardSaid : Prop := Claim7.holds Tryz.pinned (.plain (OpenSpec.ofChange temporalDualSpec)) temporalDualCard

/-- THE TIED CARD OF 'antecedelaw42.BarrierTests'. -/
def barrierTestsCard : Claim7 := { stood := { row := barrierTestsRow, standIns := [], harness := (true, "300f60df6dc180521aafcc9f276f17963980e5f66337d8f7438177c5e25f7943"), looks := false }, kinds := [], alts := [], laidByText := true, laidKinds := [.data], laidTests := true, laidLooks := .later }
def BarrierTestsCardSaid : Prop := Claim7.holds Tryz.pinned (.plain (OpenSpec.ofChange barrierTestsSpec)) barrierTestsCard

/-- THE TIED CARD OF 'antecedelaw42.BarrierThin'. -/
def barrierThinCard : Claim7 := { stood := { row := barrierThinRow, standIns := [], harness := (true, "300f60df6dc180521aafcc9f276f17963980e5f66337d8f7438177c5e25f7943"), looks := false }, kinds := [], alts := [], laidByText := true, laidKinds := [.data], laidTests := true, laidLooks := .later }
def BarrierThinCardSaid : Prop := Claim7.holds Tryz.pinned (.plain (OpenSpec.ofChange barrierThinSpec)) barrierThinCard

/-- THE TIED CARD OF 'antecedelaw42.BarrierLeast'. -/
def barrierLeastCard : Claim7 := { stood := { row := barrierLeastRow, standIns := [], harness := (true, "300f60df6dc180521aafcc9f276f17963980e5f66337d8f7438177c5e25f7943"), looks := false }, kinds := [], alts := [], laidByText := true, laidKinds := [.data], laidTests := true, laidLooks := .later }
def BarrierLeastCardSaid : Prop := Claim7.holds Tryz.pinned (.plain (OpenSpec.ofChange barrierLeastSpec)) barrierLeastCard

/-- THE TIED CARD OF 'antecedelaw42.BarrierNear'. -/
def barrierNearCard : Claim7 := { stood := { row := barrierNearRow, standIns := [], harness := (true, "300f60df6dc180521aafcc9f276f17963980e5f66337d8f7438177c5e25f7943"), looks := false }, kinds := [], alts := [], laidByText := true, laidKinds := [.data], laidTests := true, laidLooks := .later }
def BarrierNearCardSaid : Prop := Claim7.holds Tryz.pinned (.plain (OpenSpec.ofChange barrierNearSpec)) barrierNearCard

/-- THE SECOND FORM's CARD OF 'antecedelaw41.TemporalSteps'. -/
def temporalStepsUptoCard : Claim7 := { stood := { row := temporalStepsUptoRow, standIns := [], harness := (true, "300f60df6dc180521aafcc9f276f17963980e5f66337d8f7438177c5e25f7943"), looks := false }, kinds := [], alts := [], laidByText := true, laidKinds := [.data], laidTests := true, laidLooks := .later }
def TemporalStepsUptoCardSaid : Prop := Claim7.holds Tryz.pinned (.plain (OpenSpec.upto temporalStepsSpec)) temporalStepsUptoCard

/-- THE SECOND FORM's CARD OF 'antecedelaw41.TemporalDual'. -/
def temporalDualUptoCard : Claim7 := { stood := { row := temporalDualUptoRow, standIns := [], harness := (true, "300f60df6dc180521aafcc9f276f17963980e5f66337d8f7438177c5e25f7943"), looks := false }, kinds := [], alts := [], laidByText := true, laidKinds := [.data], laidTests := true, laidLooks := .later }
def TemporalDualUptoCardSaid : Prop := Claim7.holds Tryz.pinned (.plain (OpenSpec.upto temporalDualSpec)) temporalDualUptoCard

/-- THE SECOND FORM's CARD OF 'antecedelaw42.BarrierTests'. -/
def barrierTestsUptoCard : Claim7 := { stood := { row := barrierTestsUptoRow, standIns := [], harness := (true, "300f60df6dc180521aafcc9f276f17963980e5f66337d8f7438177c5e25f7943"), looks := false }, kinds := [], alts := [], laidByText := true, laidKinds := [.data], laidTests := true, laidLooks := .later }
def BarrierTestsUptoCardSaid : Prop := Claim7.holds Tryz.pinned (.plain (OpenSpec.upto barrierTestsSpec)) barrierTestsUptoCard

/-- THE SECOND FORM's CARD OF 'antecedelaw42.BarrierThin'. -/
def barrierThinUptoCard : Claim7 := { stood := { row := barrierThinUptoRow, standIns := [], harness := (true, "300f60df6dc180521aafcc9f276f17963980e5f66337d8f7438177c5e25f7943"), looks := false }, kinds := [], alts := [], laidByText := true, laidKinds := [.data], laidTests := true, laidLooks := .later }
def BarrierThinUptoCardSaid : Prop := Claim7.holds Tryz.pinned (.plain (OpenSpec.upto barrierThinSpec)) barrierThinUptoCard

/-- THE SECOND FORM's CARD OF 'antecedelaw42.BarrierLeast'. -/
def barrierLeastUptoCard : Claim7 := { stood := { row := barrierLeastUptoRow, standIns := [], harness := (true, "300f60df6dc180521aafcc9f276f17963980e5f66337d8f7438177c5e25f7943"), looks := false }, kinds := [], alts := [], laidByText := true, laidKinds := [.data], laidTests := true, laidLooks := .later }
def BarrierLeastUptoCardSaid : Prop := Claim7.holds Tryz.pinned (.plain (OpenSpec.upto barrierLeastSpec)) barrierLeastUptoCard

/-- THE SECOND FORM's CARD OF 'antecedelaw42.BarrierNear'. -/
def barrierNearUptoCard : Claim7 := { stood := { row := barrierNearUptoRow, standIns := [], harness := (true, "300f60df6dc180521aafcc9f276f17963980e5f66337d8f7438177c5e25f7943"), looks := false }, kinds := [], alts := [], laidByText := true, laidKinds := [.data], laidTests := true, laidLooks := .later }
def BarrierNearUptoCardSaid : Prop := Claim7.holds Tryz.pinned (.plain (OpenSpec.upto barrierNearSpec)) barrierNearUptoCard
end Rows
end Go.Proofs.YtmkkeeoahodfhaaGreatDoor
