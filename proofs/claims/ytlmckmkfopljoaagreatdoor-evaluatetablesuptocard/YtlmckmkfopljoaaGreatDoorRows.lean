/-
  NARROWER THAN 'FOR EVERY INPUT', by the rows' own cells (each row's printed sentence says how): EvaluateCuts: loops, laid · EvaluateParts: loops, laid · EvaluateChannels: laid · EvaluateBounds: loops, laid · EvaluateTables: loops, laid · EvaluateLocal: loops, laid · EvaluateStates: loops, laid.
  DERIVED. THE GIVEN ROWS OF THIS SEAT. 7 by the template 'for every input the law returns true; each argument reads behind the call as it read before'; 0 by the template 'total and deterministic' (their statements: YtlmckmkfopljoaaGreatDoorTotals.lean).
  GIVEN WITH THE SEED: the statements are not yours to turn. If you find one false, say at which input.
  Laid BY PROGRAM, IN A SANDBOX (cutbox-rows.mjs): the forced cells as the released guide's own fill.sh prints them over the translation a09ed3303a604f65… (all of the seat's roots in one cut). By AI agents, Wed Nov 11 2026. No macro, syntax, notation, axiom, sorry.
-/
import Derived.Test.YtlmckmkfopljoaaGreatDoorChecked
import GoSem.Claim
import GoSem.ClaimJoined
import GoSem.ClaimMapViews
import Derived.JoinedTies
import Derived.KernelRfl
namespace Go.Proofs.YtlmckmkfopljoaaGreatDoor
/- THE CELL 'sum', in the pinned program and in every row, IS THE sha256 OF THE DUMP (.gsa) THAT YtlmckmkfopljoaaGreatDoorProg.lean LOADS. Nothing in Lean hashes anything: it is a label: what it is worth is what the hold of that sum in a sandbox is worth. -/
noncomputable def Tryz.pinned : Pinned := { name := "ytlmckmkfopljoaagreatdoor", sum := "a09ed3303a604f65d09ffac6b55fc25beade44141ffd75a04ece11ea434500ae", checked := Tryz.checked }
namespace Rows
def none {H : Type} : Left H := { results := [], args := [] }

/- WHAT THE LISTED PACKAGE-LEVEL VARIABLES READ AS WHEN THE CALL BEGINS. Each datum BY PROGRAM (the guide's laid-datum.mjs) off the statement by which the dump's own 'gosem.cut.vars' lays the variable. In a bare row this is a premise. The card (YtlmckmkfopljoaaGreatDoorCards.lean) ties it to the program's text. -/
def laid_antecede_predtype_parts {H : Type} : DataW H := .agg [.lit (.int .i64 (-1)), .lit (.int .i64 0), .lit (.int .i64 0), .lit (.int .i64 0), .lit (.int .i64 0), .lit (.int .i64 1), .lit (.int .i64 2), .lit (.int .i64 2), .lit (.int .i64 2), .lit (.int .i64 2), .lit (.int .i64 2), .lit (.int .i64 2), .lit (.int .i64 2), .lit (.int .i64 0), .lit (.int .i64 0), .lit (.int .i64 1), .lit (.int .i64 2), .lit (.int .i64 2), .lit (.int .i64 1), .lit (.int .i64 1), .lit (.int .i64 1), .lit (.int .i64 1)]

/-- 'antecedelaw29.EvaluateCuts': WHATEVER THE INPUT: true; the input reads as it did. -/
def evaluateCutsSpec : ChangeSpec := { name := "evaluateCuts", fn := fun _ => fun
  | [d1, d2, d3] => { results := [.lit (.bool true)], args := [d1, d2, d3] }
  | _ => none }
def evaluateCutsRow : OpenClaim := { program := "ytlmckmkfopljoaagreatdoor", sum := "a09ed3303a604f65d09ffac6b55fc25beade44141ffd75a04ece11ea434500ae", func := "antecede/antecedelaw29.EvaluateCuts", spec := "evaluateCuts", unfollowed := true, recurses := true, named := ["antecede/predtype.parts"], loops := true, plainKeys := false, apart := false, laid := [("antecede/predtype.parts", laid_antecede_predtype_parts)] }
def EvaluateCutsSaid : Prop := evaluateCutsRow.holds Tryz.pinned (OpenSpec.ofChange evaluateCutsSpec)

/-- ITS FALSE NEIGHBOUR: 'it returns false'. Refute it at one input. -/
def evaluateCutsWrong : ChangeSpec := { name := "evaluateCuts", fn := fun _ => fun
  | [d1, d2, d3] => { results := [.lit (.bool false)], args := [d1, d2, d3] }
  | _ => none }
def EvaluateCutsWrongFalsely : Prop := evaluateCutsRow.holds Tryz.pinned (OpenSpec.ofChange evaluateCutsWrong)

/-- 'antecedelaw29.EvaluateParts': WHATEVER THE INPUT: true; the input reads as it did. -/
def evaluatePartsSpec : ChangeSpec := { name := "evaluateParts", fn := fun _ => fun
  | [d1, d2, d3, d4] => { results := [.lit (.bool true)], args := [d1, d2, d3, d4] }
  | _ => none }
def evaluatePartsRow : OpenClaim := { program := "ytlmckmkfopljoaagreatdoor", sum := "a09ed3303a604f65d09ffac6b55fc25beade44141ffd75a04ece11ea434500ae", func := "antecede/antecedelaw29.EvaluateParts", spec := "evaluateParts", unfollowed := true, recurses := true, named := ["antecede/predtype.parts"], loops := true, plainKeys := false, apart := false, laid := [("antecede/predtype.parts", laid_antecede_predtype_parts)] }
def EvaluatePartsSaid : Prop := evaluatePartsRow.holds Tryz.pinned (OpenSpec.ofChange evaluatePartsSpec)

/-- ITS FALSE NEIGHBOUR: 'it returns false'. Refute it at one input. -/
def evaluatePartsWrong : ChangeSpec := { name := "evaluateParts", fn := fun _ => fun
  | [d1, d2, d3, d4] => { results := [.lit (.bool false)], args := [d1, d2, d3, d4] }
  | _ => none }
def EvaluatePartsWrongFalsely : Prop := evaluatePartsRow.holds Tryz.pinned (OpenSpec.ofChange evaluatePartsWrong)

/-- 'antecedelaw29.EvaluateChannels': WHATEVER THE INPUT: true; the input reads as it did. -/
def evaluateChannelsSpec : ChangeSpec := { name := "evaluateChannels", fn := fun _ => fun
  | [d1, d2] => { results := [.lit (.bool true)], args := [d1, d2] }
  | _ => none }
def evaluateChannelsRow : OpenClaim := { program := "ytlmckmkfopljoaagreatdoor", sum := "a09ed3303a604f65d09ffac6b55fc25beade44141ffd75a04ece11ea434500ae", func := "antecede/antecedelaw29.EvaluateChannels", spec := "evaluateChannels", unfollowed := true, recurses := true, named := ["antecede/predtype.parts"], plainKeys := false, apart := false, laid := [("antecede/predtype.parts", laid_antecede_predtype_parts)] }
def EvaluateChannelsSaid : Prop := evaluateChannelsRow.holds Tryz.pinned (OpenSpec.ofChange evaluateChannelsSpec)

/-- ITS FALSE NEIGHBOUR: 'it returns false'. Refute it at one input. -/
def evaluateChannelsWrong : ChangeSpec := { name := "evaluateChannels", fn := fun _ => fun
  | [d1, d2] => { results := [.lit (.bool false)], args := [d1, d2] }
  | _ => none }
def EvaluateChannelsWrongFalsely : Prop := evaluateChannelsRow.holds Tryz.pinned (OpenSpec.ofChange evaluateChannelsWrong)

/-- 'antecedelaw29.EvaluateBounds': WHATEVER THE INPUT: true; the input reads as it did. -/
def evaluateBoundsSpec : ChangeSpec := { name := "evaluateBounds", fn := fun _ => fun
  | [d1, d2, d3] => { results := [.lit (.bool true)], args := [d1, d2, d3] }
  | _ => none }
def evaluateBoundsRow : OpenClaim := { program := "ytlmckmkfopljoaagreatdoor", sum := "a09ed3303a604f65d09ffac6b55fc25beade44141ffd75a04ece11ea434500ae", func := "antecede/antecedelaw29.EvaluateBounds", spec := "evaluateBounds", unfollowed := true, recurses := true, named := ["antecede/predtype.parts"], loops := true, plainKeys := false, apart := false, laid := [("antecede/predtype.parts", laid_antecede_predtype_parts)] }
def EvaluateBoundsSaid : Prop := evaluateBoundsRow.holds Tryz.pinned (OpenSpec.ofChange evaluateBoundsSpec)

/-- ITS FALSE NEIGHBOUR: 'it returns false'. Refute it at one input. -/
def evaluateBoundsWrong : ChangeSpec := { name := "evaluateBounds", fn := fun _ => fun
  | [d1, d2, d3] => { results := [.lit (.bool false)], args := [d1, d2, d3] }
  | _ => none }
def EvaluateBoundsWrongFalsely : Prop := evaluateBoundsRow.holds Tryz.pinned (OpenSpec.ofChange evaluateBoundsWrong)

/-- 'antecedelaw29.EvaluateTables': WHATEVER THE INPUT: true; the input reads as it did. -/
def evaluateTablesSpec : ChangeSpec := { name := "evaluateTables", fn := fun _ => fun
  | [d1, d2] => { results := [.lit (.bool true)], args := [d1, d2] }
  | _ => none }
def evaluateTablesRow : OpenClaim := { program := "ytlmckmkfopljoaagreatdoor", sum := "a09ed3303a604f65d09ffac6b55fc25beade44141ffd75a04ece11ea434500ae", func := "antecede/antecedelaw29.EvaluateTables", spec := "evaluateTables", unfollowed := true, recurses := true, named := ["antecede/predtype.parts"], loops := true, plainKeys := false, apart := false, laid := [("antecede/predtype.parts", laid_antecede_predtype_parts)] }
def EvaluateTablesSaid : Prop := evaluateTablesRow.holds Tryz.pinned (OpenSpec.ofChange evaluateTablesSpec)

/-- ITS FALSE NEIGHBOUR: 'it returns false'. Refute it at one input. -/
def evaluateTablesWrong : ChangeSpec := { name := "evaluateTables", fn := fun _ => fun
  | [d1, d2] => { results := [.lit (.bool false)], args := [d1, d2] }
  | _ => none }
def EvaluateTablesWrongFalsely : Prop := evaluateTablesRow.holds Tryz.pinned (OpenSpec.ofChange evaluateTablesWrong)

/-- 'antecedelaw29.EvaluateLocal': WHATEVER THE INPUT: true; the input reads as it did. -/
def evaluateLocalSpec : ChangeSpec := { name := "evaluateLocal", fn := fun _ => fun
  | [d1, d2, d3] => { results := [.lit (.bool true)], args := [d1, d2, d3] }
  | _ => none }
def evaluateLocalRow : OpenClaim := { program := "ytlmckmkfopljoaagreatdoor", sum := "a09ed3303a604f65d09ffac6b55fc25beade44141ffd75a04ece11ea434500ae", func := "antecede/antecedelaw29.EvaluateLocal", spec := "evaluateLocal", unfollowed := true, recurses := true, named := ["antecede/predtype.parts"], loops := true, plainKeys := false, apart := false, laid := [("antecede/predtype.parts", laid_antecede_predtype_parts)] }
def EvaluateLocalSaid : Prop := evaluateLocalRow.holds Tryz.pinned (OpenSpec.ofChange evaluateLocalSpec)

/-- ITS FALSE NEIGHBOUR: 'it returns false'. Refute it at one input. -/
def evaluateLocalWrong : ChangeSpec := { name := "evaluateLocal", fn := fun _ => fun
  | [d1, d2, d3] => { results := [.lit (.bool false)], args := [d1, d2, d3] }
  | _ => none }
def EvaluateLocalWrongFalsely : Prop := evaluateLocalRow.holds Tryz.pinned (OpenSpec.ofChange evaluateLocalWrong)

/-- 'antecedelaw29.EvaluateStates': WHATEVER THE INPUT: true; the input reads as it did. -/
def evaluateStatesSpec : ChangeSpec := { name := "evaluateStates", fn := fun _ => fun
  | [d1, d2, d3, d4] => { results := [.lit (.bool true)], args := [d1, d2, d3, d4] }
  | _ => none }
def evaluateStatesRow : OpenClaim := { program := "ytlmckmkfopljoaagreatdoor", sum := "a09ed3303a604f65d09ffac6b55fc25beade44141ffd75a04ece11ea434500ae", func := "antecede/antecedelaw29.EvaluateStates", spec := "evaluateStates", unfollowed := true, recurses := true, named := ["antecede/predtype.parts"], loops := true, plainKeys := false, apart := false, laid := [("antecede/predtype.parts", laid_antecede_predtype_parts)] }
def EvaluateStatesSaid : Prop := evaluateStatesRow.holds Tryz.pinned (OpenSpec.ofChange evaluateStatesSpec)

/-- ITS FALSE NEIGHBOUR: 'it returns false'. Refute it at one input. -/
def evaluateStatesWrong : ChangeSpec := { name := "evaluateStates", fn := fun _ => fun
  | [d1, d2, d3, d4] => { results := [.lit (.bool false)], args := [d1, d2, d3, d4] }
  | _ => none }
def EvaluateStatesWrongFalsely : Prop := evaluateStatesRow.holds Tryz.pinned (OpenSpec.ofChange evaluateStatesWrong)

/- THE SECOND FORM. 'bulk': how many values and letters a reading holds, each counted each time it is reached (what is shared counts as often as it is met; a slice's spare places count too). A statement '..UptoSaid' is the law's where the arguments, and the package variables that the reading takes, are together of bulk at most 1048576: NARROWER than '..Said'. Prove '..Said' where nothing that the law and all that it calls make is longer than what came in: it says more and counts as full. Else prove '..UptoSaid'. A law counts once. -/
mutual
def uptoBulk {H : Type} : DataW H → Nat
  | .lit (.string bytes) => bytes.length + 1
  | .lit _ => 1
  | .nil => 1
  | .ptr d => uptoBulk d + 1
  | .slice elems spare => uptoBulkAll elems + uptoBulkAll spare + 1
  | .agg parts => uptoBulkAll parts + 1
  | .iface _ d => uptoBulk d + 1
  | .map entries => uptoBulkEntries entries + 1
  | .held _ => 1
def uptoBulkAll {H : Type} : List (DataW H) → Nat
  | [] => 0
  | d :: r => uptoBulk d + uptoBulkAll r
def uptoBulkEntries {H : Type} : List (Lit × DataW H) → Nat
  | [] => 0
  | x :: r => uptoBulkEntry x + uptoBulkEntries r
def uptoBulkEntry {H : Type} : Lit × DataW H → Nat
  | (.string bytes, d) => bytes.length + uptoBulk d + 1
  | (_, d) => uptoBulk d + 1
 end
def uptoSmall : (H : Type) → List (DataW H) → Bool := fun _ ds => decide (uptoBulkAll ds ≤ 1048576)
def OpenSpec.upto (s : _root_.Go.ChangeSpec) : _root_.Go.OpenSpec := { _root_.Go.OpenSpec.ofChange s with cond := some uptoSmall }

/-- 'antecedelaw29.EvaluateCuts', WHERE WHAT IT READS IS OF BULK AT MOST 1048576: true; the input reads as it did. -/
def evaluateCutsUptoRow : OpenClaim := { program := "ytlmckmkfopljoaagreatdoor", sum := "a09ed3303a604f65d09ffac6b55fc25beade44141ffd75a04ece11ea434500ae", func := "antecede/antecedelaw29.EvaluateCuts", spec := "evaluateCuts", unfollowed := true, recurses := true, named := ["antecede/predtype.parts"], loops := true, plainKeys := false, apart := false, laid := [("antecede/predtype.parts", laid_antecede_predtype_parts)], narrowed := true }
def EvaluateCutsUptoSaid : Prop := evaluateCutsUptoRow.holds Tryz.pinned (OpenSpec.upto evaluateCutsSpec)

/-- 'antecedelaw29.EvaluateParts', WHERE WHAT IT READS IS OF BULK AT MOST 1048576: true; the input reads as it did. -/
def evaluatePartsUptoRow : OpenClaim := { program := "ytlmckmkfopljoaagreatdoor", sum := "a09ed3303a604f65d09ffac6b55fc25beade44141ffd75a04ece11ea434500ae", func := "antecede/antecedelaw29.EvaluateParts", spec := "evaluateParts", unfollowed := true, recurses := true, named := ["antecede/predtype.parts"], loops := true, plainKeys := false, apart := false, laid := [("antecede/predtype.parts", laid_antecede_predtype_parts)], narrowed := true }
def EvaluatePartsUptoSaid : Prop := evaluatePartsUptoRow.holds Tryz.pinned (OpenSpec.upto evaluatePartsSpec)

/-- 'antecedelaw29.EvaluateChannels', WHERE WHAT IT READS IS OF BULK AT MOST 1048576: true; the input reads as it did. -/
def evaluateChannelsUptoRow : OpenClaim := { program := "ytlmckmkfopljoaagreatdoor", sum := "a09ed3303a604f65d09ffac6b55fc25beade44141ffd75a04ece11ea434500ae", func := "antecede/antecedelaw29.EvaluateChannels", spec := "evaluateChannels", unfollowed := true, recurses := true, named := ["antecede/predtype.parts"], plainKeys := false, apart := false, laid := [("antecede/predtype.parts", laid_antecede_predtype_parts)], narrowed := true }
def EvaluateChannelsUptoSaid : Prop := evaluateChannelsUptoRow.holds Tryz.pinned (OpenSpec.upto evaluateChannelsSpec)

/-- 'antecedelaw29.EvaluateBounds', WHERE WHAT IT READS IS OF BULK AT MOST 1048576: true; the input reads as it did. -/
def evaluateBoundsUptoRow : OpenClaim := { program := "ytlmckmkfopljoaagreatdoor", sum := "a09ed3303a604f65d09ffac6b55fc25beade44141ffd75a04ece11ea434500ae", func := "antecede/antecedelaw29.EvaluateBounds", spec := "evaluateBounds", unfollowed := true, recurses := true, named := ["antecede/predtype.parts"], loops := true, plainKeys := false, apart := false, laid := [("antecede/predtype.parts", laid_antecede_predtype_parts)], narrowed := true }
def EvaluateBoundsUptoSaid : Prop := evaluateBoundsUptoRow.holds Tryz.pinned (OpenSpec.upto evaluateBoundsSpec)

/-- 'antecedelaw29.EvaluateTables', WHERE WHAT IT READS IS OF BULK AT MOST 1048576: true; the input reads as it did. -/
def evaluateTablesUptoRow : OpenClaim := { program := "ytlmckmkfopljoaagreatdoor", sum := "a09ed3303a604f65d09ffac6b55fc25beade44141ffd75a04ece11ea434500ae", func := "antecede/antecedelaw29.EvaluateTables", spec := "evaluateTables", unfollowed := true, recurses := true, named := ["antecede/predtype.parts"], loops := true, plainKeys := false, apart := false, laid := [("antecede/predtype.parts", laid_antecede_predtype_parts)], narrowed := true }
def EvaluateTablesUptoSaid : Prop := evaluateTablesUptoRow.holds Tryz.pinned (OpenSpec.upto evaluateTablesSpec)

/-- 'antecedelaw29.EvaluateLocal', WHERE WHAT IT READS IS OF BULK AT MOST 1048576: true; the input reads as it did. -/
def evaluateLocalUptoRow : OpenClaim := { program := "ytlmckmkfopljoaagreatdoor", sum := "a09ed3303a604f65d09ffac6b55fc25beade44141ffd75a04ece11ea434500ae", func := "antecede/antecedelaw29.EvaluateLocal", spec := "evaluateLocal", unfollowed := true, recurses := true, named := ["antecede/predtype.parts"], loops := true, plainKeys := false, apart := false, laid := [("antecede/predtype.parts", laid_antecede_predtype_parts)], narrowed := true }
def EvaluateLocalUptoSaid : Prop := evaluateLocalUptoRow.holds Tryz.pinned (OpenSpec.upto evaluateLocalSpec)

/-- 'antecedelaw29.EvaluateStates', WHERE WHAT IT READS IS OF BULK AT MOST 1048576: true; the input reads as it did. -/
def evaluateStatesUptoRow : OpenClaim := { program := "ytlmckmkfopljoaagreatdoor", sum := "a09ed3303a604f65d09ffac6b55fc25beade44141ffd75a04ece11ea434500ae", func := "antecede/antecedelaw29.EvaluateStates", spec := "evaluateStates", unfollowed := true, recurses := true, named := ["antecede/predtype.parts"], loops := true, plainKeys := false, apart := false, laid := [("antecede/predtype.parts", laid_antecede_predtype_parts)], narrowed := true }
def EvaluateStatesUptoSaid : Prop := evaluateStatesUptoRow.holds Tryz.pinned (OpenSpec.upto evaluateStatesSpec)

end Rows
end Go.Proofs.YtlmckmkfopljoaaGreatDoor
