/-
  NARROWER THAN 'FOR EVERY INPUT', by the rows' own cells (each row's printed sentence says how): LinearForbids: loops, laid · LinearAdvances: loops, laid · LinearWays: loops, laid · LinearEnds: loops, laid · LinearLeast: loops, laid · LinearClass: loops, laid · LinearConjunctions: loops, laid.
  DERIVED. THE GIVEN ROWS OF THIS SEAT. 7 by the template 'for every input the law returns true; each argument reads behind the call as it read before'; 0 by the template 'total and deterministic' (their statements: YtfjedefhlilglaaGreatDoorTotals.lean).
  GIVEN WITH THE SEED: the statements are not yours to turn. If you find one false, say at which input.
  Laid BY PROGRAM, IN A SANDBOX (cutbox-rows.mjs): the forced cells as the released guide's own fill.sh prints them over the translation aa12c32a5c8cfdb6… (all of the seat's roots in one cut). By AI agents, Wed Nov 11 2026. No macro, syntax, notation, axiom, sorry.
-/
import Derived.Test.YtfjedefhlilglaaGreatDoorChecked
import GoSem.Claim
import GoSem.ClaimJoined
import GoSem.ClaimMapViews
import Derived.JoinedTies
import Derived.KernelRfl
namespace Go.Proofs.YtfjedefhlilglaaGreatDoor
/- THE CELL 'sum', in the pinned program and in every row, IS THE sha256 OF THE DUMP (.gsa) THAT YtfjedefhlilglaaGreatDoorProg.lean LOADS. Nothing in Lean hashes anything: it is a label: what it is worth is what the hold of that sum in a sandbox is worth. -/
noncomputable def Tryz.pinned : Pinned := { name := "ytfjedefhlilglaagreatdoor", sum := "aa12c32a5c8cfdb6e4e1aac18d5187c91101331ac347fc57363249aa12b8c3b6", checked := Tryz.checked }
namespace Rows
def none {H : Type} : Left H := { results := [], args := [] }

/- WHAT THE LISTED PACKAGE-LEVEL VARIABLES READ AS WHEN THE CALL BEGINS. Each datum BY PROGRAM (the guide's laid-datum.mjs) off the statement by which the dump's own 'gosem.cut.vars' lays the variable. In a bare row this is a premise. The card (YtfjedefhlilglaaGreatDoorCards.lean) ties it to the program's text. -/
def laid_antecede_predtype_parts {H : Type} : DataW H := .agg [.lit (.int .i64 (-1)), .lit (.int .i64 0), .lit (.int .i64 0), .lit (.int .i64 0), .lit (.int .i64 0), .lit (.int .i64 1), .lit (.int .i64 2), .lit (.int .i64 2), .lit (.int .i64 2), .lit (.int .i64 2), .lit (.int .i64 2), .lit (.int .i64 2), .lit (.int .i64 2), .lit (.int .i64 0), .lit (.int .i64 0), .lit (.int .i64 1), .lit (.int .i64 2), .lit (.int .i64 2), .lit (.int .i64 1), .lit (.int .i64 1), .lit (.int .i64 1), .lit (.int .i64 1)]

/-- 'antecedelaw32.LinearForbids': WHATEVER THE INPUT: true; the input reads as it did. -/
def linearForbidsSpec : ChangeSpec := { name := "linearForbids", fn := fun _ => fun
  | [d1, d2, d3] => { results := [.lit (.bool true)], args := [d1, d2, d3] }
  | _ => none }
def linearForbidsRow : OpenClaim := { program := "ytfjedefhlilglaagreatdoor", sum := "aa12c32a5c8cfdb6e4e1aac18d5187c91101331ac347fc57363249aa12b8c3b6", func := "antecede/antecedelaw32.LinearForbids", spec := "linearForbids", unfollowed := true, recurses := true, named := ["antecede/predtype.parts"], loops := true, plainKeys := false, apart := false, laid := [("antecede/predtype.parts", laid_antecede_predtype_parts)] }
def LinearForbidsSaid : Prop := linearForbidsRow.holds Tryz.pinned (OpenSpec.ofChange linearForbidsSpec)

/-- ITS FALSE NEIGHBOUR: 'it returns false'. Refute it at one input. -/
def linearForbidsWrong : ChangeSpec := { name := "linearForbids", fn := fun _ => fun
  | [d1, d2, d3] => { results := [.lit (.bool false)], args := [d1, d2, d3] }
  | _ => none }
def LinearForbidsWrongFalsely : Prop := linearForbidsRow.holds Tryz.pinned (OpenSpec.ofChange linearForbidsWrong)

/-- 'antecedelaw32.LinearAdvances': WHATEVER THE INPUT: true; the input reads as it did. -/
def linearAdvancesSpec : ChangeSpec := { name := "linearAdvances", fn := fun _ => fun
  | [d1, d2] => { results := [.lit (.bool true)], args := [d1, d2] }
  | _ => none }
def linearAdvancesRow : OpenClaim := { program := "ytfjedefhlilglaagreatdoor", sum := "aa12c32a5c8cfdb6e4e1aac18d5187c91101331ac347fc57363249aa12b8c3b6", func := "antecede/antecedelaw32.LinearAdvances", spec := "linearAdvances", unfollowed := true, recurses := true, named := ["antecede/predtype.parts"], loops := true, plainKeys := false, apart := false, laid := [("antecede/predtype.parts", laid_antecede_predtype_parts)] }
def LinearAdvancesSaid : Prop := linearAdvancesRow.holds Tryz.pinned (OpenSpec.ofChange linearAdvancesSpec)

/-- ITS FALSE NEIGHBOUR: 'it returns false'. Refute it at one input. -/
def linearAdvancesWrong : ChangeSpec := { name := "linearAdvances", fn := fun _ => fun
  | [d1, d2] => { results := [.lit (.bool false)], args := [d1, d2] }
  | _ => none }
def LinearAdvancesWrongFalsely : Prop := linearAdvancesRow.holds Tryz.pinned (OpenSpec.ofChange linearAdvancesWrong)

/-- 'antecedelaw32.LinearWays': WHATEVER THE INPUT: true; the input reads as it did. -/
def linearWaysSpec : ChangeSpec := { name := "linearWays", fn := fun _ => fun
  | [d1, d2, d3, d4] => { results := [.lit (.bool true)], args := [d1, d2, d3, d4] }
  | _ => none }
def linearWaysRow : OpenClaim := { program := "ytfjedefhlilglaagreatdoor", sum := "aa12c32a5c8cfdb6e4e1aac18d5187c91101331ac347fc57363249aa12b8c3b6", func := "antecede/antecedelaw32.LinearWays", spec := "linearWays", unfollowed := true, recurses := true, named := ["antecede/predtype.parts"], loops := true, plainKeys := false, apart := false, laid := [("antecede/predtype.parts", laid_antecede_predtype_parts)] }
def LinearWaysSaid : Prop := linearWaysRow.holds Tryz.pinned (OpenSpec.ofChange linearWaysSpec)

/-- ITS FALSE NEIGHBOUR: 'it returns false'. Refute it at one input. -/
def linearWaysWrong : ChangeSpec := { name := "linearWays", fn := fun _ => fun
  | [d1, d2, d3, d4] => { results := [.lit (.bool false)], args := [d1, d2, d3, d4] }
  | _ => none }
def LinearWaysWrongFalsely : Prop := linearWaysRow.holds Tryz.pinned (OpenSpec.ofChange linearWaysWrong)

/-- 'antecedelaw32.LinearEnds': WHATEVER THE INPUT: true; the input reads as it did. -/
def linearEndsSpec : ChangeSpec := { name := "linearEnds", fn := fun _ => fun
  | [d1, d2] => { results := [.lit (.bool true)], args := [d1, d2] }
  | _ => none }
def linearEndsRow : OpenClaim := { program := "ytfjedefhlilglaagreatdoor", sum := "aa12c32a5c8cfdb6e4e1aac18d5187c91101331ac347fc57363249aa12b8c3b6", func := "antecede/antecedelaw32.LinearEnds", spec := "linearEnds", unfollowed := true, recurses := true, named := ["antecede/predtype.parts"], loops := true, plainKeys := false, apart := false, laid := [("antecede/predtype.parts", laid_antecede_predtype_parts)] }
def LinearEndsSaid : Prop := linearEndsRow.holds Tryz.pinned (OpenSpec.ofChange linearEndsSpec)

/-- ITS FALSE NEIGHBOUR: 'it returns false'. Refute it at one input. -/
def linearEndsWrong : ChangeSpec := { name := "linearEnds", fn := fun _ => fun
  | [d1, d2] => { results := [.lit (.bool false)], args := [d1, d2] }
  | _ => none }
def LinearEndsWrongFalsely : Prop := linearEndsRow.holds Tryz.pinned (OpenSpec.ofChange linearEndsWrong)

/-- 'antecedelaw32.LinearLeast': WHATEVER THE INPUT: true; the input reads as it did. -/
def linearLeastSpec : ChangeSpec := { name := "linearLeast", fn := fun _ => fun
  | [d1, d2] => { results := [.lit (.bool true)], args := [d1, d2] }
  | _ => none }
def linearLeastRow : OpenClaim := { program := "ytfjedefhlilglaagreatdoor", sum := "aa12c32a5c8cfdb6e4e1aac18d5187c91101331ac347fc57363249aa12b8c3b6", func := "antecede/antecedelaw32.LinearLeast", spec := "linearLeast", unfollowed := true, recurses := true, named := ["antecede/predtype.parts"], loops := true, plainKeys := false, apart := false, laid := [("antecede/predtype.parts", laid_antecede_predtype_parts)] }
def LinearLeastSaid : Prop := linearLeastRow.holds Tryz.pinned (OpenSpec.ofChange linearLeastSpec)

/-- ITS FALSE NEIGHBOUR: 'it returns false'. Refute it at one input. -/
def linearLeastWrong : ChangeSpec := { name := "linearLeast", fn := fun _ => fun
  | [d1, d2] => { results := [.lit (.bool false)], args := [d1, d2] }
  | _ => none }
def LinearLeastWrongFalsely : Prop := linearLeastRow.holds Tryz.pinned (OpenSpec.ofChange linearLeastWrong)

/-- 'antecedelaw32.LinearClass': WHATEVER THE INPUT: true; the input reads as it did. -/
def linearClassSpec : ChangeSpec := { name := "linearClass", fn := fun _ => fun
  | [d1, d2] => { results := [.lit (.bool true)], args := [d1, d2] }
  | _ => none }
def linearClassRow : OpenClaim := { program := "ytfjedefhlilglaagreatdoor", sum := "aa12c32a5c8cfdb6e4e1aac18d5187c91101331ac347fc57363249aa12b8c3b6", func := "antecede/antecedelaw32.LinearClass", spec := "linearClass", unfollowed := true, recurses := true, named := ["antecede/predtype.parts"], loops := true, plainKeys := false, apart := false, laid := [("antecede/predtype.parts", laid_antecede_predtype_parts)] }
def LinearClassSaid : Prop := linearClassRow.holds Tryz.pinned (OpenSpec.ofChange linearClassSpec)

/-- ITS FALSE NEIGHBOUR: 'it returns false'. Refute it at one input. -/
def linearClassWrong : ChangeSpec := { name := "linearClass", fn := fun _ => fun
  | [d1, d2] => { results := [.lit (.bool false)], args := [d1, d2] }
  | _ => none }
def LinearClassWrongFalsely : Prop := linearClassRow.holds Tryz.pinned (OpenSpec.ofChange linearClassWrong)

/-- 'antecedelaw32.LinearConjunctions': WHATEVER THE INPUT: true; the input reads as it did. -/
def linearConjunctionsSpec : ChangeSpec := { name := "linearConjunctions", fn := fun _ => fun
  | [d1, d2] => { results := [.lit (.bool true)], args := [d1, d2] }
  | _ => none }
def linearConjunctionsRow : OpenClaim := { program := "ytfjedefhlilglaagreatdoor", sum := "aa12c32a5c8cfdb6e4e1aac18d5187c91101331ac347fc57363249aa12b8c3b6", func := "antecede/antecedelaw32.LinearConjunctions", spec := "linearConjunctions", unfollowed := true, recurses := true, named := ["antecede/predtype.parts"], loops := true, plainKeys := false, apart := false, laid := [("antecede/predtype.parts", laid_antecede_predtype_parts)] }
def LinearConjunctionsSaid : Prop := linearConjunctionsRow.holds Tryz.pinned (OpenSpec.ofChange linearConjunctionsSpec)

/-- ITS FALSE NEIGHBOUR: 'it returns false'. Refute it at one input. -/
def linearConjunctionsWrong : ChangeSpec := { name := "linearConjunctions", fn := fun _ => fun
  | [d1, d2] => { results := [.lit (.bool false)], args := [d1, d2] }
  | _ => none }
def LinearConjunctionsWrongFalsely : Prop := linearConjunctionsRow.holds Tryz.pinned (OpenSpec.ofChange linearConjunctionsWrong)

/- THE SECOND FORM. 'bulk': how many values and letters a reading holds, each counted each time it is reached (what is shared counts as often as it is met; a slice's spare places count too). A statement '..UptoSaid' is the law's where the arguments, and the package variables that the reading takes, are together of bulk at most 1048576: NARROWER than '..Said'. Prove '..Said' where nothing that the law and all that it calls make is longer than what came in: it says more and counts as full. Else prove '..UptoSaid'. A law counts once. -/
mutual
def uptoBulk {H : Type} : DataW H → Nat
  | .lit (.string bytes) => bytes.length + 1
  | .lit _ => 1
  | .nil => 1
  | .ptr d => uptoBulk d + 1
  | .slice elems spare => uptoBulkAll elems + uptoBulkAll spare + 1
  | .agg parts => uptoBulkAll parts + 1
  | .iface _ d => uptoBulk d + 1
  | .map entries => uptoBulkEntries entries + 1
  | .held _ => 1
def uptoBulkAll {H : Type} : List (DataW H) → Nat
  | [] => 0
  | d :: r => uptoBulk d + uptoBulkAll r
def uptoBulkEntries {H : Type} : List (Lit × DataW H) → Nat
  | [] => 0
  | x :: r => uptoBulkEntry x + uptoBulkEntries r
def uptoBulkEntry {H : Type} : Lit × DataW H → Nat
  | (.string bytes, d) => bytes.length + uptoBulk d + 1
  | (_, d) => uptoBulk d + 1
 end
def uptoSmall : (H : Type) → List (DataW H) → Bool := fun _ ds => decide (uptoBulkAll ds ≤ 1048576)
def OpenSpec.upto (s : _root_.Go.ChangeSpec) : _root_.Go.OpenSpec := { _root_.Go.OpenSpec.ofChange s with cond := some uptoSmall }

/-- 'antecedelaw32.LinearForbids', WHERE WHAT IT READS IS OF BULK AT MOST 1048576: true; the input reads as it did. -/
def linearForbidsUptoRow : OpenClaim := { program := "ytfjedefhlilglaagreatdoor", sum := "aa12c32a5c8cfdb6e4e1aac18d5187c91101331ac347fc57363249aa12b8c3b6", func := "antecede/antecedelaw32.LinearForbids", spec := "linearForbids", unfollowed := true, recurses := true, named := ["antecede/predtype.parts"], loops := true, plainKeys := false, apart := false, laid := [("antecede/predtype.parts", laid_antecede_predtype_parts)], narrowed := true }
def LinearForbidsUptoSaid : Prop := linearForbidsUptoRow.holds Tryz.pinned (OpenSpec.upto linearForbidsSpec)

/-- 'antecedelaw32.LinearAdvances', WHERE WHAT IT READS IS OF BULK AT MOST 1048576: true; the input reads as it did. -/
def linearAdvancesUptoRow : OpenClaim := { program := "ytfjedefhlilglaagreatdoor", sum := "aa12c32a5c8cfdb6e4e1aac18d5187c91101331ac347fc57363249aa12b8c3b6", func := "antecede/antecedelaw32.LinearAdvances", spec := "linearAdvances", unfollowed := true, recurses := true, named := ["antecede/predtype.parts"], loops := true, plainKeys := false, apart := false, laid := [("antecede/predtype.parts", laid_antecede_predtype_parts)], narrowed := true }
def LinearAdvancesUptoSaid : Prop := linearAdvancesUptoRow.holds Tryz.pinned (OpenSpec.upto linearAdvancesSpec)

/-- 'antecedelaw32.LinearWays', WHERE WHAT IT READS IS OF BULK AT MOST 1048576: true; the input reads as it did. -/
def linearWaysUptoRow : OpenClaim := { program := "ytfjedefhlilglaagreatdoor", sum := "aa12c32a5c8cfdb6e4e1aac18d5187c91101331ac347fc57363249aa12b8c3b6", func := "antecede/antecedelaw32.LinearWays", spec := "linearWays", unfollowed := true, recurses := true, named := ["antecede/predtype.parts"], loops := true, plainKeys := false, apart := false, laid := [("antecede/predtype.parts", laid_antecede_predtype_parts)], narrowed := true }
def LinearWaysUptoSaid : Prop := linearWaysUptoRow.holds Tryz.pinned (OpenSpec.upto linearWaysSpec)

/-- 'antecedelaw32.LinearEnds', WHERE WHAT IT READS IS OF BULK AT MOST 1048576: true; the input reads as it did. -/
def linearEndsUptoRow : OpenClaim := { program := "ytfjedefhlilglaagreatdoor", sum := "aa12c32a5c8cfdb6e4e1aac18d5187c91101331ac347fc57363249aa12b8c3b6", func := "antecede/antecedelaw32.LinearEnds", spec := "linearEnds", unfollowed := true, recurses := true, named := ["antecede/predtype.parts"], loops := true, plainKeys := false, apart := false, laid := [("antecede/predtype.parts", laid_antecede_predtype_parts)], narrowed := true }
def LinearEndsUptoSaid : Prop := linearEndsUptoRow.holds Tryz.pinned (OpenSpec.upto linearEndsSpec)

/-- 'antecedelaw32.LinearLeast', WHERE WHAT IT READS IS OF BULK AT MOST 1048576: true; the input reads as it did. -/
def linearLeastUptoRow : OpenClaim := { program := "ytfjedefhlilglaagreatdoor", sum := "aa12c32a5c8cfdb6e4e1aac18d5187c91101331ac347fc57363249aa12b8c3b6", func := "antecede/antecedelaw32.LinearLeast", spec := "linearLeast", unfollowed := true, recurses := true, named := ["antecede/predtype.parts"], loops := true, plainKeys := false, apart := false, laid := [("antecede/predtype.parts", laid_antecede_predtype_parts)], narrowed := true }
def LinearLeastUptoSaid : Prop := linearLeastUptoRow.holds Tryz.pinned (OpenSpec.upto linearLeastSpec)

/-- 'antecedelaw32.LinearClass', WHERE WHAT IT READS IS OF BULK AT MOST 1048576: true; the input reads as it did. -/
def linearClassUptoRow : OpenClaim := { program := "ytfjedefhlilglaagreatdoor", sum := "aa12c32a5c8cfdb6e4e1aac18d5187c91101331ac347fc57363249aa12b8c3b6", func := "antecede/antecedelaw32.LinearClass", spec := "linearClass", unfollowed := true, recurses := true, named := ["antecede/predtype.parts"], loops := true, plainKeys := false, apart := false, laid := [("antecede/predtype.parts", laid_antecede_predtype_parts)], narrowed := true }
def LinearClassUptoSaid : Prop := linearClassUptoRow.holds Tryz.pinned (OpenSpec.upto linearClassSpec)

/-- 'antecedelaw32.LinearConjunctions', WHERE WHAT IT READS IS OF BULK AT MOST 1048576: true; the input reads as it did. -/
def linearConjunctionsUptoRow : OpenClaim := { program := "ytfjedefhlilglaagreatdoor", sum := "aa12c32a5c8cfdb6e4e1aac18d5187c91101331ac347fc57363249aa12b8c3b6", func := "antecede/antecedelaw32.LinearConjunctions", spec := "linearConjunctions", unfollowed := true, recurses := true, named := ["antecede/predtype.parts"], loops := true, plainKeys := false, apart := false, laid := [("antecede/predtype.parts", laid_antecede_predtype_parts)], narrowed := true }
def LinearConjunctionsUptoSaid : Prop := linearConjunctionsUptoRow.holds Tryz.pinned (OpenSpec.upto linearConjunctionsSpec)

end Rows
end Go.Proofs.YtfjedefhlilglaaGreatDoor
