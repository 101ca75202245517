/-
  No cell of these rows narrows 'for every input' (looked for: loops, veiled, ifaces, maps, wideKeys, modest, calm, conditions, laid).
  DERIVED. THE GIVEN ROWS OF THIS SEAT. 4 by the template 'for every input the law returns true; each argument reads behind the call as it read before'; 0 by the template 'total and deterministic' (their statements: YtimppgndlmehbaaGreatTotals.lean).
  GIVEN WITH THE SEED: the statements are not yours to turn. If you find one false, say at which input.
  Laid BY PROGRAM, IN A SANDBOX (cutbox-rows.mjs): the forced cells as the released guide's own fill.sh prints them over the translation e6459a6785bbc2ac… (all of the seat's roots in one cut). By AI agents, Wed Nov 11 2026. No macro, syntax, notation, axiom, sorry.
-/
import Derived.Test.YtimppgndlmehbaaGreatChecked
import GoSem.Claim
import GoSem.ClaimJoined
import GoSem.ClaimMapViews
import Derived.JoinedTies
import Derived.KernelRfl
namespace Go.Proofs.YtimppgndlmehbaaGreat
/- THE CELL 'sum', in the pinned program and in every row, IS THE sha256 OF THE DUMP (.gsa) THAT YtimppgndlmehbaaGreatProg.lean LOADS. Nothing in Lean hashes anything: it is a label: what it is worth is what the hold of that sum in a sandbox is worth. -/
noncomputable def Tryz.pinned : Pinned := { name := "ytimppgndlmehbaagreat", sum := "e6459a6785bbc2ac939527874696d61a5026e80ae2c319fb5424e581d90b52fc", checked := Tryz.checked }
namespace Rows
def none {H : Type} : Left H := { results := [], args := [] }

/-- 'antecedelaw35.GraftOperators': WHATEVER THE INPUT: true; the input reads as it did. -/
def graftOperatorsSpec : ChangeSpec := { name := "graftOperators", fn := fun _ => fun
  | [d1, d2] => { results := [.lit (.bool true)], args := [d1, d2] }
  | _ => none }
def graftOperatorsRow : OpenClaim := { program := "ytimppgndlmehbaagreat", sum := "e6459a6785bbc2ac939527874696d61a5026e80ae2c319fb5424e581d90b52fc", func := "antecede/antecedelaw35.GraftOperators", spec := "graftOperators", unfollowed := true, recurses := true, plainKeys := false, apart := false }
def GraftOperatorsSaid : Prop := graftOperatorsRow.holds Tryz.pinned (OpenSpec.ofChange graftOperatorsSpec)

/-- ITS FALSE NEIGHBOUR: 'it returns false'. Refute it at one input. -/
def graftOperatorsWrong : ChangeSpec := { name := "graftOperators", fn := fun _ => fun
  | [d1, d2] => { results := [.lit (.bool false)], args := [d1, d2] }
  | _ => none }
def GraftOperatorsWrongFalsely : Prop := graftOperatorsRow.holds Tryz.pinned (OpenSpec.ofChange graftOperatorsWrong)

/-- 'antecedelaw35.GraftPaths': WHATEVER THE INPUT: true; the input reads as it did. -/
def graftPathsSpec : ChangeSpec := { name := "graftPaths", fn := fun _ => fun
  | [d1, d2, d3] => { results := [.lit (.bool true)], args := [d1, d2, d3] }
  | _ => none }
def graftPathsRow : OpenClaim := { program := "ytimppgndlmehbaagreat", sum := "e6459a6785bbc2ac939527874696d61a5026e80ae2c319fb5424e581d90b52fc", func := "antecede/antecedelaw35.GraftPaths", spec := "graftPaths", unfollowed := true, recurses := true, plainKeys := false, apart := false }
def GraftPathsSaid : Prop := graftPathsRow.holds Tryz.pinned (OpenSpec.ofChange graftPathsSpec)

/-- ITS FALSE NEIGHBOUR: 'it returns false'. Refute it at one input. -/
def graftPathsWrong : ChangeSpec := { name := "graftPaths", fn := fun _ => fun
  | [d1, d2, d3] => { results := [.lit (.bool false)], args := [d1, d2, d3] }
  | _ => none }
def GraftPathsWrongFalsely : Prop := graftPathsRow.holds Tryz.pinned (OpenSpec.ofChange graftPathsWrong)

/-- 'antecedelaw35.GraftPairs': WHATEVER THE INPUT: true; the input reads as it did. -/
def graftPairsSpec : ChangeSpec := { name := "graftPairs", fn := fun _ => fun
  | [d1, d2, d3] => { results := [.lit (.bool true)], args := [d1, d2, d3] }
  | _ => none }
def graftPairsRow : OpenClaim := { program := "ytimppgndlmehbaagreat", sum := "e6459a6785bbc2ac939527874696d61a5026e80ae2c319fb5424e581d90b52fc", func := "antecede/antecedelaw35.GraftPairs", spec := "graftPairs", unfollowed := true, recurses := true, plainKeys := false, apart := false }
def GraftPairsSaid : Prop := graftPairsRow.holds Tryz.pinned (OpenSpec.ofChange graftPairsSpec)

/-- ITS FALSE NEIGHBOUR: 'it returns false'. Refute it at one input. -/
def graftPairsWrong : ChangeSpec := { name := "graftPairs", fn := fun _ => fun
  | [d1, d2, d3] => { results := [.lit (.bool false)], args := [d1, d2, d3] }
  | _ => none }
def GraftPairsWrongFalsely : Prop := graftPairsRow.holds Tryz.pinned (OpenSpec.ofChange graftPairsWrong)

/-- 'antecedelaw35.GraftNested': WHATEVER THE INPUT: true; the input reads as it did. -/
def graftNestedSpec : ChangeSpec := { name := "graftNested", fn := fun _ => fun
  | [d1, d2, d3] => { results := [.lit (.bool true)], args := [d1, d2, d3] }
  | _ => none }
def graftNestedRow : OpenClaim := { program := "ytimppgndlmehbaagreat", sum := "e6459a6785bbc2ac939527874696d61a5026e80ae2c319fb5424e581d90b52fc", func := "antecede/antecedelaw35.GraftNested", spec := "graftNested", unfollowed := true, recurses := true, plainKeys := false, apart := false }
def GraftNestedSaid : Prop := graftNestedRow.holds Tryz.pinned (OpenSpec.ofChange graftNestedSpec)

/-- ITS FALSE NEIGHBOUR: 'it returns false'. Refute it at one input. -/
def graftNestedWrong : ChangeSpec := { name := "graftNested", fn := fun _ => fun
  | [d1, d2, d3] => { results := [.lit (.bool false)], args := [d1, d2, d3] }
  | _ => none }
def GraftNestedWrongFalsely : Prop := graftNestedRow.holds Tryz.pinned (OpenSpec.ofChange graftNestedWrong)

/- THE SECOND FORM. 'bulk': how many values and letters a reading holds, each counted each time it is reached (what is shared counts as often as it is met; a slice's spare places count too). A statement '..UptoSaid' is the law's where the arguments, and the package variables that the reading takes, are together of bulk at most 1048576: NARROWER than '..Said'. Prove '..Said' where nothing that the law and all that it calls make is longer than what came in: it says more and counts as full. Else prove '..UptoSaid'. A law counts once. -/
mutual
def uptoBulk {H : Type} : DataW H → Nat
  | .lit (.string bytes) => bytes.length + 1
  | .lit _ => 1
  | .nil => 1
  | .ptr d => uptoBulk d + 1
  | .slice elems spare => uptoBulkAll elems + uptoBulkAll spare + 1
  | .agg parts => uptoBulkAll parts + 1
  | .iface _ d => uptoBulk d + 1
  | .map entries => uptoBulkEntries entries + 1
  | .held _ => 1
def uptoBulkAll {H : Type} : List (DataW H) → Nat
  | [] => 0
  | d :: r => uptoBulk d + uptoBulkAll r
def uptoBulkEntries {H : Type} : List (Lit × DataW H) → Nat
  | [] => 0
  | x :: r => uptoBulkEntry x + uptoBulkEntries r
def uptoBulkEntry {H : Type} : Lit × DataW H → Nat
  | (.string bytes, d) => bytes.length + uptoBulk d + 1
  | (_, d) => uptoBulk d + 1
 end
def uptoSmall : (H : Type) → List (DataW H) → Bool := fun _ ds => decide (uptoBulkAll ds ≤ 1048576)
def OpenSpec.upto (s : _root_.Go.ChangeSpec) : _root_.Go.OpenSpec := { _root_.Go.OpenSpec.ofChange s with cond := some uptoSmall }

/-- 'antecedelaw35.GraftOperators', WHERE WHAT IT READS IS OF BULK AT MOST 1048576: true; the input reads as it did. -/
def graftOperatorsUptoRow : OpenClaim := { program := "ytimppgndlmehbaagreat", sum := "e6459a6785bbc2ac939527874696d61a5026e80ae2c319fb5424e581d90b52fc", func := "antecede/antecedelaw35.GraftOperators", spec := "graftOperators", unfollowed := true, recurses := true, plainKeys := false, apart := false, narrowed := true }
def GraftOperatorsUptoSaid : Prop := graftOperatorsUptoRow.holds Tryz.pinned (OpenSpec.upto graftOperatorsSpec)

/-- 'antecedelaw35.GraftPaths', WHERE WHAT IT READS IS OF BULK AT MOST 1048576: true; the input reads as it did. -/
def graftPathsUptoRow : OpenClaim := { program := "ytimppgndlmehbaagreat", sum := "e6459a6785bbc2ac939527874696d61a5026e80ae2c319fb5424e581d90b52fc", func := "antecede/antecedelaw35.GraftPaths", spec := "graftPaths", unfollowed := true, recurses := true, plainKeys := false, apart := false, narrowed := true }
def GraftPathsUptoSaid : Prop := graftPathsUptoRow.holds Tryz.pinned (OpenSpec.upto graftPathsSpec)

/-- 'antecedelaw35.GraftPairs', WHERE WHAT IT READS IS OF BULK AT MOST 1048576: true; the input reads as it did. -/
def graftPairsUptoRow : OpenClaim := { program := "ytimppgndlmehbaagreat", sum := "e6459a6785bbc2ac939527874696d61a5026e80ae2c319fb5424e581d90b52fc", func := "antecede/antecedelaw35.GraftPairs", spec := "graftPairs", unfollowed := true, recurses := true, plainKeys := false, apart := false, narrowed := true }
def GraftPairsUptoSaid : Prop := graftPairsUptoRow.holds Tryz.pinned (OpenSpec.upto graftPairsSpec)

/-- 'antecedelaw35.GraftNested', WHERE WHAT IT READS IS OF BULK AT MOST 1048576: true; the input reads as it did. -/
def graftNestedUptoRow : OpenClaim := { program := "ytimppgndlmehbaagreat", sum := "e6459a6785bbc2ac939527874696d61a5026e80ae2c319fb5424e581d90b52fc", func := "antecede/antecedelaw35.GraftNested", spec := "graftNested", unfollowed := true, recurses := true, plainKeys := false, apart := false, narrowed := true }
def GraftNestedUptoSaid : Prop := graftNestedUptoRow.holds Tryz.pinned (OpenSpec.upto graftNestedSpec)

end Rows
end Go.Proofs.YtimppgndlmehbaaGreat
