/-
  No cell of these rows narrows 'for every input' (looked for: loops, veiled, ifaces, maps, wideKeys, modest, calm, conditions, laid).
  DERIVED. THE GIVEN ROWS OF THIS SEAT. 5 by the template 'for every input the law returns true; each argument reads behind the call as it read before'; 0 by the template 'total and deterministic' (their statements: YtdoibkkdaojjpaaGreatTotals.lean).
  GIVEN WITH THE SEED: the statements are not yours to turn. If you find one false, say at which input.
  Laid BY PROGRAM, IN A SANDBOX (cutbox-rows.mjs): the forced cells as the released guide's own fill.sh prints them over the translation 51cd5fec170fabd7… (all of the seat's roots in one cut). By AI agents, Wed Nov 11 2026. No macro, syntax, notation, axiom, sorry.
-/
import Derived.Test.YtdoibkkdaojjpaaGreatChecked
import GoSem.Claim
import GoSem.ClaimJoined
import GoSem.ClaimMapViews
import Derived.JoinedTies
import Derived.KernelRfl
namespace Go.Proofs.YtdoibkkdaojjpaaGreat
/- THE CELL 'sum', in the pinned program and in every row, IS THE sha256 OF THE DUMP (.gsa) THAT YtdoibkkdaojjpaaGreatProg.lean LOADS. Nothing in Lean hashes anything: it is a label: what it is worth is what the hold of that sum in a sandbox is worth. -/
noncomputable def Tryz.pinned : Pinned := { name := "ytdoibkkdaojjpaagreat", sum := "51cd5fec170fabd73593cf765463c9beb16b6b881c45ac4016dd19524e8db683", checked := Tryz.checked }
namespace Rows
def none {H : Type} : Left H := { results := [], args := [] }

/-- 'antecedelaw31.MemberTables': WHATEVER THE INPUT: true; the input reads as it did. -/
def memberTablesSpec : ChangeSpec := { name := "memberTables", fn := fun _ => fun
  | [d1, d2] => { results := [.lit (.bool true)], args := [d1, d2] }
  | _ => none }
def memberTablesRow : OpenClaim := { program := "ytdoibkkdaojjpaagreat", sum := "51cd5fec170fabd73593cf765463c9beb16b6b881c45ac4016dd19524e8db683", func := "antecede/antecedelaw31.MemberTables", spec := "memberTables", unfollowed := true, recurses := true, plainKeys := false, apart := false }
def MemberTablesSaid : Prop := memberTablesRow.holds Tryz.pinned (OpenSpec.ofChange memberTablesSpec)

/-- ITS FALSE NEIGHBOUR: 'it returns false'. Refute it at one input. -/
def memberTablesWrong : ChangeSpec := { name := "memberTables", fn := fun _ => fun
  | [d1, d2] => { results := [.lit (.bool false)], args := [d1, d2] }
  | _ => none }
def MemberTablesWrongFalsely : Prop := memberTablesRow.holds Tryz.pinned (OpenSpec.ofChange memberTablesWrong)

/-- 'antecedelaw31.MemberBoth': WHATEVER THE INPUT: true; the input reads as it did. -/
def memberBothSpec : ChangeSpec := { name := "memberBoth", fn := fun _ => fun
  | [d1, d2, d3] => { results := [.lit (.bool true)], args := [d1, d2, d3] }
  | _ => none }
def memberBothRow : OpenClaim := { program := "ytdoibkkdaojjpaagreat", sum := "51cd5fec170fabd73593cf765463c9beb16b6b881c45ac4016dd19524e8db683", func := "antecede/antecedelaw31.MemberBoth", spec := "memberBoth", unfollowed := true, recurses := true, plainKeys := false, apart := false }
def MemberBothSaid : Prop := memberBothRow.holds Tryz.pinned (OpenSpec.ofChange memberBothSpec)

/-- ITS FALSE NEIGHBOUR: 'it returns false'. Refute it at one input. -/
def memberBothWrong : ChangeSpec := { name := "memberBoth", fn := fun _ => fun
  | [d1, d2, d3] => { results := [.lit (.bool false)], args := [d1, d2, d3] }
  | _ => none }
def MemberBothWrongFalsely : Prop := memberBothRow.holds Tryz.pinned (OpenSpec.ofChange memberBothWrong)

/-- 'antecedelaw31.MemberWitness': WHATEVER THE INPUT: true; the input reads as it did. -/
def memberWitnessSpec : ChangeSpec := { name := "memberWitness", fn := fun _ => fun
  | [d1, d2] => { results := [.lit (.bool true)], args := [d1, d2] }
  | _ => none }
def memberWitnessRow : OpenClaim := { program := "ytdoibkkdaojjpaagreat", sum := "51cd5fec170fabd73593cf765463c9beb16b6b881c45ac4016dd19524e8db683", func := "antecede/antecedelaw31.MemberWitness", spec := "memberWitness", unfollowed := true, recurses := true, plainKeys := false, apart := false }
def MemberWitnessSaid : Prop := memberWitnessRow.holds Tryz.pinned (OpenSpec.ofChange memberWitnessSpec)

/-- ITS FALSE NEIGHBOUR: 'it returns false'. Refute it at one input. -/
def memberWitnessWrong : ChangeSpec := { name := "memberWitness", fn := fun _ => fun
  | [d1, d2] => { results := [.lit (.bool false)], args := [d1, d2] }
  | _ => none }
def MemberWitnessWrongFalsely : Prop := memberWitnessRow.holds Tryz.pinned (OpenSpec.ofChange memberWitnessWrong)

/-- 'antecedelaw40.ChannelQuiet': WHATEVER THE INPUT: true; the input reads as it did. -/
def channelQuietSpec : ChangeSpec := { name := "channelQuiet", fn := fun _ => fun
  | [d1, d2, d3, d4] => { results := [.lit (.bool true)], args := [d1, d2, d3, d4] }
  | _ => none }
def channelQuietRow : OpenClaim := { program := "ytdoibkkdaojjpaagreat", sum := "51cd5fec170fabd73593cf765463c9beb16b6b881c45ac4016dd19524e8db683", func := "antecede/antecedelaw40.ChannelQuiet", spec := "channelQuiet", unfollowed := true, recurses := true, plainKeys := false, apart := false }
def ChannelQuietSaid : Prop := channelQuietRow.holds Tryz.pinned (OpenSpec.ofChange channelQuietSpec)

/-- ITS FALSE NEIGHBOUR: 'it returns false'. Refute it at one input. -/
def channelQuietWrong : ChangeSpec := { name := "channelQuiet", fn := fun _ => fun
  | [d1, d2, d3, d4] => { results := [.lit (.bool false)], args := [d1, d2, d3, d4] }
  | _ => none }
def ChannelQuietWrongFalsely : Prop := channelQuietRow.holds Tryz.pinned (OpenSpec.ofChange channelQuietWrong)

/-- 'antecedelaw40.ChannelBound': WHATEVER THE INPUT: true; the input reads as it did. -/
def channelBoundSpec : ChangeSpec := { name := "channelBound", fn := fun _ => fun
  | [d1, d2, d3, d4] => { results := [.lit (.bool true)], args := [d1, d2, d3, d4] }
  | _ => none }
def channelBoundRow : OpenClaim := { program := "ytdoibkkdaojjpaagreat", sum := "51cd5fec170fabd73593cf765463c9beb16b6b881c45ac4016dd19524e8db683", func := "antecede/antecedelaw40.ChannelBound", spec := "channelBound", unfollowed := true, recurses := true, plainKeys := false, apart := false }
def ChannelBoundSaid : Prop := channelBoundRow.holds Tryz.pinned (OpenSpec.ofChange channelBoundSpec)

/-- ITS FALSE NEIGHBOUR: 'it returns false'. Refute it at one input. -/
def channelBoundWrong : ChangeSpec := { name := "channelBound", fn := fun _ => fun
  | [d1, d2, d3, d4] => { results := [.lit (.bool false)], args := [d1, d2, d3, d4] }
  | _ => none }
def ChannelBoundWrongFalsely : Prop := channelBoundRow.holds Tryz.pinned (OpenSpec.ofChange channelBoundWrong)

/- THE SECOND FORM. 'bulk': how many values and letters a reading holds, each counted each time it is reached (what is shared counts as often as it is met; a slice's spare places count too). A statement '..UptoSaid' is the law's where the arguments, and the package variables that the reading takes, are together of bulk at most 1048576: NARROWER than '..Said'. Prove '..Said' where nothing that the law and all that it calls make is longer than what came in: it says more and counts as full. Else prove '..UptoSaid'. A law counts once. -/
mutual
def uptoBulk {H : Type} : DataW H → Nat
  | .lit (.string bytes) => bytes.length + 1
  | .lit _ => 1
  | .nil => 1
  | .ptr d => uptoBulk d + 1
  | .slice elems spare => uptoBulkAll elems + uptoBulkAll spare + 1
  | .agg parts => uptoBulkAll parts + 1
  | .iface _ d => uptoBulk d + 1
  | .map entries => uptoBulkEntries entries + 1
  | .held _ => 1
def uptoBulkAll {H : Type} : List (DataW H) → Nat
  | [] => 0
  | d :: r => uptoBulk d + uptoBulkAll r
def uptoBulkEntries {H : Type} : List (Lit × DataW H) → Nat
  | [] => 0
  | x :: r => uptoBulkEntry x + uptoBulkEntries r
def uptoBulkEntry {H : Type} : Lit × DataW H → Nat
  | (.string bytes, d) => bytes.length + uptoBulk d + 1
  | (_, d) => uptoBulk d + 1
 end
def uptoSmall : (H : Type) → List (DataW H) → Bool := fun _ ds => decide (uptoBulkAll ds ≤ 1048576)
def OpenSpec.upto (s : _root_.Go.ChangeSpec) : _root_.Go.OpenSpec := { _root_.Go.OpenSpec.ofChange s with cond := some uptoSmall }

/-- 'antecedelaw31.MemberTables', WHERE WHAT IT READS IS OF BULK AT MOST 1048576: true; the input reads as it did. -/
def memberTablesUptoRow : OpenClaim := { program := "ytdoibkkdaojjpaagreat", sum := "51cd5fec170fabd73593cf765463c9beb16b6b881c45ac4016dd19524e8db683", func := "antecede/antecedelaw31.MemberTables", spec := "memberTables", unfollowed := true, recurses := true, plainKeys := false, apart := false, narrowed := true }
def MemberTablesUptoSaid : Prop := memberTablesUptoRow.holds Tryz.pinned (OpenSpec.upto memberTablesSpec)

/-- 'antecedelaw31.MemberBoth', WHERE WHAT IT READS IS OF BULK AT MOST 1048576: true; the input reads as it did. -/
def memberBothUptoRow : OpenClaim := { program := "ytdoibkkdaojjpaagreat", sum := "51cd5fec170fabd73593cf765463c9beb16b6b881c45ac4016dd19524e8db683", func := "antecede/antecedelaw31.MemberBoth", spec := "memberBoth", unfollowed := true, recurses := true, plainKeys := false, apart := false, narrowed := true }
def MemberBothUptoSaid : Prop := memberBothUptoRow.holds Tryz.pinned (OpenSpec.upto memberBothSpec)

/-- 'antecedelaw31.MemberWitness', WHERE WHAT IT READS IS OF BULK AT MOST 1048576: true; the input reads as it did. -/
def memberWitnessUptoRow : OpenClaim := { program := "ytdoibkkdaojjpaagreat", sum := "51cd5fec170fabd73593cf765463c9beb16b6b881c45ac4016dd19524e8db683", func := "antecede/antecedelaw31.MemberWitness", spec := "memberWitness", unfollowed := true, recurses := true, plainKeys := false, apart := false, narrowed := true }
def MemberWitnessUptoSaid : Prop := memberWitnessUptoRow.holds Tryz.pinned (OpenSpec.upto memberWitnessSpec)

/-- 'antecedelaw40.ChannelQuiet', WHERE WHAT IT READS IS OF BULK AT MOST 1048576: true; the input reads as it did. -/
def channelQuietUptoRow : OpenClaim := { program := "ytdoibkkdaojjpaagreat", sum := "51cd5fec170fabd73593cf765463c9beb16b6b881c45ac4016dd19524e8db683", func := "antecede/antecedelaw40.ChannelQuiet", spec := "channelQuiet", unfollowed := true, recurses := true, plainKeys := false, apart := false, narrowed := true }
def ChannelQuietUptoSaid : Prop := channelQuietUptoRow.holds Tryz.pinned (OpenSpec.upto channelQuietSpec)

/-- 'antecedelaw40.ChannelBound', WHERE WHAT IT READS IS OF BULK AT MOST 1048576: true; the input reads as it did. -/
def channelBoundUptoRow : OpenClaim := { program := "ytdoibkkdaojjpaagreat", sum := "51cd5fec170fabd73593cf765463c9beb16b6b881c45ac4016dd19524e8db683", func := "antecede/antecedelaw40.ChannelBound", spec := "channelBound", unfollowed := true, recurses := true, plainKeys := false, apart := false, narrowed := true }
def ChannelBoundUptoSaid : Prop := channelBoundUptoRow.holds Tryz.pinned (OpenSpec.upto channelBoundSpec)

end Rows
end Go.Proofs.YtdoibkkdaojjpaaGreat
