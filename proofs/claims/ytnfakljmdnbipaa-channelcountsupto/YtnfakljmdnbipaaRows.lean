/-
  No cell of these rows narrows 'for every input' (looked for: loops, veiled, ifaces, maps, wideKeys, modest, calm, conditions, laid).
  DERIVED. THE GIVEN ROWS OF THIS SEAT. 3 by the template 'for every input the law returns true; each argument reads behind the call as it read before'; 0 by the template 'total and deterministic' (their statements: YtnfakljmdnbipaaTotals.lean).
  GIVEN WITH THE SEED: the statements are not yours to turn. If you find one false, say at which input.
  Laid BY PROGRAM, IN A SANDBOX (cutbox-rows.mjs): the forced cells as the released guide's own fill.sh prints them over the translation 7a05af0354b9c23f… (all of the seat's roots in one cut). By AI agents, Wed Nov 11 2026. No macro, syntax, notation, axiom, sorry.
-/
import Derived.Test.YtnfakljmdnbipaaChecked
import GoSem.Claim
import GoSem.ClaimJoined
import GoSem.ClaimMapViews
import Derived.JoinedTies
import Derived.KernelRfl
namespace Go.Proofs.Ytnfakljmdnbipaa
/- THE CELL 'sum', in the pinned program and in every row, IS THE sha256 OF THE DUMP (.gsa) THAT YtnfakljmdnbipaaProg.lean LOADS. Nothing in Lean hashes anything: it is a label: what it is worth is what the hold of that sum in a sandbox is worth. -/
noncomputable def Try.pinned : Pinned := { name := "ytnfakljmdnbipaa", sum := "7a05af0354b9c23fe759f3dd61e4d9a85e4d991538776b08c60f5fc956e29c28", checked := Try.checked }
namespace Rows
def none {H : Type} : Left H := { results := [], args := [] }

/-- 'antecedelaw40.ChannelBalance': WHATEVER THE INPUT: true; the input reads as it did. -/
def channelBalanceSpec : ChangeSpec := { name := "channelBalance", fn := fun _ => fun
  | [d1, d2] => { results := [.lit (.bool true)], args := [d1, d2] }
  | _ => none }
def channelBalanceRow : OpenClaim := { program := "ytnfakljmdnbipaa", sum := "7a05af0354b9c23fe759f3dd61e4d9a85e4d991538776b08c60f5fc956e29c28", func := "antecede/antecedelaw40.ChannelBalance", spec := "channelBalance", unfollowed := true, recurses := true, plainKeys := false, apart := false }
def ChannelBalanceSaid : Prop := channelBalanceRow.holds Try.pinned (OpenSpec.ofChange channelBalanceSpec)

/-- ITS FALSE NEIGHBOUR: 'it returns false'. Refute it at one input. -/
def channelBalanceWrong : ChangeSpec := { name := "channelBalance", fn := fun _ => fun
  | [d1, d2] => { results := [.lit (.bool false)], args := [d1, d2] }
  | _ => none }
def ChannelBalanceWrongFalsely : Prop := channelBalanceRow.holds Try.pinned (OpenSpec.ofChange channelBalanceWrong)

/-- 'antecedelaw40.ChannelCounts': WHATEVER THE INPUT: true; the input reads as it did. -/
def channelCountsSpec : ChangeSpec := { name := "channelCounts", fn := fun _ => fun
  | [d1, d2, d3, d4] => { results := [.lit (.bool true)], args := [d1, d2, d3, d4] }
  | _ => none }
def channelCountsRow : OpenClaim := { program := "ytnfakljmdnbipaa", sum := "7a05af0354b9c23fe759f3dd61e4d9a85e4d991538776b08c60f5fc956e29c28", func := "antecede/antecedelaw40.ChannelCounts", spec := "channelCounts", unfollowed := true, recurses := true, plainKeys := false, apart := false }
def ChannelCountsSaid : Prop := channelCountsRow.holds Try.pinned (OpenSpec.ofChange channelCountsSpec)

/-- ITS FALSE NEIGHBOUR: 'it returns false'. Refute it at one input. -/
def channelCountsWrong : ChangeSpec := { name := "channelCounts", fn := fun _ => fun
  | [d1, d2, d3, d4] => { results := [.lit (.bool false)], args := [d1, d2, d3, d4] }
  | _ => none }
def ChannelCountsWrongFalsely : Prop := channelCountsRow.holds Try.pinned (OpenSpec.ofChange channelCountsWrong)

/-- 'antecedelaw40.ChannelFifo': WHATEVER THE INPUT: true; the input reads as it did. -/
def channelFifoSpec : ChangeSpec := { name := "channelFifo", fn := fun _ => fun
  | [d] => { results := [.lit (.bool true)], args := [d] }
  | _ => none }
def channelFifoRow : OpenClaim := { program := "ytnfakljmdnbipaa", sum := "7a05af0354b9c23fe759f3dd61e4d9a85e4d991538776b08c60f5fc956e29c28", func := "antecede/antecedelaw40.ChannelFifo", spec := "channelFifo", unfollowed := true, recurses := true, plainKeys := false, apart := false }
def ChannelFifoSaid : Prop := channelFifoRow.holds Try.pinned (OpenSpec.ofChange channelFifoSpec)

/-- ITS FALSE NEIGHBOUR: 'it returns false'. Refute it at one input. -/
def channelFifoWrong : ChangeSpec := { name := "channelFifo", fn := fun _ => fun
  | [d] => { results := [.lit (.bool false)], args := [d] }
  | _ => none }
def ChannelFifoWrongFalsely : Prop := channelFifoRow.holds Try.pinned (OpenSpec.ofChange channelFifoWrong)

/- THE SECOND FORM. 'bulk': how many values and letters a reading holds, each counted each time it is reached (what is shared counts as often as it is met; a slice's spare places count too). A statement '..UptoSaid' is the law's where the arguments, and the package variables that the reading takes, are together of bulk at most 1048576: NARROWER than '..Said'. Prove '..Said' where nothing that the law and all that it calls make is longer than what came in: it says more and counts as full. Else prove '..UptoSaid'. A law counts once. -/
mutual
def uptoBulk {H : Type} : DataW H → Nat
  | .lit (.string bytes) => bytes.length + 1
  | .lit _ => 1
  | .nil => 1
  | .ptr d => uptoBulk d + 1
  | .slice elems spare => uptoBulkAll elems + uptoBulkAll spare + 1
  | .agg parts => uptoBulkAll parts + 1
  | .iface _ d => uptoBulk d + 1
  | .map entries => uptoBulkEntries entries + 1
  | .held _ => 1
def uptoBulkAll {H : Type} : List (DataW H) → Nat
  | [] => 0
  | d :: r => uptoBulk d + uptoBulkAll r
def uptoBulkEntries {H : Type} : List (Lit × DataW H) → Nat
  | [] => 0
  | x :: r => uptoBulkEntry x + uptoBulkEntries r
def uptoBulkEntry {H : Type} : Lit × DataW H → Nat
  | (.string bytes, d) => bytes.length + uptoBulk d + 1
  | (_, d) => uptoBulk d + 1
 end
def uptoSmall : (H : Type) → List (DataW H) → Bool := fun _ ds => decide (uptoBulkAll ds ≤ 1048576)
def OpenSpec.upto (s : _root_.Go.ChangeSpec) : _root_.Go.OpenSpec := { _root_.Go.OpenSpec.ofChange s with cond := some uptoSmall }

/-- 'antecedelaw40.ChannelBalance', WHERE WHAT IT READS IS OF BULK AT MOST 1048576: true; the input reads as it did. -/
def channelBalanceUptoRow : OpenClaim := { program := "ytnfakljmdnbipaa", sum := "7a05af0354b9c23fe759f3dd61e4d9a85e4d991538776b08c60f5fc956e29c28", func := "antecede/antecedelaw40.ChannelBalance", spec := "channelBalance", unfollowed := true, recurses := true, plainKeys := false, apart := false, narrowed := true }
def ChannelBalanceUptoSaid : Prop := channelBalanceUptoRow.holds Try.pinned (OpenSpec.upto channelBalanceSpec)

/-- 'antecedelaw40.ChannelCounts', WHERE WHAT IT READS IS OF BULK AT MOST 1048576: true; the input reads as it did. -/
def channelCountsUptoRow : OpenClaim := { program := "ytnfakljmdnbipaa", sum := "7a05af0354b9c23fe759f3dd61e4d9a85e4d991538776b08c60f5fc956e29c28", func := "antecede/antecedelaw40.ChannelCounts", spec := "channelCounts", unfollowed := true, recurses := true, plainKeys := false, apart := false, narrowed := true }
def ChannelCountsUptoSaid : Prop := channelCountsUptoRow.holds Try.pinned (OpenSpec.upto channelCountsSpec)

/-- 'antecedelaw40.ChannelFifo', WHERE WHAT IT READS IS OF BULK AT MOST 1048576: true; the input reads as it did. -/
def channelFifoUptoRow : OpenClaim := { program := "ytnfakljmdnbipaa", sum := "7a05af0354b9c23fe759f3dd61e4d9a85e4d991538776b08c60f5fc956e29c28", func := "antecede/antecedelaw40.ChannelFifo", spec := "channelFifo", unfollowed := true, recurses := true, plainKeys := false, apart := false, narrowed := true }
def ChannelFifoUptoSaid : Prop := channelFifoUptoRow.holds Try.pinned (OpenSpec.upto channelFifoSpec)

end Rows
end Go.Proofs.Ytnfakljmdnbipaa
