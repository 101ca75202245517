/-
  NARROWER THAN 'FOR EVERY INPUT', by the rows' own cells (each row's printed sentence says how): SliceLists: laid · SliceForms: laid · SliceOrders: laid · SliceLattice: laid · SliceParts: laid · SliceSpan: laid.
  DERIVED. THE GIVEN ROWS OF THIS SEAT. 6 by the template 'for every input the law returns true; each argument reads behind the call as it read before'; 0 by the template 'total and deterministic' (their statements: YtjbnbbbiijdbpaaGreatDoorTotals.lean).
  GIVEN WITH THE SEED: the statements are not yours to turn. If you find one false, say at which input.
  Laid BY PROGRAM, IN A SANDBOX (cutbox-rows.mjs): the forced cells as the released guide's own fill.sh prints them over the translation bf3fa0e48a2d159f… (all of the seat's roots in one cut). By AI agents, Wed Nov 11 2026. No macro, syntax, notation, axiom, sorry.
-/
import Derived.Test.YtjbnbbbiijdbpaaGreatDoorChecked
import GoSem.Claim
import GoSem.ClaimJoined
import GoSem.ClaimMapViews
import Derived.JoinedTies
import Derived.KernelRfl
namespace Go.Proofs.YtjbnbbbiijdbpaaGreatDoor
/- THE CELL 'sum', in the pinned program and in every row, IS THE sha256 OF THE DUMP (.gsa) THAT YtjbnbbbiijdbpaaGreatDoorProg.lean LOADS. Nothing in Lean hashes anything: it is a label: what it is worth is what the hold of that sum in a sandbox is worth. -/
noncomputable def Tryz.pinned : Pinned := { name := "ytjbnbbbiijdbpaagreatdoor", sum := "bf3fa0e48a2d159fa88f12190a67baf83f5bdaada9f6f3910774fd1fb4352ff4", checked := Tryz.checked }
namespace Rows
def none {H : Type} : Left H := { results := [], args := [] }

/- WHAT THE LISTED PACKAGE-LEVEL VARIABLES READ AS WHEN THE CALL BEGINS. Each datum BY PROGRAM (the guide's laid-datum.mjs) off the statement by which the dump's own 'gosem.cut.vars' lays the variable. In a bare row this is a premise. The card (YtjbnbbbiijdbpaaGreatDoorCards.lean) ties it to the program's text. -/
def laid_antecede_predtype_parts {H : Type} : DataW H := .agg [.lit (.int .i64 (-1)), .lit (.int .i64 0), .lit (.int .i64 0), .lit (.int .i64 0), .lit (.int .i64 0), .lit (.int .i64 1), .lit (.int .i64 2), .lit (.int .i64 2), .lit (.int .i64 2), .lit (.int .i64 2), .lit (.int .i64 2), .lit (.int .i64 2), .lit (.int .i64 2), .lit (.int .i64 0), .lit (.int .i64 0), .lit (.int .i64 1), .lit (.int .i64 2), .lit (.int .i64 2), .lit (.int .i64 1), .lit (.int .i64 1), .lit (.int .i64 1), .lit (.int .i64 1)]

/-- 'antecedelaw34.SliceLists': WHATEVER THE INPUT: true; the input reads as it did. -/
def sliceListsSpec : ChangeSpec := { name := "sliceLists", fn := fun _ => fun
  | [d1, d2] => { results := [.lit (.bool true)], args := [d1, d2] }
  | _ => none }
def sliceListsRow : OpenClaim := { program := "ytjbnbbbiijdbpaagreatdoor", sum := "bf3fa0e48a2d159fa88f12190a67baf83f5bdaada9f6f3910774fd1fb4352ff4", func := "antecede/antecedelaw34.SliceLists", spec := "sliceLists", unfollowed := true, recurses := true, named := ["antecede/predtype.parts"], plainKeys := false, apart := false, laid := [("antecede/predtype.parts", laid_antecede_predtype_parts)] }
def SliceListsSaid : Prop := sliceListsRow.holds Tryz.pinned (OpenSpec.ofChange sliceListsSpec)

/-- ITS FALSE NEIGHBOUR: 'it returns false'. Refute it at one input. -/
def sliceListsWrong : ChangeSpec := { name := "sliceLists", fn := fun _ => fun
  | [d1, d2] => { results := [.lit (.bool false)], args := [d1, d2] }
  | _ => none }
def SliceListsWrongFalsely : Prop := sliceListsRow.holds Tryz.pinned (OpenSpec.ofChange sliceListsWrong)

/-- 'antecedelaw34.SliceForms': WHATEVER THE INPUT: true; the input reads as it did. -/
def sliceFormsSpec : ChangeSpec := { name := "sliceForms", fn := fun _ => fun
  | [d1, d2, d3] => { results := [.lit (.bool true)], args := [d1, d2, d3] }
  | _ => none }
def sliceFormsRow : OpenClaim := { program := "ytjbnbbbiijdbpaagreatdoor", sum := "bf3fa0e48a2d159fa88f12190a67baf83f5bdaada9f6f3910774fd1fb4352ff4", func := "antecede/antecedelaw34.SliceForms", spec := "sliceForms", unfollowed := true, recurses := true, named := ["antecede/predtype.parts"], plainKeys := false, apart := false, laid := [("antecede/predtype.parts", laid_antecede_predtype_parts)] }
def SliceFormsSaid : Prop := sliceFormsRow.holds Tryz.pinned (OpenSpec.ofChange sliceFormsSpec)

/-- ITS FALSE NEIGHBOUR: 'it returns false'. Refute it at one input. -/
def sliceFormsWrong : ChangeSpec := { name := "sliceForms", fn := fun _ => fun
  | [d1, d2, d3] => { results := [.lit (.bool false)], args := [d1, d2, d3] }
  | _ => none }
def SliceFormsWrongFalsely : Prop := sliceFormsRow.holds Tryz.pinned (OpenSpec.ofChange sliceFormsWrong)

/-- 'antecedelaw34.SliceOrders': WHATEVER THE INPUT: true; the input reads as it did. -/
def sliceOrdersSpec : ChangeSpec := { name := "sliceOrders", fn := fun _ => fun
  | [d1, d2, d3] => { results := [.lit (.bool true)], args := [d1, d2, d3] }
  | _ => none }
def sliceOrdersRow : OpenClaim := { program := "ytjbnbbbiijdbpaagreatdoor", sum := "bf3fa0e48a2d159fa88f12190a67baf83f5bdaada9f6f3910774fd1fb4352ff4", func := "antecede/antecedelaw34.SliceOrders", spec := "sliceOrders", unfollowed := true, recurses := true, named := ["antecede/predtype.parts"], plainKeys := false, apart := false, laid := [("antecede/predtype.parts", laid_antecede_predtype_parts)] }
def SliceOrdersSaid : Prop := sliceOrdersRow.holds Tryz.pinned (OpenSpec.ofChange sliceOrdersSpec)

/-- ITS FALSE NEIGHBOUR: 'it returns false'. Refute it at one input. -/
def sliceOrdersWrong : ChangeSpec := { name := "sliceOrders", fn := fun _ => fun
  | [d1, d2, d3] => { results := [.lit (.bool false)], args := [d1, d2, d3] }
  | _ => none }
def SliceOrdersWrongFalsely : Prop := sliceOrdersRow.holds Tryz.pinned (OpenSpec.ofChange sliceOrdersWrong)

/-- 'antecedelaw34.SliceLattice': WHATEVER THE INPUT: true; the input reads as it did. -/
def sliceLatticeSpec : ChangeSpec := { name := "sliceLattice", fn := fun _ => fun
  | [d1, d2, d3, d4] => { results := [.lit (.bool true)], args := [d1, d2, d3, d4] }
  | _ => none }
def sliceLatticeRow : OpenClaim := { program := "ytjbnbbbiijdbpaagreatdoor", sum := "bf3fa0e48a2d159fa88f12190a67baf83f5bdaada9f6f3910774fd1fb4352ff4", func := "antecede/antecedelaw34.SliceLattice", spec := "sliceLattice", unfollowed := true, recurses := true, named := ["antecede/predtype.parts"], plainKeys := false, apart := false, laid := [("antecede/predtype.parts", laid_antecede_predtype_parts)] }
def SliceLatticeSaid : Prop := sliceLatticeRow.holds Tryz.pinned (OpenSpec.ofChange sliceLatticeSpec)

/-- ITS FALSE NEIGHBOUR: 'it returns false'. Refute it at one input. -/
def sliceLatticeWrong : ChangeSpec := { name := "sliceLattice", fn := fun _ => fun
  | [d1, d2, d3, d4] => { results := [.lit (.bool false)], args := [d1, d2, d3, d4] }
  | _ => none }
def SliceLatticeWrongFalsely : Prop := sliceLatticeRow.holds Tryz.pinned (OpenSpec.ofChange sliceLatticeWrong)

/-- 'antecedelaw34.SliceParts': WHATEVER THE INPUT: true; the input reads as it did. -/
def slicePartsSpec : ChangeSpec := { name := "sliceParts", fn := fun _ => fun
  | [d1, d2] => { results := [.lit (.bool true)], args := [d1, d2] }
  | _ => none }
def slicePartsRow : OpenClaim := { program := "ytjbnbbbiijdbpaagreatdoor", sum := "bf3fa0e48a2d159fa88f12190a67baf83f5bdaada9f6f3910774fd1fb4352ff4", func := "antecede/antecedelaw34.SliceParts", spec := "sliceParts", unfollowed := true, recurses := true, named := ["antecede/predtype.parts"], plainKeys := false, apart := false, laid := [("antecede/predtype.parts", laid_antecede_predtype_parts)] }
def SlicePartsSaid : Prop := slicePartsRow.holds Tryz.pinned (OpenSpec.ofChange slicePartsSpec)

/-- ITS FALSE NEIGHBOUR: 'it returns false'. Refute it at one input. -/
def slicePartsWrong : ChangeSpec := { name := "sliceParts", fn := fun _ => fun
  | [d1, d2] => { results := [.lit (.bool false)], args := [d1, d2] }
  | _ => none }
def SlicePartsWrongFalsely : Prop := slicePartsRow.holds Tryz.pinned (OpenSpec.ofChange slicePartsWrong)

/-- 'antecedelaw34.SliceSpan': WHATEVER THE INPUT: true; the input reads as it did. -/
def sliceSpanSpec : ChangeSpec := { name := "sliceSpan", fn := fun _ => fun
  | [d1, d2, d3] => { results := [.lit (.bool true)], args := [d1, d2, d3] }
  | _ => none }
def sliceSpanRow : OpenClaim := { program := "ytjbnbbbiijdbpaagreatdoor", sum := "bf3fa0e48a2d159fa88f12190a67baf83f5bdaada9f6f3910774fd1fb4352ff4", func := "antecede/antecedelaw34.SliceSpan", spec := "sliceSpan", unfollowed := true, recurses := true, named := ["antecede/predtype.parts"], plainKeys := false, apart := false, laid := [("antecede/predtype.parts", laid_antecede_predtype_parts)] }
def SliceSpanSaid : Prop := sliceSpanRow.holds Tryz.pinned (OpenSpec.ofChange sliceSpanSpec)

/-- ITS FALSE NEIGHBOUR: 'it returns false'. Refute it at one input. -/
def sliceSpanWrong : ChangeSpec := { name := "sliceSpan", fn := fun _ => fun
  | [d1, d2, d3] => { results := [.lit (.bool false)], args := [d1, d2, d3] }
  | _ => none }
def SliceSpanWrongFalsely : Prop := sliceSpanRow.holds Tryz.pinned (OpenSpec.ofChange sliceSpanWrong)

/- THE SECOND FORM. 'bulk': how many values and letters a reading holds, each counted each time it is reached (what is shared counts as often as it is met; a slice's spare places count too). A statement '..UptoSaid' is the law's where the arguments, and the package variables that the reading takes, are together of bulk at most 1048576: NARROWER than '..Said'. Prove '..Said' where nothing that the law and all that it calls make is longer than what came in: it says more and counts as full. Else prove '..UptoSaid'. A law counts once. -/
mutual
def uptoBulk {H : Type} : DataW H → Nat
  | .lit (.string bytes) => bytes.length + 1
  | .lit _ => 1
  | .nil => 1
  | .ptr d => uptoBulk d + 1
  | .slice elems spare => uptoBulkAll elems + uptoBulkAll spare + 1
  | .agg parts => uptoBulkAll parts + 1
  | .iface _ d => uptoBulk d + 1
  | .map entries => uptoBulkEntries entries + 1
  | .held _ => 1
def uptoBulkAll {H : Type} : List (DataW H) → Nat
  | [] => 0
  | d :: r => uptoBulk d + uptoBulkAll r
def uptoBulkEntries {H : Type} : List (Lit × DataW H) → Nat
  | [] => 0
  | x :: r => uptoBulkEntry x + uptoBulkEntries r
def uptoBulkEntry {H : Type} : Lit × DataW H → Nat
  | (.string bytes, d) => bytes.length + uptoBulk d + 1
  | (_, d) => uptoBulk d + 1
 end
def uptoSmall : (H : Type) → List (DataW H) → Bool := fun _ ds => decide (uptoBulkAll ds ≤ 1048576)
def OpenSpec.upto (s : _root_.Go.ChangeSpec) : _root_.Go.OpenSpec := { _root_.Go.OpenSpec.ofChange s with cond := some uptoSmall }

/-- 'antecedelaw34.SliceLists', WHERE WHAT IT READS IS OF BULK AT MOST 1048576: true; the input reads as it did. -/
def sliceListsUptoRow : OpenClaim := { program := "ytjbnbbbiijdbpaagreatdoor", sum := "bf3fa0e48a2d159fa88f12190a67baf83f5bdaada9f6f3910774fd1fb4352ff4", func := "antecede/antecedelaw34.SliceLists", spec := "sliceLists", unfollowed := true, recurses := true, named := ["antecede/predtype.parts"], plainKeys := false, apart := false, laid := [("antecede/predtype.parts", laid_antecede_predtype_parts)], narrowed := true }
def SliceListsUptoSaid : Prop := sliceListsUptoRow.holds Tryz.pinned (OpenSpec.upto sliceListsSpec)

/-- 'antecedelaw34.SliceForms', WHERE WHAT IT READS IS OF BULK AT MOST 1048576: true; the input reads as it did. -/
def sliceFormsUptoRow : OpenClaim := { program := "ytjbnbbbiijdbpaagreatdoor", sum := "bf3fa0e48a2d159fa88f12190a67baf83f5bdaada9f6f3910774fd1fb4352ff4", func := "antecede/antecedelaw34.SliceForms", spec := "sliceForms", unfollowed := true, recurses := true, named := ["antecede/predtype.parts"], plainKeys := false, apart := false, laid := [("antecede/predtype.parts", laid_antecede_predtype_parts)], narrowed := true }
def SliceFormsUptoSaid : Prop := sliceFormsUptoRow.holds Tryz.pinned (OpenSpec.upto sliceFormsSpec)

/-- 'antecedelaw34.SliceOrders', WHERE WHAT IT READS IS OF BULK AT MOST 1048576: true; the input reads as it did. -/
def sliceOrdersUptoRow : OpenClaim := { program := "ytjbnbbbiijdbpaagreatdoor", sum := "bf3fa0e48a2d159fa88f12190a67baf83f5bdaada9f6f3910774fd1fb4352ff4", func := "antecede/antecedelaw34.SliceOrders", spec := "sliceOrders", unfollowed := true, recurses := true, named := ["antecede/predtype.parts"], plainKeys := false, apart := false, laid := [("antecede/predtype.parts", laid_antecede_predtype_parts)], narrowed := true }
def SliceOrdersUptoSaid : Prop := sliceOrdersUptoRow.holds Tryz.pinned (OpenSpec.upto sliceOrdersSpec)

/-- 'antecedelaw34.SliceLattice', WHERE WHAT IT READS IS OF BULK AT MOST 1048576: true; the input reads as it did. -/
def sliceLatticeUptoRow : OpenClaim := { program := "ytjbnbbbiijdbpaagreatdoor", sum := "bf3fa0e48a2d159fa88f12190a67baf83f5bdaada9f6f3910774fd1fb4352ff4", func := "antecede/antecedelaw34.SliceLattice", spec := "sliceLattice", unfollowed := true, recurses := true, named := ["antecede/predtype.parts"], plainKeys := false, apart := false, laid := [("antecede/predtype.parts", laid_antecede_predtype_parts)], narrowed := true }
def SliceLatticeUptoSaid : Prop := sliceLatticeUptoRow.holds Tryz.pinned (OpenSpec.upto sliceLatticeSpec)

/-- 'antecedelaw34.SliceParts', WHERE WHAT IT READS IS OF BULK AT MOST 1048576: true; the input reads as it did. -/
def slicePartsUptoRow : OpenClaim := { program := "ytjbnbbbiijdbpaagreatdoor", sum := "bf3fa0e48a2d159fa88f12190a67baf83f5bdaada9f6f3910774fd1fb4352ff4", func := "antecede/antecedelaw34.SliceParts", spec := "sliceParts", unfollowed := true, recurses := true, named := ["antecede/predtype.parts"], plainKeys := false, apart := false, laid := [("antecede/predtype.parts", laid_antecede_predtype_parts)], narrowed := true }
def SlicePartsUptoSaid : Prop := slicePartsUptoRow.holds Tryz.pinned (OpenSpec.upto slicePartsSpec)

/-- 'antecedelaw34.SliceSpan', WHERE WHAT IT READS IS OF BULK AT MOST 1048576: true; the input reads as it did. -/
def sliceSpanUptoRow : OpenClaim := { program := "ytjbnbbbiijdbpaagreatdoor", sum := "bf3fa0e48a2d159fa88f12190a67baf83f5bdaada9f6f3910774fd1fb4352ff4", func := "antecede/antecedelaw34.SliceSpan", spec := "sliceSpan", unfollowed := true, recurses := true, named := ["antecede/predtype.parts"], plainKeys := false, apart := false, laid := [("antecede/predtype.parts", laid_antecede_predtype_parts)], narrowed := true }
def SliceSpanUptoSaid : Prop := sliceSpanUptoRow.holds Tryz.pinned (OpenSpec.upto sliceSpanSpec)

end Rows
end Go.Proofs.YtjbnbbbiijdbpaaGreatDoor
