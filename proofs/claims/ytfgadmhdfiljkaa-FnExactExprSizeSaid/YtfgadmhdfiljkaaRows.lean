/-
  NARROWER THAN 'FOR EVERY INPUT', by the rows' own cells (each row's printed sentence says how): FnExactMoreSpecific: loops · FnExactIsValidBound: loops · FnExactExprSize: loops.
  DERIVED. THE GIVEN ROWS OF THIS SEAT. 6 by the template 'for every input the law returns true; each argument reads behind the call as it read before'; 0 by the template 'total and deterministic' (their statements: YtfgadmhdfiljkaaTotals.lean).
  GIVEN WITH THE SEED: the statements are not yours to turn. If you find one false, say at which input.
  Laid BY PROGRAM, IN A SANDBOX (cutbox-rows.mjs): the forced cells as the released guide's own fill.sh prints them over the translation 4cb625ff64a5fbce… (all of the seat's roots in one cut). By AI agents, Wed Nov 11 2026. No macro, syntax, notation, axiom, sorry.
-/
import Derived.Test.YtfgadmhdfiljkaaChecked
import GoSem.Claim
import GoSem.ClaimJoined
import GoSem.ClaimMapViews
import Derived.JoinedTies
import Derived.KernelRfl
namespace Go.Proofs.Ytfgadmhdfiljkaa
/- THE CELL 'sum', in the pinned program and in every row, IS THE sha256 OF THE DUMP (.gsa) THAT YtfgadmhdfiljkaaProg.lean LOADS. Nothing in Lean hashes anything: it is a label: what it is worth is what the hold of that sum in a sandbox is worth. -/
noncomputable def Try.pinned : Pinned := { name := "ytfgadmhdfiljkaa", sum := "4cb625ff64a5fbce6866d66dfcde36b7383c786c8a855789b5fe3f770f8a969f", checked := Try.checked }
namespace Rows
def none {H : Type} : Left H := { results := [], args := [] }

/-- 'laws.FnExactFormErrorName': WHATEVER THE INPUT: true; the input reads as it did. -/
def fnExactFormErrorNameSpec : ChangeSpec := { name := "fnExactFormErrorName", fn := fun _ => fun
  | [d] => { results := [.lit (.bool true)], args := [d] }
  | _ => none }
def fnExactFormErrorNameRow : OpenClaim := { program := "ytfgadmhdfiljkaa", sum := "4cb625ff64a5fbce6866d66dfcde36b7383c786c8a855789b5fe3f770f8a969f", func := "loop.example/g00508/laws.FnExactFormErrorName", spec := "fnExactFormErrorName", apart := false }
def FnExactFormErrorNameSaid : Prop := fnExactFormErrorNameRow.holds Try.pinned (OpenSpec.ofChange fnExactFormErrorNameSpec)

/-- ITS FALSE NEIGHBOUR: 'it returns false'. Refute it at one input. -/
def fnExactFormErrorNameWrong : ChangeSpec := { name := "fnExactFormErrorName", fn := fun _ => fun
  | [d] => { results := [.lit (.bool false)], args := [d] }
  | _ => none }
def FnExactFormErrorNameWrongFalsely : Prop := fnExactFormErrorNameRow.holds Try.pinned (OpenSpec.ofChange fnExactFormErrorNameWrong)

/-- 'laws.FnExactMoreSpecific': WHATEVER THE INPUT: true; the input reads as it did. -/
def fnExactMoreSpecificSpec : ChangeSpec := { name := "fnExactMoreSpecific", fn := fun _ => fun
  | [d1, d2] => { results := [.lit (.bool true)], args := [d1, d2] }
  | _ => none }
def fnExactMoreSpecificRow : OpenClaim := { program := "ytfgadmhdfiljkaa", sum := "4cb625ff64a5fbce6866d66dfcde36b7383c786c8a855789b5fe3f770f8a969f", func := "loop.example/g00508/laws.FnExactMoreSpecific", spec := "fnExactMoreSpecific", unfollowed := true, recurses := true, loops := true, apart := false }
def FnExactMoreSpecificSaid : Prop := fnExactMoreSpecificRow.holds Try.pinned (OpenSpec.ofChange fnExactMoreSpecificSpec)

/-- ITS FALSE NEIGHBOUR: 'it returns false'. Refute it at one input. -/
def fnExactMoreSpecificWrong : ChangeSpec := { name := "fnExactMoreSpecific", fn := fun _ => fun
  | [d1, d2] => { results := [.lit (.bool false)], args := [d1, d2] }
  | _ => none }
def FnExactMoreSpecificWrongFalsely : Prop := fnExactMoreSpecificRow.holds Try.pinned (OpenSpec.ofChange fnExactMoreSpecificWrong)

/-- 'laws.FnExactIsValidBound': WHATEVER THE INPUT: true; the input reads as it did. -/
def fnExactIsValidBoundSpec : ChangeSpec := { name := "fnExactIsValidBound", fn := fun _ => fun
  | [d] => { results := [.lit (.bool true)], args := [d] }
  | _ => none }
def fnExactIsValidBoundRow : OpenClaim := { program := "ytfgadmhdfiljkaa", sum := "4cb625ff64a5fbce6866d66dfcde36b7383c786c8a855789b5fe3f770f8a969f", func := "loop.example/g00508/laws.FnExactIsValidBound", spec := "fnExactIsValidBound", unfollowed := true, recurses := true, loops := true, apart := false }
def FnExactIsValidBoundSaid : Prop := fnExactIsValidBoundRow.holds Try.pinned (OpenSpec.ofChange fnExactIsValidBoundSpec)

/-- ITS FALSE NEIGHBOUR: 'it returns false'. Refute it at one input. -/
def fnExactIsValidBoundWrong : ChangeSpec := { name := "fnExactIsValidBound", fn := fun _ => fun
  | [d] => { results := [.lit (.bool false)], args := [d] }
  | _ => none }
def FnExactIsValidBoundWrongFalsely : Prop := fnExactIsValidBoundRow.holds Try.pinned (OpenSpec.ofChange fnExactIsValidBoundWrong)

/-- 'laws.FnExactExprSize': WHATEVER THE INPUT: true; the input reads as it did. -/
def fnExactExprSizeSpec : ChangeSpec := { name := "fnExactExprSize", fn := fun _ => fun
  | [d] => { results := [.lit (.bool true)], args := [d] }
  | _ => none }
def fnExactExprSizeRow : OpenClaim := { program := "ytfgadmhdfiljkaa", sum := "4cb625ff64a5fbce6866d66dfcde36b7383c786c8a855789b5fe3f770f8a969f", func := "loop.example/g00508/laws.FnExactExprSize", spec := "fnExactExprSize", recurses := true, loops := true, apart := false }
def FnExactExprSizeSaid : Prop := fnExactExprSizeRow.holds Try.pinned (OpenSpec.ofChange fnExactExprSizeSpec)

/-- ITS FALSE NEIGHBOUR: 'it returns false'. Refute it at one input. -/
def fnExactExprSizeWrong : ChangeSpec := { name := "fnExactExprSize", fn := fun _ => fun
  | [d] => { results := [.lit (.bool false)], args := [d] }
  | _ => none }
def FnExactExprSizeWrongFalsely : Prop := fnExactExprSizeRow.holds Try.pinned (OpenSpec.ofChange fnExactExprSizeWrong)

/-- 'laws.FnSpecial': WHATEVER THE INPUT: true; the input reads as it did. -/
def fnSpecialSpec : ChangeSpec := { name := "fnSpecial", fn := fun _ => fun
  | [d] => { results := [.lit (.bool true)], args := [d] }
  | _ => none }
def fnSpecialRow : OpenClaim := { program := "ytfgadmhdfiljkaa", sum := "4cb625ff64a5fbce6866d66dfcde36b7383c786c8a855789b5fe3f770f8a969f", func := "loop.example/g00508/laws.FnSpecial", spec := "fnSpecial", unfollowed := true, recurses := true, apart := false }
def FnSpecialSaid : Prop := fnSpecialRow.holds Try.pinned (OpenSpec.ofChange fnSpecialSpec)

/-- ITS FALSE NEIGHBOUR: 'it returns false'. Refute it at one input. -/
def fnSpecialWrong : ChangeSpec := { name := "fnSpecial", fn := fun _ => fun
  | [d] => { results := [.lit (.bool false)], args := [d] }
  | _ => none }
def FnSpecialWrongFalsely : Prop := fnSpecialRow.holds Try.pinned (OpenSpec.ofChange fnSpecialWrong)

/-- 'laws.FnGround': WHATEVER THE INPUT: true; the input reads as it did. -/
def fnGroundSpec : ChangeSpec := { name := "fnGround", fn := fun _ => fun
  | [d] => { results := [.lit (.bool true)], args := [d] }
  | _ => none }
def fnGroundRow : OpenClaim := { program := "ytfgadmhdfiljkaa", sum := "4cb625ff64a5fbce6866d66dfcde36b7383c786c8a855789b5fe3f770f8a969f", func := "loop.example/g00508/laws.FnGround", spec := "fnGround", unfollowed := true, recurses := true, apart := false }
def FnGroundSaid : Prop := fnGroundRow.holds Try.pinned (OpenSpec.ofChange fnGroundSpec)

/-- ITS FALSE NEIGHBOUR: 'it returns false'. Refute it at one input. -/
def fnGroundWrong : ChangeSpec := { name := "fnGround", fn := fun _ => fun
  | [d] => { results := [.lit (.bool false)], args := [d] }
  | _ => none }
def FnGroundWrongFalsely : Prop := fnGroundRow.holds Try.pinned (OpenSpec.ofChange fnGroundWrong)

/- THE SECOND FORM. 'bulk': how many values and letters a reading holds, each counted each time it is reached (what is shared counts as often as it is met; a slice's spare places count too). A statement '..UptoSaid' is the law's where the arguments, and the package variables that the reading takes, are together of bulk at most 1048576: NARROWER than '..Said'. Prove '..Said' where nothing that the law and all that it calls make is longer than what came in: it says more and counts as full. Else prove '..UptoSaid'. A law counts once. -/
mutual
def uptoBulk {H : Type} : DataW H → Nat
  | .lit (.string bytes) => bytes.length + 1
  | .lit _ => 1
  | .nil => 1
  | .ptr d => uptoBulk d + 1
  | .slice elems spare => uptoBulkAll elems + uptoBulkAll spare + 1
  | .agg parts => uptoBulkAll parts + 1
  | .iface _ d => uptoBulk d + 1
  | .map entries => uptoBulkEntries entries + 1
  | .held _ => 1
def uptoBulkAll {H : Type} : List (DataW H) → Nat
  | [] => 0
  | d :: r => uptoBulk d + uptoBulkAll r
def uptoBulkEntries {H : Type} : List (Lit × DataW H) → Nat
  | [] => 0
  | x :: r => uptoBulkEntry x + uptoBulkEntries r
def uptoBulkEntry {H : Type} : Lit × DataW H → Nat
  | (.string bytes, d) => bytes.length + uptoBulk d + 1
  | (_, d) => uptoBulk d + 1
 end
def uptoSmall : (H : Type) → List (DataW H) → Bool := fun _ ds => decide (uptoBulkAll ds ≤ 1048576)
def OpenSpec.upto (s : _root_.Go.ChangeSpec) : _root_.Go.OpenSpec := { _root_.Go.OpenSpec.ofChange s with cond := some uptoSmall }

/-- 'laws.FnExactFormErrorName', WHERE WHAT IT READS IS OF BULK AT MOST 1048576: true; the input reads as it did. -/
def fnExactFormErrorNameUptoRow : OpenClaim := { program := "ytfgadmhdfiljkaa", sum := "4cb625ff64a5fbce6866d66dfcde36b7383c786c8a855789b5fe3f770f8a969f", func := "loop.example/g00508/laws.FnExactFormErrorName", spec := "fnExactFormErrorName", apart := false, narrowed := true }
def FnExactFormErrorNameUptoSaid : Prop := fnExactFormErrorNameUptoRow.holds Try.pinned (OpenSpec.upto fnExactFormErrorNameSpec)

/-- 'laws.FnExactMoreSpecific', WHERE WHAT IT READS IS OF BULK AT MOST 1048576: true; the input reads as it did. -/
def fnExactMoreSpecificUptoRow : OpenClaim := { program := "ytfgadmhdfiljkaa", sum := "4cb625ff64a5fbce6866d66dfcde36b7383c786c8a855789b5fe3f770f8a969f", func := "loop.example/g00508/laws.FnExactMoreSpecific", spec := "fnExactMoreSpecific", unfollowed := true, recurses := true, loops := true, apart := false, narrowed := true }
def FnExactMoreSpecificUptoSaid : Prop := fnExactMoreSpecificUptoRow.holds Try.pinned (OpenSpec.upto fnExactMoreSpecificSpec)

/-- 'laws.FnExactIsValidBound', WHERE WHAT IT READS IS OF BULK AT MOST 1048576: true; the input reads as it did. -/
def fnExactIsValidBoundUptoRow : OpenClaim := { program := "ytfgadmhdfiljkaa", sum := "4cb625ff64a5fbce6866d66dfcde36b7383c786c8a855789b5fe3f770f8a969f", func := "loop.example/g00508/laws.FnExactIsValidBound", spec := "fnExactIsValidBound", unfollowed := true, recurses := true, loops := true, apart := false, narrowed := true }
def FnExactIsValidBoundUptoSaid : Prop := fnExactIsValidBoundUptoRow.holds Try.pinned (OpenSpec.upto fnExactIsValidBoundSpec)

/-- 'laws.FnExactExprSize', WHERE WHAT IT READS IS OF BULK AT MOST 1048576: true; the input reads as it did. -/
def fnExactExprSizeUptoRow : OpenClaim := { program := "ytfgadmhdfiljkaa", sum := "4cb625ff64a5fbce6866d66dfcde36b7383c786c8a855789b5fe3f770f8a969f", func := "loop.example/g00508/laws.FnExactExprSize", spec := "fnExactExprSize", recurses := true, loops := true, apart := false, narrowed := true }
def FnExactExprSizeUptoSaid : Prop := fnExactExprSizeUptoRow.holds Try.pinned (OpenSpec.upto fnExactExprSizeSpec)

/-- 'laws.FnSpecial', WHERE WHAT IT READS IS OF BULK AT MOST 1048576: true; the input reads as it did. -/
def fnSpecialUptoRow : OpenClaim := { program := "ytfgadmhdfiljkaa", sum := "4cb625ff64a5fbce6866d66dfcde36b7383c786c8a855789b5fe3f770f8a969f", func := "loop.example/g00508/laws.FnSpecial", spec := "fnSpecial", unfollowed := true, recurses := true, apart := false, narrowed := true }
def FnSpecialUptoSaid : Prop := fnSpecialUptoRow.holds Try.pinned (OpenSpec.upto fnSpecialSpec)

/-- 'laws.FnGround', WHERE WHAT IT READS IS OF BULK AT MOST 1048576: true; the input reads as it did. -/
def fnGroundUptoRow : OpenClaim := { program := "ytfgadmhdfiljkaa", sum := "4cb625ff64a5fbce6866d66dfcde36b7383c786c8a855789b5fe3f770f8a969f", func := "loop.example/g00508/laws.FnGround", spec := "fnGround", unfollowed := true, recurses := true, apart := false, narrowed := true }
def FnGroundUptoSaid : Prop := fnGroundUptoRow.holds Try.pinned (OpenSpec.upto fnGroundSpec)

end Rows
end Go.Proofs.Ytfgadmhdfiljkaa
