/-
  NARROWER THAN 'FOR EVERY INPUT', by the rows' own cells (each row's printed sentence says how): FnExactEqualExpr: loops · FnExactIsValidDataType: loops · FnExactIsDynSafe: loops · FnExactIsValidExpr: loops · FnExactPackageIndex: loops · FnExactNamesUnique: loops.
  DERIVED. THE GIVEN ROWS OF THIS SEAT. 6 by the template 'for every input the law returns true; each argument reads behind the call as it read before'; 0 by the template 'total and deterministic' (their statements: YtjfhgcnoielpfaaTotals.lean).
  GIVEN WITH THE SEED: the statements are not yours to turn. If you find one false, say at which input.
  Laid BY PROGRAM, IN A SANDBOX (cutbox-rows.mjs): the forced cells as the released guide's own fill.sh prints them over the translation 2976ab15189695b4… (all of the seat's roots in one cut). By AI agents, Wed Nov 11 2026. No macro, syntax, notation, axiom, sorry.
-/
import Derived.Test.YtjfhgcnoielpfaaChecked
import GoSem.Claim
import GoSem.ClaimJoined
import GoSem.ClaimMapViews
import Derived.JoinedTies
import Derived.KernelRfl
namespace Go.Proofs.Ytjfhgcnoielpfaa
/- THE CELL 'sum', in the pinned program and in every row, IS THE sha256 OF THE DUMP (.gsa) THAT YtjfhgcnoielpfaaProg.lean LOADS. Nothing in Lean hashes anything: it is a label: what it is worth is what the hold of that sum in a sandbox is worth. -/
noncomputable def Try.pinned : Pinned := { name := "ytjfhgcnoielpfaa", sum := "2976ab15189695b4c1094c01948106c29f7f031b6fea47b6488f5ee577850271", checked := Try.checked }
namespace Rows
def none {H : Type} : Left H := { results := [], args := [] }

/-- 'laws.FnExactEqualExpr': WHATEVER THE INPUT: true; the input reads as it did. -/
def fnExactEqualExprSpec : ChangeSpec := { name := "fnExactEqualExpr", fn := fun _ => fun
  | [d1, d2] => { results := [.lit (.bool true)], args := [d1, d2] }
  | _ => none }
def fnExactEqualExprRow : OpenClaim := { program := "ytjfhgcnoielpfaa", sum := "2976ab15189695b4c1094c01948106c29f7f031b6fea47b6488f5ee577850271", func := "loop.example/g00508/laws.FnExactEqualExpr", spec := "fnExactEqualExpr", unfollowed := true, recurses := true, loops := true, apart := false }
def FnExactEqualExprSaid : Prop := fnExactEqualExprRow.holds Try.pinned (OpenSpec.ofChange fnExactEqualExprSpec)

/-- ITS FALSE NEIGHBOUR: 'it returns false'. Refute it at one input. -/
def fnExactEqualExprWrong : ChangeSpec := { name := "fnExactEqualExpr", fn := fun _ => fun
  | [d1, d2] => { results := [.lit (.bool false)], args := [d1, d2] }
  | _ => none }
def FnExactEqualExprWrongFalsely : Prop := fnExactEqualExprRow.holds Try.pinned (OpenSpec.ofChange fnExactEqualExprWrong)

/-- 'laws.FnExactIsValidDataType': WHATEVER THE INPUT: true; the input reads as it did. -/
def fnExactIsValidDataTypeSpec : ChangeSpec := { name := "fnExactIsValidDataType", fn := fun _ => fun
  | [d] => { results := [.lit (.bool true)], args := [d] }
  | _ => none }
def fnExactIsValidDataTypeRow : OpenClaim := { program := "ytjfhgcnoielpfaa", sum := "2976ab15189695b4c1094c01948106c29f7f031b6fea47b6488f5ee577850271", func := "loop.example/g00508/laws.FnExactIsValidDataType", spec := "fnExactIsValidDataType", unfollowed := true, recurses := true, loops := true, apart := false }
def FnExactIsValidDataTypeSaid : Prop := fnExactIsValidDataTypeRow.holds Try.pinned (OpenSpec.ofChange fnExactIsValidDataTypeSpec)

/-- ITS FALSE NEIGHBOUR: 'it returns false'. Refute it at one input. -/
def fnExactIsValidDataTypeWrong : ChangeSpec := { name := "fnExactIsValidDataType", fn := fun _ => fun
  | [d] => { results := [.lit (.bool false)], args := [d] }
  | _ => none }
def FnExactIsValidDataTypeWrongFalsely : Prop := fnExactIsValidDataTypeRow.holds Try.pinned (OpenSpec.ofChange fnExactIsValidDataTypeWrong)

/-- 'laws.FnExactIsDynSafe': WHATEVER THE INPUT: true; the input reads as it did. -/
def fnExactIsDynSafeSpec : ChangeSpec := { name := "fnExactIsDynSafe", fn := fun _ => fun
  | [d] => { results := [.lit (.bool true)], args := [d] }
  | _ => none }
def fnExactIsDynSafeRow : OpenClaim := { program := "ytjfhgcnoielpfaa", sum := "2976ab15189695b4c1094c01948106c29f7f031b6fea47b6488f5ee577850271", func := "loop.example/g00508/laws.FnExactIsDynSafe", spec := "fnExactIsDynSafe", unfollowed := true, recurses := true, loops := true, apart := false }
def FnExactIsDynSafeSaid : Prop := fnExactIsDynSafeRow.holds Try.pinned (OpenSpec.ofChange fnExactIsDynSafeSpec)

/-- ITS FALSE NEIGHBOUR: 'it returns false'. Refute it at one input. -/
def fnExactIsDynSafeWrong : ChangeSpec := { name := "fnExactIsDynSafe", fn := fun _ => fun
  | [d] => { results := [.lit (.bool false)], args := [d] }
  | _ => none }
def FnExactIsDynSafeWrongFalsely : Prop := fnExactIsDynSafeRow.holds Try.pinned (OpenSpec.ofChange fnExactIsDynSafeWrong)

/-- 'laws.FnExactIsValidExpr': WHATEVER THE INPUT: true; the input reads as it did. -/
def fnExactIsValidExprSpec : ChangeSpec := { name := "fnExactIsValidExpr", fn := fun _ => fun
  | [d] => { results := [.lit (.bool true)], args := [d] }
  | _ => none }
def fnExactIsValidExprRow : OpenClaim := { program := "ytjfhgcnoielpfaa", sum := "2976ab15189695b4c1094c01948106c29f7f031b6fea47b6488f5ee577850271", func := "loop.example/g00508/laws.FnExactIsValidExpr", spec := "fnExactIsValidExpr", inPlace := ["internal/bytealg.IndexByteString", "internal/bytealg.IndexString"], unfollowed := true, recurses := true, named := ["internal/bytealg.MaxLen"], loops := true, apart := false }
def FnExactIsValidExprSaid : Prop := fnExactIsValidExprRow.holds Try.pinned (OpenSpec.ofChange fnExactIsValidExprSpec)

/-- ITS FALSE NEIGHBOUR: 'it returns false'. Refute it at one input. -/
def fnExactIsValidExprWrong : ChangeSpec := { name := "fnExactIsValidExpr", fn := fun _ => fun
  | [d] => { results := [.lit (.bool false)], args := [d] }
  | _ => none }
def FnExactIsValidExprWrongFalsely : Prop := fnExactIsValidExprRow.holds Try.pinned (OpenSpec.ofChange fnExactIsValidExprWrong)

/-- 'laws.FnExactPackageIndex': WHATEVER THE INPUT: true; the input reads as it did. -/
def fnExactPackageIndexSpec : ChangeSpec := { name := "fnExactPackageIndex", fn := fun _ => fun
  | [d1, d2] => { results := [.lit (.bool true)], args := [d1, d2] }
  | _ => none }
def fnExactPackageIndexRow : OpenClaim := { program := "ytjfhgcnoielpfaa", sum := "2976ab15189695b4c1094c01948106c29f7f031b6fea47b6488f5ee577850271", func := "loop.example/g00508/laws.FnExactPackageIndex", spec := "fnExactPackageIndex", unfollowed := true, recurses := true, loops := true, apart := false }
def FnExactPackageIndexSaid : Prop := fnExactPackageIndexRow.holds Try.pinned (OpenSpec.ofChange fnExactPackageIndexSpec)

/-- ITS FALSE NEIGHBOUR: 'it returns false'. Refute it at one input. -/
def fnExactPackageIndexWrong : ChangeSpec := { name := "fnExactPackageIndex", fn := fun _ => fun
  | [d1, d2] => { results := [.lit (.bool false)], args := [d1, d2] }
  | _ => none }
def FnExactPackageIndexWrongFalsely : Prop := fnExactPackageIndexRow.holds Try.pinned (OpenSpec.ofChange fnExactPackageIndexWrong)

/-- 'laws.FnExactNamesUnique': WHATEVER THE INPUT: true; the input reads as it did. -/
def fnExactNamesUniqueSpec : ChangeSpec := { name := "fnExactNamesUnique", fn := fun _ => fun
  | [d] => { results := [.lit (.bool true)], args := [d] }
  | _ => none }
def fnExactNamesUniqueRow : OpenClaim := { program := "ytjfhgcnoielpfaa", sum := "2976ab15189695b4c1094c01948106c29f7f031b6fea47b6488f5ee577850271", func := "loop.example/g00508/laws.FnExactNamesUnique", spec := "fnExactNamesUnique", recurses := true, loops := true, apart := false }
def FnExactNamesUniqueSaid : Prop := fnExactNamesUniqueRow.holds Try.pinned (OpenSpec.ofChange fnExactNamesUniqueSpec)

/-- ITS FALSE NEIGHBOUR: 'it returns false'. Refute it at one input. -/
def fnExactNamesUniqueWrong : ChangeSpec := { name := "fnExactNamesUnique", fn := fun _ => fun
  | [d] => { results := [.lit (.bool false)], args := [d] }
  | _ => none }
def FnExactNamesUniqueWrongFalsely : Prop := fnExactNamesUniqueRow.holds Try.pinned (OpenSpec.ofChange fnExactNamesUniqueWrong)

/- THE SECOND FORM. 'bulk': how many values and letters a reading holds, each counted each time it is reached (what is shared counts as often as it is met; a slice's spare places count too). A statement '..UptoSaid' is the law's where the arguments, and the package variables that the reading takes, are together of bulk at most 1048576: NARROWER than '..Said'. Prove '..Said' where nothing that the law and all that it calls make is longer than what came in: it says more and counts as full. Else prove '..UptoSaid'. A law counts once. -/
mutual
def uptoBulk {H : Type} : DataW H → Nat
  | .lit (.string bytes) => bytes.length + 1
  | .lit _ => 1
  | .nil => 1
  | .ptr d => uptoBulk d + 1
  | .slice elems spare => uptoBulkAll elems + uptoBulkAll spare + 1
  | .agg parts => uptoBulkAll parts + 1
  | .iface _ d => uptoBulk d + 1
  | .map entries => uptoBulkEntries entries + 1
  | .held _ => 1
def uptoBulkAll {H : Type} : List (DataW H) → Nat
  | [] => 0
  | d :: r => uptoBulk d + uptoBulkAll r
def uptoBulkEntries {H : Type} : List (Lit × DataW H) → Nat
  | [] => 0
  | x :: r => uptoBulkEntry x + uptoBulkEntries r
def uptoBulkEntry {H : Type} : Lit × DataW H → Nat
  | (.string bytes, d) => bytes.length + uptoBulk d + 1
  | (_, d) => uptoBulk d + 1
 end
def uptoSmall : (H : Type) → List (DataW H) → Bool := fun _ ds => decide (uptoBulkAll ds ≤ 1048576)
def OpenSpec.upto (s : _root_.Go.ChangeSpec) : _root_.Go.OpenSpec := { _root_.Go.OpenSpec.ofChange s with cond := some uptoSmall }

/-- 'laws.FnExactEqualExpr', WHERE WHAT IT READS IS OF BULK AT MOST 1048576: true; the input reads as it did. -/
def fnExactEqualExprUptoRow : OpenClaim := { program := "ytjfhgcnoielpfaa", sum := "2976ab15189695b4c1094c01948106c29f7f031b6fea47b6488f5ee577850271", func := "loop.example/g00508/laws.FnExactEqualExpr", spec := "fnExactEqualExpr", unfollowed := true, recurses := true, loops := true, apart := false, narrowed := true }
def FnExactEqualExprUptoSaid : Prop := fnExactEqualExprUptoRow.holds Try.pinned (OpenSpec.upto fnExactEqualExprSpec)

/-- 'laws.FnExactIsValidDataType', WHERE WHAT IT READS IS OF BULK AT MOST 1048576: true; the input reads as it did. -/
def fnExactIsValidDataTypeUptoRow : OpenClaim := { program := "ytjfhgcnoielpfaa", sum := "2976ab15189695b4c1094c01948106c29f7f031b6fea47b6488f5ee577850271", func := "loop.example/g00508/laws.FnExactIsValidDataType", spec := "fnExactIsValidDataType", unfollowed := true, recurses := true, loops := true, apart := false, narrowed := true }
def FnExactIsValidDataTypeUptoSaid : Prop := fnExactIsValidDataTypeUptoRow.holds Try.pinned (OpenSpec.upto fnExactIsValidDataTypeSpec)

/-- 'laws.FnExactIsDynSafe', WHERE WHAT IT READS IS OF BULK AT MOST 1048576: true; the input reads as it did. -/
def fnExactIsDynSafeUptoRow : OpenClaim := { program := "ytjfhgcnoielpfaa", sum := "2976ab15189695b4c1094c01948106c29f7f031b6fea47b6488f5ee577850271", func := "loop.example/g00508/laws.FnExactIsDynSafe", spec := "fnExactIsDynSafe", unfollowed := true, recurses := true, loops := true, apart := false, narrowed := true }
def FnExactIsDynSafeUptoSaid : Prop := fnExactIsDynSafeUptoRow.holds Try.pinned (OpenSpec.upto fnExactIsDynSafeSpec)

/-- 'laws.FnExactIsValidExpr', WHERE WHAT IT READS IS OF BULK AT MOST 1048576: true; the input reads as it did. -/
def fnExactIsValidExprUptoRow : OpenClaim := { program := "ytjfhgcnoielpfaa", sum := "2976ab15189695b4c1094c01948106c29f7f031b6fea47b6488f5ee577850271", func := "loop.example/g00508/laws.FnExactIsValidExpr", spec := "fnExactIsValidExpr", inPlace := ["internal/bytealg.IndexByteString", "internal/bytealg.IndexString"], unfollowed := true, recurses := true, named := ["internal/bytealg.MaxLen"], loops := true, apart := false, narrowed := true }
def FnExactIsValidExprUptoSaid : Prop := fnExactIsValidExprUptoRow.holds Try.pinned (OpenSpec.upto fnExactIsValidExprSpec)

/-- 'laws.FnExactPackageIndex', WHERE WHAT IT READS IS OF BULK AT MOST 1048576: true; the input reads as it did. -/
def fnExactPackageIndexUptoRow : OpenClaim := { program := "ytjfhgcnoielpfaa", sum := "2976ab15189695b4c1094c01948106c29f7f031b6fea47b6488f5ee577850271", func := "loop.example/g00508/laws.FnExactPackageIndex", spec := "fnExactPackageIndex", unfollowed := true, recurses := true, loops := true, apart := false, narrowed := true }
def FnExactPackageIndexUptoSaid : Prop := fnExactPackageIndexUptoRow.holds Try.pinned (OpenSpec.upto fnExactPackageIndexSpec)

/-- 'laws.FnExactNamesUnique', WHERE WHAT IT READS IS OF BULK AT MOST 1048576: true; the input reads as it did. -/
def fnExactNamesUniqueUptoRow : OpenClaim := { program := "ytjfhgcnoielpfaa", sum := "2976ab15189695b4c1094c01948106c29f7f031b6fea47b6488f5ee577850271", func := "loop.example/g00508/laws.FnExactNamesUnique", spec := "fnExactNamesUnique", recurses := true, loops := true, apart := false, narrowed := true }
def FnExactNamesUniqueUptoSaid : Prop := fnExactNamesUniqueUptoRow.holds Try.pinned (OpenSpec.upto fnExactNamesUniqueSpec)

end Rows
end Go.Proofs.Ytjfhgcnoielpfaa
