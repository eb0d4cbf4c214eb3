/-
  NARROWER THAN 'FOR EVERY INPUT', by the rows' own cells (each row's printed sentence says how): FnExactCheckExpr: loops · FnExactIsValidPackage: loops · FnExactDependenciesValid: loops · FnExactAllInstances: loops · FnExactVisiblePackages: loops · FnExactFindDataType: loops · FnExactInstanceAt: loops.
  DERIVED. THE GIVEN ROWS OF THIS SEAT. 7 by the template 'for every input the law returns true; each argument reads behind the call as it read before'; 0 by the template 'total and deterministic' (their statements: YtnleocfkdidhoaaGreatTotals.lean).
  GIVEN WITH THE SEED: the statements are not yours to turn. If you find one false, say at which input.
  Laid BY PROGRAM, IN A SANDBOX (cutbox-rows.mjs): the forced cells as the released guide's own fill.sh prints them over the translation ced03f5dbf8bc0f6… (all of the seat's roots in one cut). By AI agents, Wed Nov 11 2026. No macro, syntax, notation, axiom, sorry.
-/
import Derived.Test.YtnleocfkdidhoaaGreatChecked
import GoSem.Claim
import GoSem.ClaimJoined
import GoSem.ClaimMapViews
import Derived.JoinedTies
import Derived.KernelRfl
namespace Go.Proofs.YtnleocfkdidhoaaGreat
/- THE CELL 'sum', in the pinned program and in every row, IS THE sha256 OF THE DUMP (.gsa) THAT YtnleocfkdidhoaaGreatProg.lean LOADS. Nothing in Lean hashes anything: it is a label: what it is worth is what the hold of that sum in a sandbox is worth. -/
noncomputable def Tryz.pinned : Pinned := { name := "ytnleocfkdidhoaagreat", sum := "ced03f5dbf8bc0f61f72eee8b308f623b4f1024229152bce02f2b299463743ee", checked := Tryz.checked }
namespace Rows
def none {H : Type} : Left H := { results := [], args := [] }

/-- 'laws.FnExactCheckExpr': WHATEVER THE INPUT: true; the input reads as it did. -/
def fnExactCheckExprSpec : ChangeSpec := { name := "fnExactCheckExpr", fn := fun _ => fun
  | [d1, d2, d3] => { results := [.lit (.bool true)], args := [d1, d2, d3] }
  | _ => none }
def fnExactCheckExprRow : OpenClaim := { program := "ytnleocfkdidhoaagreat", sum := "ced03f5dbf8bc0f61f72eee8b308f623b4f1024229152bce02f2b299463743ee", func := "loop.example/g00508/laws.FnExactCheckExpr", spec := "fnExactCheckExpr", unfollowed := true, recurses := true, loops := true, apart := false }
def FnExactCheckExprSaid : Prop := fnExactCheckExprRow.holds Tryz.pinned (OpenSpec.ofChange fnExactCheckExprSpec)

/-- ITS FALSE NEIGHBOUR: 'it returns false'. Refute it at one input. -/
def fnExactCheckExprWrong : ChangeSpec := { name := "fnExactCheckExpr", fn := fun _ => fun
  | [d1, d2, d3] => { results := [.lit (.bool false)], args := [d1, d2, d3] }
  | _ => none }
def FnExactCheckExprWrongFalsely : Prop := fnExactCheckExprRow.holds Tryz.pinned (OpenSpec.ofChange fnExactCheckExprWrong)

/-- 'laws.FnExactIsValidPackage': WHATEVER THE INPUT: true; the input reads as it did. -/
def fnExactIsValidPackageSpec : ChangeSpec := { name := "fnExactIsValidPackage", fn := fun _ => fun
  | [d] => { results := [.lit (.bool true)], args := [d] }
  | _ => none }
def fnExactIsValidPackageRow : OpenClaim := { program := "ytnleocfkdidhoaagreat", sum := "ced03f5dbf8bc0f61f72eee8b308f623b4f1024229152bce02f2b299463743ee", func := "loop.example/g00508/laws.FnExactIsValidPackage", spec := "fnExactIsValidPackage", inPlace := ["internal/bytealg.IndexByteString", "internal/bytealg.IndexString"], unfollowed := true, recurses := true, named := ["internal/bytealg.MaxLen"], loops := true, apart := false }
def FnExactIsValidPackageSaid : Prop := fnExactIsValidPackageRow.holds Tryz.pinned (OpenSpec.ofChange fnExactIsValidPackageSpec)

/-- ITS FALSE NEIGHBOUR: 'it returns false'. Refute it at one input. -/
def fnExactIsValidPackageWrong : ChangeSpec := { name := "fnExactIsValidPackage", fn := fun _ => fun
  | [d] => { results := [.lit (.bool false)], args := [d] }
  | _ => none }
def FnExactIsValidPackageWrongFalsely : Prop := fnExactIsValidPackageRow.holds Tryz.pinned (OpenSpec.ofChange fnExactIsValidPackageWrong)

/-- 'laws.FnExactDependenciesValid': WHATEVER THE INPUT: true; the input reads as it did. -/
def fnExactDependenciesValidSpec : ChangeSpec := { name := "fnExactDependenciesValid", fn := fun _ => fun
  | [d] => { results := [.lit (.bool true)], args := [d] }
  | _ => none }
def fnExactDependenciesValidRow : OpenClaim := { program := "ytnleocfkdidhoaagreat", sum := "ced03f5dbf8bc0f61f72eee8b308f623b4f1024229152bce02f2b299463743ee", func := "loop.example/g00508/laws.FnExactDependenciesValid", spec := "fnExactDependenciesValid", inPlace := ["internal/bytealg.IndexByteString", "internal/bytealg.IndexString"], unfollowed := true, recurses := true, named := ["internal/bytealg.MaxLen"], loops := true, apart := false }
def FnExactDependenciesValidSaid : Prop := fnExactDependenciesValidRow.holds Tryz.pinned (OpenSpec.ofChange fnExactDependenciesValidSpec)

/-- ITS FALSE NEIGHBOUR: 'it returns false'. Refute it at one input. -/
def fnExactDependenciesValidWrong : ChangeSpec := { name := "fnExactDependenciesValid", fn := fun _ => fun
  | [d] => { results := [.lit (.bool false)], args := [d] }
  | _ => none }
def FnExactDependenciesValidWrongFalsely : Prop := fnExactDependenciesValidRow.holds Tryz.pinned (OpenSpec.ofChange fnExactDependenciesValidWrong)

/-- 'laws.FnExactAllInstances': WHATEVER THE INPUT: true; the input reads as it did. -/
def fnExactAllInstancesSpec : ChangeSpec := { name := "fnExactAllInstances", fn := fun _ => fun
  | [d] => { results := [.lit (.bool true)], args := [d] }
  | _ => none }
def fnExactAllInstancesRow : OpenClaim := { program := "ytnleocfkdidhoaagreat", sum := "ced03f5dbf8bc0f61f72eee8b308f623b4f1024229152bce02f2b299463743ee", func := "loop.example/g00508/laws.FnExactAllInstances", spec := "fnExactAllInstances", recurses := true, loops := true, apart := false }
def FnExactAllInstancesSaid : Prop := fnExactAllInstancesRow.holds Tryz.pinned (OpenSpec.ofChange fnExactAllInstancesSpec)

/-- ITS FALSE NEIGHBOUR: 'it returns false'. Refute it at one input. -/
def fnExactAllInstancesWrong : ChangeSpec := { name := "fnExactAllInstances", fn := fun _ => fun
  | [d] => { results := [.lit (.bool false)], args := [d] }
  | _ => none }
def FnExactAllInstancesWrongFalsely : Prop := fnExactAllInstancesRow.holds Tryz.pinned (OpenSpec.ofChange fnExactAllInstancesWrong)

/-- 'laws.FnExactVisiblePackages': WHATEVER THE INPUT: true; the input reads as it did. -/
def fnExactVisiblePackagesSpec : ChangeSpec := { name := "fnExactVisiblePackages", fn := fun _ => fun
  | [d1, d2] => { results := [.lit (.bool true)], args := [d1, d2] }
  | _ => none }
def fnExactVisiblePackagesRow : OpenClaim := { program := "ytnleocfkdidhoaagreat", sum := "ced03f5dbf8bc0f61f72eee8b308f623b4f1024229152bce02f2b299463743ee", func := "loop.example/g00508/laws.FnExactVisiblePackages", spec := "fnExactVisiblePackages", unfollowed := true, recurses := true, loops := true, apart := false }
def FnExactVisiblePackagesSaid : Prop := fnExactVisiblePackagesRow.holds Tryz.pinned (OpenSpec.ofChange fnExactVisiblePackagesSpec)

/-- ITS FALSE NEIGHBOUR: 'it returns false'. Refute it at one input. -/
def fnExactVisiblePackagesWrong : ChangeSpec := { name := "fnExactVisiblePackages", fn := fun _ => fun
  | [d1, d2] => { results := [.lit (.bool false)], args := [d1, d2] }
  | _ => none }
def FnExactVisiblePackagesWrongFalsely : Prop := fnExactVisiblePackagesRow.holds Tryz.pinned (OpenSpec.ofChange fnExactVisiblePackagesWrong)

/-- 'laws.FnExactFindDataType': WHATEVER THE INPUT: true; the input reads as it did. -/
def fnExactFindDataTypeSpec : ChangeSpec := { name := "fnExactFindDataType", fn := fun _ => fun
  | [d1, d2] => { results := [.lit (.bool true)], args := [d1, d2] }
  | _ => none }
def fnExactFindDataTypeRow : OpenClaim := { program := "ytnleocfkdidhoaagreat", sum := "ced03f5dbf8bc0f61f72eee8b308f623b4f1024229152bce02f2b299463743ee", func := "loop.example/g00508/laws.FnExactFindDataType", spec := "fnExactFindDataType", recurses := true, loops := true, apart := false }
def FnExactFindDataTypeSaid : Prop := fnExactFindDataTypeRow.holds Tryz.pinned (OpenSpec.ofChange fnExactFindDataTypeSpec)

/-- ITS FALSE NEIGHBOUR: 'it returns false'. Refute it at one input. -/
def fnExactFindDataTypeWrong : ChangeSpec := { name := "fnExactFindDataType", fn := fun _ => fun
  | [d1, d2] => { results := [.lit (.bool false)], args := [d1, d2] }
  | _ => none }
def FnExactFindDataTypeWrongFalsely : Prop := fnExactFindDataTypeRow.holds Tryz.pinned (OpenSpec.ofChange fnExactFindDataTypeWrong)

/-- 'laws.FnExactInstanceAt': WHATEVER THE INPUT: true; the input reads as it did. -/
def fnExactInstanceAtSpec : ChangeSpec := { name := "fnExactInstanceAt", fn := fun _ => fun
  | [d1, d2] => { results := [.lit (.bool true)], args := [d1, d2] }
  | _ => none }
def fnExactInstanceAtRow : OpenClaim := { program := "ytnleocfkdidhoaagreat", sum := "ced03f5dbf8bc0f61f72eee8b308f623b4f1024229152bce02f2b299463743ee", func := "loop.example/g00508/laws.FnExactInstanceAt", spec := "fnExactInstanceAt", recurses := true, loops := true, apart := false }
def FnExactInstanceAtSaid : Prop := fnExactInstanceAtRow.holds Tryz.pinned (OpenSpec.ofChange fnExactInstanceAtSpec)

/-- ITS FALSE NEIGHBOUR: 'it returns false'. Refute it at one input. -/
def fnExactInstanceAtWrong : ChangeSpec := { name := "fnExactInstanceAt", fn := fun _ => fun
  | [d1, d2] => { results := [.lit (.bool false)], args := [d1, d2] }
  | _ => none }
def FnExactInstanceAtWrongFalsely : Prop := fnExactInstanceAtRow.holds Tryz.pinned (OpenSpec.ofChange fnExactInstanceAtWrong)

/- THE SECOND FORM. 'bulk': how many values and letters a reading holds, each counted each time it is reached (what is shared counts as often as it is met; a slice's spare places count too). A statement '..UptoSaid' is the law's where the arguments, and the package variables that the reading takes, are together of bulk at most 1048576: NARROWER than '..Said'. Prove '..Said' where nothing that the law and all that it calls make is longer than what came in: it says more and counts as full. Else prove '..UptoSaid'. A law counts once. -/
mutual
def uptoBulk {H : Type} : DataW H → Nat
  | .lit (.string bytes) => bytes.length + 1
  | .lit _ => 1
  | .nil => 1
  | .ptr d => uptoBulk d + 1
  | .slice elems spare => uptoBulkAll elems + uptoBulkAll spare + 1
  | .agg parts => uptoBulkAll parts + 1
  | .iface _ d => uptoBulk d + 1
  | .map entries => uptoBulkEntries entries + 1
  | .held _ => 1
def uptoBulkAll {H : Type} : List (DataW H) → Nat
  | [] => 0
  | d :: r => uptoBulk d + uptoBulkAll r
def uptoBulkEntries {H : Type} : List (Lit × DataW H) → Nat
  | [] => 0
  | x :: r => uptoBulkEntry x + uptoBulkEntries r
def uptoBulkEntry {H : Type} : Lit × DataW H → Nat
  | (.string bytes, d) => bytes.length + uptoBulk d + 1
  | (_, d) => uptoBulk d + 1
 end
def uptoSmall : (H : Type) → List (DataW H) → Bool := fun _ ds => decide (uptoBulkAll ds ≤ 1048576)
def OpenSpec.upto (s : _root_.Go.ChangeSpec) : _root_.Go.OpenSpec := { _root_.Go.OpenSpec.ofChange s with cond := some uptoSmall }

/-- 'laws.FnExactCheckExpr', WHERE WHAT IT READS IS OF BULK AT MOST 1048576: true; the input reads as it did. -/
def fnExactCheckExprUptoRow : OpenClaim := { program := "ytnleocfkdidhoaagreat", sum := "ced03f5dbf8bc0f61f72eee8b308f623b4f1024229152bce02f2b299463743ee", func := "loop.example/g00508/laws.FnExactCheckExpr", spec := "fnExactCheckExpr", unfollowed := true, recurses := true, loops := true, apart := false, narrowed := true }
def FnExactCheckExprUptoSaid : Prop := fnExactCheckExprUptoRow.holds Tryz.pinned (OpenSpec.upto fnExactCheckExprSpec)

/-- 'laws.FnExactIsValidPackage', WHERE WHAT IT READS IS OF BULK AT MOST 1048576: true; the input reads as it did. -/
def fnExactIsValidPackageUptoRow : OpenClaim := { program := "ytnleocfkdidhoaagreat", sum := "ced03f5dbf8bc0f61f72eee8b308f623b4f1024229152bce02f2b299463743ee", func := "loop.example/g00508/laws.FnExactIsValidPackage", spec := "fnExactIsValidPackage", inPlace := ["internal/bytealg.IndexByteString", "internal/bytealg.IndexString"], unfollowed := true, recurses := true, named := ["internal/bytealg.MaxLen"], loops := true, apart := false, narrowed := true }
def FnExactIsValidPackageUptoSaid : Prop := fnExactIsValidPackageUptoRow.holds Tryz.pinned (OpenSpec.upto fnExactIsValidPackageSpec)

/-- 'laws.FnExactDependenciesValid', WHERE WHAT IT READS IS OF BULK AT MOST 1048576: true; the input reads as it did. -/
def fnExactDependenciesValidUptoRow : OpenClaim := { program := "ytnleocfkdidhoaagreat", sum := "ced03f5dbf8bc0f61f72eee8b308f623b4f1024229152bce02f2b299463743ee", func := "loop.example/g00508/laws.FnExactDependenciesValid", spec := "fnExactDependenciesValid", inPlace := ["internal/bytealg.IndexByteString", "internal/bytealg.IndexString"], unfollowed := true, recurses := true, named := ["internal/bytealg.MaxLen"], loops := true, apart := false, narrowed := true }
def FnExactDependenciesValidUptoSaid : Prop := fnExactDependenciesValidUptoRow.holds Tryz.pinned (OpenSpec.upto fnExactDependenciesValidSpec)

/-- 'laws.FnExactAllInstances', WHERE WHAT IT READS IS OF BULK AT MOST 1048576: true; the input reads as it did. -/
def fnExactAllInstancesUptoRow : OpenClaim := { program := "ytnleocfkdidhoaagreat", sum := "ced03f5dbf8bc0f61f72eee8b308f623b4f1024229152bce02f2b299463743ee", func := "loop.example/g00508/laws.FnExactAllInstances", spec := "fnExactAllInstances", recurses := true, loops := true, apart := false, narrowed := true }
def FnExactAllInstancesUptoSaid : Prop := fnExactAllInstancesUptoRow.holds Tryz.pinned (OpenSpec.upto fnExactAllInstancesSpec)

/-- 'laws.FnExactVisiblePackages', WHERE WHAT IT READS IS OF BULK AT MOST 1048576: true; the input reads as it did. -/
def fnExactVisiblePackagesUptoRow : OpenClaim := { program := "ytnleocfkdidhoaagreat", sum := "ced03f5dbf8bc0f61f72eee8b308f623b4f1024229152bce02f2b299463743ee", func := "loop.example/g00508/laws.FnExactVisiblePackages", spec := "fnExactVisiblePackages", unfollowed := true, recurses := true, loops := true, apart := false, narrowed := true }
def FnExactVisiblePackagesUptoSaid : Prop := fnExactVisiblePackagesUptoRow.holds Tryz.pinned (OpenSpec.upto fnExactVisiblePackagesSpec)

/-- 'laws.FnExactFindDataType', WHERE WHAT IT READS IS OF BULK AT MOST 1048576: true; the input reads as it did. -/
def fnExactFindDataTypeUptoRow : OpenClaim := { program := "ytnleocfkdidhoaagreat", sum := "ced03f5dbf8bc0f61f72eee8b308f623b4f1024229152bce02f2b299463743ee", func := "loop.example/g00508/laws.FnExactFindDataType", spec := "fnExactFindDataType", recurses := true, loops := true, apart := false, narrowed := true }
def FnExactFindDataTypeUptoSaid : Prop := fnExactFindDataTypeUptoRow.holds Tryz.pinned (OpenSpec.upto fnExactFindDataTypeSpec)

/-- 'laws.FnExactInstanceAt', WHERE WHAT IT READS IS OF BULK AT MOST 1048576: true; the input reads as it did. -/
def fnExactInstanceAtUptoRow : OpenClaim := { program := "ytnleocfkdidhoaagreat", sum := "ced03f5dbf8bc0f61f72eee8b308f623b4f1024229152bce02f2b299463743ee", func := "loop.example/g00508/laws.FnExactInstanceAt", spec := "fnExactInstanceAt", recurses := true, loops := true, apart := false, narrowed := true }
def FnExactInstanceAtUptoSaid : Prop := fnExactInstanceAtUptoRow.holds Tryz.pinned (OpenSpec.upto fnExactInstanceAtSpec)

end Rows
end Go.Proofs.YtnleocfkdidhoaaGreat
