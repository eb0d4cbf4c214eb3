/-
  NARROWER THAN 'FOR EVERY INPUT', by the rows' own cells (each row's printed sentence says how): FnExactIsValidFunction: loops · FnExactIsValidTrait: loops · FnExactIsValidInstance: loops · FnExactIsVisible: loops · FnExactCheckType: loops · FnExactCheckBound: loops.
  DERIVED. THE GIVEN ROWS OF THIS SEAT. 6 by the template 'for every input the law returns true; each argument reads behind the call as it read before'; 0 by the template 'total and deterministic' (their statements: YtjfhgcnoielpfaaGreatTotals.lean).
  GIVEN WITH THE SEED: the statements are not yours to turn. If you find one false, say at which input.
  Laid BY PROGRAM, IN A SANDBOX (cutbox-rows.mjs): the forced cells as the released guide's own fill.sh prints them over the translation 96c438697c05f96e… (all of the seat's roots in one cut). By AI agents, Wed Nov 11 2026. No macro, syntax, notation, axiom, sorry.
-/
import Derived.Test.YtjfhgcnoielpfaaGreatChecked
import GoSem.Claim
import GoSem.ClaimJoined
import GoSem.ClaimMapViews
import Derived.JoinedTies
import Derived.KernelRfl
namespace Go.Proofs.YtjfhgcnoielpfaaGreat
/- THE CELL 'sum', in the pinned program and in every row, IS THE sha256 OF THE DUMP (.gsa) THAT YtjfhgcnoielpfaaGreatProg.lean LOADS. Nothing in Lean hashes anything: it is a label: what it is worth is what the hold of that sum in a sandbox is worth. -/
noncomputable def Tryz.pinned : Pinned := { name := "ytjfhgcnoielpfaagreat", sum := "96c438697c05f96e9bb88297ca4c383cdad9425623df2dcfde3dfaf104e67284", checked := Tryz.checked }
namespace Rows
def none {H : Type} : Left H := { results := [], args := [] }

/-- 'laws.FnExactIsValidFunction': WHATEVER THE INPUT: true; the input reads as it did. -/
def fnExactIsValidFunctionSpec : ChangeSpec := { name := "fnExactIsValidFunction", fn := fun _ => fun
  | [d] => { results := [.lit (.bool true)], args := [d] }
  | _ => none }
def fnExactIsValidFunctionRow : OpenClaim := { program := "ytjfhgcnoielpfaagreat", sum := "96c438697c05f96e9bb88297ca4c383cdad9425623df2dcfde3dfaf104e67284", func := "loop.example/g00508/laws.FnExactIsValidFunction", spec := "fnExactIsValidFunction", inPlace := ["internal/bytealg.IndexByteString", "internal/bytealg.IndexString"], unfollowed := true, recurses := true, named := ["internal/bytealg.MaxLen"], loops := true, apart := false }
def FnExactIsValidFunctionSaid : Prop := fnExactIsValidFunctionRow.holds Tryz.pinned (OpenSpec.ofChange fnExactIsValidFunctionSpec)

/-- ITS FALSE NEIGHBOUR: 'it returns false'. Refute it at one input. -/
def fnExactIsValidFunctionWrong : ChangeSpec := { name := "fnExactIsValidFunction", fn := fun _ => fun
  | [d] => { results := [.lit (.bool false)], args := [d] }
  | _ => none }
def FnExactIsValidFunctionWrongFalsely : Prop := fnExactIsValidFunctionRow.holds Tryz.pinned (OpenSpec.ofChange fnExactIsValidFunctionWrong)

/-- 'laws.FnExactIsValidTrait': WHATEVER THE INPUT: true; the input reads as it did. -/
def fnExactIsValidTraitSpec : ChangeSpec := { name := "fnExactIsValidTrait", fn := fun _ => fun
  | [d] => { results := [.lit (.bool true)], args := [d] }
  | _ => none }
def fnExactIsValidTraitRow : OpenClaim := { program := "ytjfhgcnoielpfaagreat", sum := "96c438697c05f96e9bb88297ca4c383cdad9425623df2dcfde3dfaf104e67284", func := "loop.example/g00508/laws.FnExactIsValidTrait", spec := "fnExactIsValidTrait", inPlace := ["internal/bytealg.IndexByteString", "internal/bytealg.IndexString"], unfollowed := true, recurses := true, named := ["internal/bytealg.MaxLen"], loops := true, apart := false }
def FnExactIsValidTraitSaid : Prop := fnExactIsValidTraitRow.holds Tryz.pinned (OpenSpec.ofChange fnExactIsValidTraitSpec)

/-- ITS FALSE NEIGHBOUR: 'it returns false'. Refute it at one input. -/
def fnExactIsValidTraitWrong : ChangeSpec := { name := "fnExactIsValidTrait", fn := fun _ => fun
  | [d] => { results := [.lit (.bool false)], args := [d] }
  | _ => none }
def FnExactIsValidTraitWrongFalsely : Prop := fnExactIsValidTraitRow.holds Tryz.pinned (OpenSpec.ofChange fnExactIsValidTraitWrong)

/-- 'laws.FnExactIsValidInstance': WHATEVER THE INPUT: true; the input reads as it did. -/
def fnExactIsValidInstanceSpec : ChangeSpec := { name := "fnExactIsValidInstance", fn := fun _ => fun
  | [d] => { results := [.lit (.bool true)], args := [d] }
  | _ => none }
def fnExactIsValidInstanceRow : OpenClaim := { program := "ytjfhgcnoielpfaagreat", sum := "96c438697c05f96e9bb88297ca4c383cdad9425623df2dcfde3dfaf104e67284", func := "loop.example/g00508/laws.FnExactIsValidInstance", spec := "fnExactIsValidInstance", inPlace := ["internal/bytealg.IndexByteString", "internal/bytealg.IndexString"], unfollowed := true, recurses := true, named := ["internal/bytealg.MaxLen"], loops := true, apart := false }
def FnExactIsValidInstanceSaid : Prop := fnExactIsValidInstanceRow.holds Tryz.pinned (OpenSpec.ofChange fnExactIsValidInstanceSpec)

/-- ITS FALSE NEIGHBOUR: 'it returns false'. Refute it at one input. -/
def fnExactIsValidInstanceWrong : ChangeSpec := { name := "fnExactIsValidInstance", fn := fun _ => fun
  | [d] => { results := [.lit (.bool false)], args := [d] }
  | _ => none }
def FnExactIsValidInstanceWrongFalsely : Prop := fnExactIsValidInstanceRow.holds Tryz.pinned (OpenSpec.ofChange fnExactIsValidInstanceWrong)

/-- 'laws.FnExactIsVisible': WHATEVER THE INPUT: true; the input reads as it did. -/
def fnExactIsVisibleSpec : ChangeSpec := { name := "fnExactIsVisible", fn := fun _ => fun
  | [d1, d2, d3] => { results := [.lit (.bool true)], args := [d1, d2, d3] }
  | _ => none }
def fnExactIsVisibleRow : OpenClaim := { program := "ytjfhgcnoielpfaagreat", sum := "96c438697c05f96e9bb88297ca4c383cdad9425623df2dcfde3dfaf104e67284", func := "loop.example/g00508/laws.FnExactIsVisible", spec := "fnExactIsVisible", unfollowed := true, recurses := true, loops := true, apart := false }
def FnExactIsVisibleSaid : Prop := fnExactIsVisibleRow.holds Tryz.pinned (OpenSpec.ofChange fnExactIsVisibleSpec)

/-- ITS FALSE NEIGHBOUR: 'it returns false'. Refute it at one input. -/
def fnExactIsVisibleWrong : ChangeSpec := { name := "fnExactIsVisible", fn := fun _ => fun
  | [d1, d2, d3] => { results := [.lit (.bool false)], args := [d1, d2, d3] }
  | _ => none }
def FnExactIsVisibleWrongFalsely : Prop := fnExactIsVisibleRow.holds Tryz.pinned (OpenSpec.ofChange fnExactIsVisibleWrong)

/-- 'laws.FnExactCheckType': WHATEVER THE INPUT: true; the input reads as it did. -/
def fnExactCheckTypeSpec : ChangeSpec := { name := "fnExactCheckType", fn := fun _ => fun
  | [d1, d2, d3] => { results := [.lit (.bool true)], args := [d1, d2, d3] }
  | _ => none }
def fnExactCheckTypeRow : OpenClaim := { program := "ytjfhgcnoielpfaagreat", sum := "96c438697c05f96e9bb88297ca4c383cdad9425623df2dcfde3dfaf104e67284", func := "loop.example/g00508/laws.FnExactCheckType", spec := "fnExactCheckType", unfollowed := true, recurses := true, loops := true, apart := false }
def FnExactCheckTypeSaid : Prop := fnExactCheckTypeRow.holds Tryz.pinned (OpenSpec.ofChange fnExactCheckTypeSpec)

/-- ITS FALSE NEIGHBOUR: 'it returns false'. Refute it at one input. -/
def fnExactCheckTypeWrong : ChangeSpec := { name := "fnExactCheckType", fn := fun _ => fun
  | [d1, d2, d3] => { results := [.lit (.bool false)], args := [d1, d2, d3] }
  | _ => none }
def FnExactCheckTypeWrongFalsely : Prop := fnExactCheckTypeRow.holds Tryz.pinned (OpenSpec.ofChange fnExactCheckTypeWrong)

/-- 'laws.FnExactCheckBound': WHATEVER THE INPUT: true; the input reads as it did. -/
def fnExactCheckBoundSpec : ChangeSpec := { name := "fnExactCheckBound", fn := fun _ => fun
  | [d1, d2, d3] => { results := [.lit (.bool true)], args := [d1, d2, d3] }
  | _ => none }
def fnExactCheckBoundRow : OpenClaim := { program := "ytjfhgcnoielpfaagreat", sum := "96c438697c05f96e9bb88297ca4c383cdad9425623df2dcfde3dfaf104e67284", func := "loop.example/g00508/laws.FnExactCheckBound", spec := "fnExactCheckBound", unfollowed := true, recurses := true, loops := true, apart := false }
def FnExactCheckBoundSaid : Prop := fnExactCheckBoundRow.holds Tryz.pinned (OpenSpec.ofChange fnExactCheckBoundSpec)

/-- ITS FALSE NEIGHBOUR: 'it returns false'. Refute it at one input. -/
def fnExactCheckBoundWrong : ChangeSpec := { name := "fnExactCheckBound", fn := fun _ => fun
  | [d1, d2, d3] => { results := [.lit (.bool false)], args := [d1, d2, d3] }
  | _ => none }
def FnExactCheckBoundWrongFalsely : Prop := fnExactCheckBoundRow.holds Tryz.pinned (OpenSpec.ofChange fnExactCheckBoundWrong)

/- THE SECOND FORM. 'bulk': how many values and letters a reading holds, each counted each time it is reached (what is shared counts as often as it is met; a slice's spare places count too). A statement '..UptoSaid' is the law's where the arguments, and the package variables that the reading takes, are together of bulk at most 1048576: NARROWER than '..Said'. Prove '..Said' where nothing that the law and all that it calls make is longer than what came in: it says more and counts as full. Else prove '..UptoSaid'. A law counts once. -/
mutual
def uptoBulk {H : Type} : DataW H → Nat
  | .lit (.string bytes) => bytes.length + 1
  | .lit _ => 1
  | .nil => 1
  | .ptr d => uptoBulk d + 1
  | .slice elems spare => uptoBulkAll elems + uptoBulkAll spare + 1
  | .agg parts => uptoBulkAll parts + 1
  | .iface _ d => uptoBulk d + 1
  | .map entries => uptoBulkEntries entries + 1
  | .held _ => 1
def uptoBulkAll {H : Type} : List (DataW H) → Nat
  | [] => 0
  | d :: r => uptoBulk d + uptoBulkAll r
def uptoBulkEntries {H : Type} : List (Lit × DataW H) → Nat
  | [] => 0
  | x :: r => uptoBulkEntry x + uptoBulkEntries r
def uptoBulkEntry {H : Type} : Lit × DataW H → Nat
  | (.string bytes, d) => bytes.length + uptoBulk d + 1
  | (_, d) => uptoBulk d + 1
 end
def uptoSmall : (H : Type) → List (DataW H) → Bool := fun _ ds => decide (uptoBulkAll ds ≤ 1048576)
def OpenSpec.upto (s : _root_.Go.ChangeSpec) : _root_.Go.OpenSpec := { _root_.Go.OpenSpec.ofChange s with cond := some uptoSmall }

/-- 'laws.FnExactIsValidFunction', WHERE WHAT IT READS IS OF BULK AT MOST 1048576: true; the input reads as it did. -/
def fnExactIsValidFunctionUptoRow : OpenClaim := { program := "ytjfhgcnoielpfaagreat", sum := "96c438697c05f96e9bb88297ca4c383cdad9425623df2dcfde3dfaf104e67284", func := "loop.example/g00508/laws.FnExactIsValidFunction", spec := "fnExactIsValidFunction", inPlace := ["internal/bytealg.IndexByteString", "internal/bytealg.IndexString"], unfollowed := true, recurses := true, named := ["internal/bytealg.MaxLen"], loops := true, apart := false, narrowed := true }
def FnExactIsValidFunctionUptoSaid : Prop := fnExactIsValidFunctionUptoRow.holds Tryz.pinned (OpenSpec.upto fnExactIsValidFunctionSpec)

/-- 'laws.FnExactIsValidTrait', WHERE WHAT IT READS IS OF BULK AT MOST 1048576: true; the input reads as it did. -/
def fnExactIsValidTraitUptoRow : OpenClaim := { program := "ytjfhgcnoielpfaagreat", sum := "96c438697c05f96e9bb88297ca4c383cdad9425623df2dcfde3dfaf104e67284", func := "loop.example/g00508/laws.FnExactIsValidTrait", spec := "fnExactIsValidTrait", inPlace := ["internal/bytealg.IndexByteString", "internal/bytealg.IndexString"], unfollowed := true, recurses := true, named := ["internal/bytealg.MaxLen"], loops := true, apart := false, narrowed := true }
def FnExactIsValidTraitUptoSaid : Prop := fnExactIsValidTraitUptoRow.holds Tryz.pinned (OpenSpec.upto fnExactIsValidTraitSpec)

/-- 'laws.FnExactIsValidInstance', WHERE WHAT IT READS IS OF BULK AT MOST 1048576: true; the input reads as it did. -/
def fnExactIsValidInstanceUptoRow : OpenClaim := { program := "ytjfhgcnoielpfaagreat", sum := "96c438697c05f96e9bb88297ca4c383cdad9425623df2dcfde3dfaf104e67284", func := "loop.example/g00508/laws.FnExactIsValidInstance", spec := "fnExactIsValidInstance", inPlace := ["internal/bytealg.IndexByteString", "internal/bytealg.IndexString"], unfollowed := true, recurses := true, named := ["internal/bytealg.MaxLen"], loops := true, apart := false, narrowed := true }
def FnExactIsValidInstanceUptoSaid : Prop := fnExactIsValidInstanceUptoRow.holds Tryz.pinned (OpenSpec.upto fnExactIsValidInstanceSpec)

/-- 'laws.FnExactIsVisible', WHERE WHAT IT READS IS OF BULK AT MOST 1048576: true; the input reads as it did. -/
def fnExactIsVisibleUptoRow : OpenClaim := { program := "ytjfhgcnoielpfaagreat", sum := "96c438697c05f96e9bb88297ca4c383cdad9425623df2dcfde3dfaf104e67284", func := "loop.example/g00508/laws.FnExactIsVisible", spec := "fnExactIsVisible", unfollowed := true, recurses := true, loops := true, apart := false, narrowed := true }
def FnExactIsVisibleUptoSaid : Prop := fnExactIsVisibleUptoRow.holds Tryz.pinned (OpenSpec.upto fnExactIsVisibleSpec)

/-- 'laws.FnExactCheckType', WHERE WHAT IT READS IS OF BULK AT MOST 1048576: true; the input reads as it did. -/
def fnExactCheckTypeUptoRow : OpenClaim := { program := "ytjfhgcnoielpfaagreat", sum := "96c438697c05f96e9bb88297ca4c383cdad9425623df2dcfde3dfaf104e67284", func := "loop.example/g00508/laws.FnExactCheckType", spec := "fnExactCheckType", unfollowed := true, recurses := true, loops := true, apart := false, narrowed := true }
def FnExactCheckTypeUptoSaid : Prop := fnExactCheckTypeUptoRow.holds Tryz.pinned (OpenSpec.upto fnExactCheckTypeSpec)

/-- 'laws.FnExactCheckBound', WHERE WHAT IT READS IS OF BULK AT MOST 1048576: true; the input reads as it did. -/
def fnExactCheckBoundUptoRow : OpenClaim := { program := "ytjfhgcnoielpfaagreat", sum := "96c438697c05f96e9bb88297ca4c383cdad9425623df2dcfde3dfaf104e67284", func := "loop.example/g00508/laws.FnExactCheckBound", spec := "fnExactCheckBound", unfollowed := true, recurses := true, loops := true, apart := false, narrowed := true }
def FnExactCheckBoundUptoSaid : Prop := fnExactCheckBoundUptoRow.holds Tryz.pinned (OpenSpec.upto fnExactCheckBoundSpec)

end Rows
end Go.Proofs.YtjfhgcnoielpfaaGreat
