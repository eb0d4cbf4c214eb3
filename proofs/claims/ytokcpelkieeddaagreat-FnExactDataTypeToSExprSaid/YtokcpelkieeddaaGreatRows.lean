/-
  NARROWER THAN 'FOR EVERY INPUT', by the rows' own cells (each row's printed sentence says how): FnExactDataTypeToSExpr: loops · FnExactSExprToDataType: loops · FnExactFindConstructor: loops · FnExactInstanceAt: loops.
  DERIVED. THE GIVEN ROWS OF THIS SEAT. 4 by the template 'for every input the law returns true; each argument reads behind the call as it read before'; 0 by the template 'total and deterministic' (their statements: YtokcpelkieeddaaGreatTotals.lean).
  GIVEN WITH THE SEED: the statements are not yours to turn. If you find one false, say at which input.
  Laid BY PROGRAM, IN A SANDBOX (cutbox-rows.mjs): the forced cells as the released guide's own fill.sh prints them over the translation 7a04e4f401ea790c… (all of the seat's roots in one cut). By AI agents, Wed Nov 11 2026. No macro, syntax, notation, axiom, sorry.
-/
import Derived.Test.YtokcpelkieeddaaGreatChecked
import GoSem.Claim
import GoSem.ClaimJoined
import GoSem.ClaimMapViews
import Derived.JoinedTies
import Derived.KernelRfl
namespace Go.Proofs.YtokcpelkieeddaaGreat
/- THE CELL 'sum', in the pinned program and in every row, IS THE sha256 OF THE DUMP (.gsa) THAT YtokcpelkieeddaaGreatProg.lean LOADS. Nothing in Lean hashes anything: it is a label: what it is worth is what the hold of that sum in a sandbox is worth. -/
noncomputable def Tryz.pinned : Pinned := { name := "ytokcpelkieeddaagreat", sum := "7a04e4f401ea790c86c2c091d5786b634cad7df62301e17e35cdfa8b0b976191", checked := Tryz.checked }
namespace Rows
def none {H : Type} : Left H := { results := [], args := [] }

/-- 'laws.FnExactDataTypeToSExpr': WHATEVER THE INPUT: true; the input reads as it did. -/
def fnExactDataTypeToSExprSpec : ChangeSpec := { name := "fnExactDataTypeToSExpr", fn := fun _ => fun
  | [d] => { results := [.lit (.bool true)], args := [d] }
  | _ => none }
def fnExactDataTypeToSExprRow : OpenClaim := { program := "ytokcpelkieeddaagreat", sum := "7a04e4f401ea790c86c2c091d5786b634cad7df62301e17e35cdfa8b0b976191", func := "loop.example/g00508/laws.FnExactDataTypeToSExpr", spec := "fnExactDataTypeToSExpr", inPlace := ["internal/bytealg.IndexByteString"], unfollowed := true, recurses := true, loops := true, apart := false }
def FnExactDataTypeToSExprSaid : Prop := fnExactDataTypeToSExprRow.holds Tryz.pinned (OpenSpec.ofChange fnExactDataTypeToSExprSpec)

/-- ITS FALSE NEIGHBOUR: 'it returns false'. Refute it at one input. -/
def fnExactDataTypeToSExprWrong : ChangeSpec := { name := "fnExactDataTypeToSExpr", fn := fun _ => fun
  | [d] => { results := [.lit (.bool false)], args := [d] }
  | _ => none }
def FnExactDataTypeToSExprWrongFalsely : Prop := fnExactDataTypeToSExprRow.holds Tryz.pinned (OpenSpec.ofChange fnExactDataTypeToSExprWrong)

/-- 'laws.FnExactSExprToDataType': WHATEVER THE INPUT: true; the input reads as it did. -/
def fnExactSExprToDataTypeSpec : ChangeSpec := { name := "fnExactSExprToDataType", fn := fun _ => fun
  | [d] => { results := [.lit (.bool true)], args := [d] }
  | _ => none }
def fnExactSExprToDataTypeRow : OpenClaim := { program := "ytokcpelkieeddaagreat", sum := "7a04e4f401ea790c86c2c091d5786b634cad7df62301e17e35cdfa8b0b976191", func := "loop.example/g00508/laws.FnExactSExprToDataType", spec := "fnExactSExprToDataType", inPlace := ["internal/bytealg.IndexByteString"], unfollowed := true, recurses := true, loops := true, apart := false }
def FnExactSExprToDataTypeSaid : Prop := fnExactSExprToDataTypeRow.holds Tryz.pinned (OpenSpec.ofChange fnExactSExprToDataTypeSpec)

/-- ITS FALSE NEIGHBOUR: 'it returns false'. Refute it at one input. -/
def fnExactSExprToDataTypeWrong : ChangeSpec := { name := "fnExactSExprToDataType", fn := fun _ => fun
  | [d] => { results := [.lit (.bool false)], args := [d] }
  | _ => none }
def FnExactSExprToDataTypeWrongFalsely : Prop := fnExactSExprToDataTypeRow.holds Tryz.pinned (OpenSpec.ofChange fnExactSExprToDataTypeWrong)

/-- 'laws.FnExactFindConstructor': WHATEVER THE INPUT: true; the input reads as it did. -/
def fnExactFindConstructorSpec : ChangeSpec := { name := "fnExactFindConstructor", fn := fun _ => fun
  | [d1, d2] => { results := [.lit (.bool true)], args := [d1, d2] }
  | _ => none }
def fnExactFindConstructorRow : OpenClaim := { program := "ytokcpelkieeddaagreat", sum := "7a04e4f401ea790c86c2c091d5786b634cad7df62301e17e35cdfa8b0b976191", func := "loop.example/g00508/laws.FnExactFindConstructor", spec := "fnExactFindConstructor", recurses := true, loops := true, apart := false }
def FnExactFindConstructorSaid : Prop := fnExactFindConstructorRow.holds Tryz.pinned (OpenSpec.ofChange fnExactFindConstructorSpec)

/-- ITS FALSE NEIGHBOUR: 'it returns false'. Refute it at one input. -/
def fnExactFindConstructorWrong : ChangeSpec := { name := "fnExactFindConstructor", fn := fun _ => fun
  | [d1, d2] => { results := [.lit (.bool false)], args := [d1, d2] }
  | _ => none }
def FnExactFindConstructorWrongFalsely : Prop := fnExactFindConstructorRow.holds Tryz.pinned (OpenSpec.ofChange fnExactFindConstructorWrong)

/-- 'laws.FnExactInstanceAt': WHATEVER THE INPUT: true; the input reads as it did. -/
def fnExactInstanceAtSpec : ChangeSpec := { name := "fnExactInstanceAt", fn := fun _ => fun
  | [d1, d2] => { results := [.lit (.bool true)], args := [d1, d2] }
  | _ => none }
def fnExactInstanceAtRow : OpenClaim := { program := "ytokcpelkieeddaagreat", sum := "7a04e4f401ea790c86c2c091d5786b634cad7df62301e17e35cdfa8b0b976191", func := "loop.example/g00508/laws.FnExactInstanceAt", spec := "fnExactInstanceAt", recurses := true, loops := true, apart := false }
def FnExactInstanceAtSaid : Prop := fnExactInstanceAtRow.holds Tryz.pinned (OpenSpec.ofChange fnExactInstanceAtSpec)

/-- ITS FALSE NEIGHBOUR: 'it returns false'. Refute it at one input. -/
def fnExactInstanceAtWrong : ChangeSpec := { name := "fnExactInstanceAt", fn := fun _ => fun
  | [d1, d2] => { results := [.lit (.bool false)], args := [d1, d2] }
  | _ => none }
def FnExactInstanceAtWrongFalsely : Prop := fnExactInstanceAtRow.holds Tryz.pinned (OpenSpec.ofChange fnExactInstanceAtWrong)

/- THE SECOND FORM. 'bulk': how many values and letters a reading holds, each counted each time it is reached (what is shared counts as often as it is met; a slice's spare places count too). A statement '..UptoSaid' is the law's where the arguments, and the package variables that the reading takes, are together of bulk at most 1048576: NARROWER than '..Said'. Prove '..Said' where nothing that the law and all that it calls make is longer than what came in: it says more and counts as full. Else prove '..UptoSaid'. A law counts once. -/
mutual
def uptoBulk {H : Type} : DataW H → Nat
  | .lit (.string bytes) => bytes.length + 1
  | .lit _ => 1
  | .nil => 1
  | .ptr d => uptoBulk d + 1
  | .slice elems spare => uptoBulkAll elems + uptoBulkAll spare + 1
  | .agg parts => uptoBulkAll parts + 1
  | .iface _ d => uptoBulk d + 1
  | .map entries => uptoBulkEntries entries + 1
  | .held _ => 1
def uptoBulkAll {H : Type} : List (DataW H) → Nat
  | [] => 0
  | d :: r => uptoBulk d + uptoBulkAll r
def uptoBulkEntries {H : Type} : List (Lit × DataW H) → Nat
  | [] => 0
  | x :: r => uptoBulkEntry x + uptoBulkEntries r
def uptoBulkEntry {H : Type} : Lit × DataW H → Nat
  | (.string bytes, d) => bytes.length + uptoBulk d + 1
  | (_, d) => uptoBulk d + 1
 end
def uptoSmall : (H : Type) → List (DataW H) → Bool := fun _ ds => decide (uptoBulkAll ds ≤ 1048576)
def OpenSpec.upto (s : _root_.Go.ChangeSpec) : _root_.Go.OpenSpec := { _root_.Go.OpenSpec.ofChange s with cond := some uptoSmall }

/-- 'laws.FnExactDataTypeToSExpr', WHERE WHAT IT READS IS OF BULK AT MOST 1048576: true; the input reads as it did. -/
def fnExactDataTypeToSExprUptoRow : OpenClaim := { program := "ytokcpelkieeddaagreat", sum := "7a04e4f401ea790c86c2c091d5786b634cad7df62301e17e35cdfa8b0b976191", func := "loop.example/g00508/laws.FnExactDataTypeToSExpr", spec := "fnExactDataTypeToSExpr", inPlace := ["internal/bytealg.IndexByteString"], unfollowed := true, recurses := true, loops := true, apart := false, narrowed := true }
def FnExactDataTypeToSExprUptoSaid : Prop := fnExactDataTypeToSExprUptoRow.holds Tryz.pinned (OpenSpec.upto fnExactDataTypeToSExprSpec)

/-- 'laws.FnExactSExprToDataType', WHERE WHAT IT READS IS OF BULK AT MOST 1048576: true; the input reads as it did. -/
def fnExactSExprToDataTypeUptoRow : OpenClaim := { program := "ytokcpelkieeddaagreat", sum := "7a04e4f401ea790c86c2c091d5786b634cad7df62301e17e35cdfa8b0b976191", func := "loop.example/g00508/laws.FnExactSExprToDataType", spec := "fnExactSExprToDataType", inPlace := ["internal/bytealg.IndexByteString"], unfollowed := true, recurses := true, loops := true, apart := false, narrowed := true }
def FnExactSExprToDataTypeUptoSaid : Prop := fnExactSExprToDataTypeUptoRow.holds Tryz.pinned (OpenSpec.upto fnExactSExprToDataTypeSpec)

/-- 'laws.FnExactFindConstructor', WHERE WHAT IT READS IS OF BULK AT MOST 1048576: true; the input reads as it did. -/
def fnExactFindConstructorUptoRow : OpenClaim := { program := "ytokcpelkieeddaagreat", sum := "7a04e4f401ea790c86c2c091d5786b634cad7df62301e17e35cdfa8b0b976191", func := "loop.example/g00508/laws.FnExactFindConstructor", spec := "fnExactFindConstructor", recurses := true, loops := true, apart := false, narrowed := true }
def FnExactFindConstructorUptoSaid : Prop := fnExactFindConstructorUptoRow.holds Tryz.pinned (OpenSpec.upto fnExactFindConstructorSpec)

/-- 'laws.FnExactInstanceAt', WHERE WHAT IT READS IS OF BULK AT MOST 1048576: true; the input reads as it did. -/
def fnExactInstanceAtUptoRow : OpenClaim := { program := "ytokcpelkieeddaagreat", sum := "7a04e4f401ea790c86c2c091d5786b634cad7df62301e17e35cdfa8b0b976191", func := "loop.example/g00508/laws.FnExactInstanceAt", spec := "fnExactInstanceAt", recurses := true, loops := true, apart := false, narrowed := true }
def FnExactInstanceAtUptoSaid : Prop := fnExactInstanceAtUptoRow.holds Tryz.pinned (OpenSpec.upto fnExactInstanceAtSpec)

end Rows
end Go.Proofs.YtokcpelkieeddaaGreat
