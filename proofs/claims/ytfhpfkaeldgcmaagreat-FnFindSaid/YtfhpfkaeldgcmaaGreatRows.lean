/-
  No cell of these rows narrows 'for every input' (looked for: loops, veiled, ifaces, maps, wideKeys, modest, calm, conditions, laid).
  DERIVED. THE GIVEN ROWS OF THIS SEAT. 4 by the template 'for every input the law returns true; each argument reads behind the call as it read before'; 0 by the template 'total and deterministic' (their statements: YtfhpfkaeldgcmaaGreatTotals.lean).
  GIVEN WITH THE SEED: the statements are not yours to turn. If you find one false, say at which input.
  Laid BY PROGRAM, IN A SANDBOX (cutbox-rows.mjs): the forced cells as the released guide's own fill.sh prints them over the translation c90e3a51dc20817e… (all of the seat's roots in one cut). By AI agents, Wed Nov 11 2026. No macro, syntax, notation, axiom, sorry.
-/
import Derived.Test.YtfhpfkaeldgcmaaGreatChecked
import GoSem.Claim
import GoSem.ClaimJoined
import GoSem.ClaimMapViews
import Derived.JoinedTies
import Derived.KernelRfl
namespace Go.Proofs.YtfhpfkaeldgcmaaGreat
/- THE CELL 'sum', in the pinned program and in every row, IS THE sha256 OF THE DUMP (.gsa) THAT YtfhpfkaeldgcmaaGreatProg.lean LOADS. Nothing in Lean hashes anything: it is a label: what it is worth is what the hold of that sum in a sandbox is worth. -/
noncomputable def Tryz.pinned : Pinned := { name := "ytfhpfkaeldgcmaagreat", sum := "c90e3a51dc20817e6d44e86206cb17515a1a7b5c9ea3d62a15bf970e047eba58", checked := Tryz.checked }
namespace Rows
def none {H : Type} : Left H := { results := [], args := [] }

/-- 'laws.FnSeen': WHATEVER THE INPUT: true; the input reads as it did. -/
def fnSeenSpec : ChangeSpec := { name := "fnSeen", fn := fun _ => fun
  | [d] => { results := [.lit (.bool true)], args := [d] }
  | _ => none }
def fnSeenRow : OpenClaim := { program := "ytfhpfkaeldgcmaagreat", sum := "c90e3a51dc20817e6d44e86206cb17515a1a7b5c9ea3d62a15bf970e047eba58", func := "loop.example/g00508/laws.FnSeen", spec := "fnSeen", inPlace := ["internal/bytealg.IndexByteString", "internal/bytealg.IndexString"], unfollowed := true, recurses := true, named := ["internal/bytealg.MaxLen"], apart := false }
def FnSeenSaid : Prop := fnSeenRow.holds Tryz.pinned (OpenSpec.ofChange fnSeenSpec)

/-- ITS FALSE NEIGHBOUR: 'it returns false'. Refute it at one input. -/
def fnSeenWrong : ChangeSpec := { name := "fnSeen", fn := fun _ => fun
  | [d] => { results := [.lit (.bool false)], args := [d] }
  | _ => none }
def FnSeenWrongFalsely : Prop := fnSeenRow.holds Tryz.pinned (OpenSpec.ofChange fnSeenWrong)

/-- 'laws.FnInsts': WHATEVER THE INPUT: true; the input reads as it did. -/
def fnInstsSpec : ChangeSpec := { name := "fnInsts", fn := fun _ => fun
  | [d] => { results := [.lit (.bool true)], args := [d] }
  | _ => none }
def fnInstsRow : OpenClaim := { program := "ytfhpfkaeldgcmaagreat", sum := "c90e3a51dc20817e6d44e86206cb17515a1a7b5c9ea3d62a15bf970e047eba58", func := "loop.example/g00508/laws.FnInsts", spec := "fnInsts", recurses := true, apart := false }
def FnInstsSaid : Prop := fnInstsRow.holds Tryz.pinned (OpenSpec.ofChange fnInstsSpec)

/-- ITS FALSE NEIGHBOUR: 'it returns false'. Refute it at one input. -/
def fnInstsWrong : ChangeSpec := { name := "fnInsts", fn := fun _ => fun
  | [d] => { results := [.lit (.bool false)], args := [d] }
  | _ => none }
def FnInstsWrongFalsely : Prop := fnInstsRow.holds Tryz.pinned (OpenSpec.ofChange fnInstsWrong)

/-- 'laws.FnFind': WHATEVER THE INPUT: true; the input reads as it did. -/
def fnFindSpec : ChangeSpec := { name := "fnFind", fn := fun _ => fun
  | [d] => { results := [.lit (.bool true)], args := [d] }
  | _ => none }
def fnFindRow : OpenClaim := { program := "ytfhpfkaeldgcmaagreat", sum := "c90e3a51dc20817e6d44e86206cb17515a1a7b5c9ea3d62a15bf970e047eba58", func := "loop.example/g00508/laws.FnFind", spec := "fnFind", recurses := true, apart := false }
def FnFindSaid : Prop := fnFindRow.holds Tryz.pinned (OpenSpec.ofChange fnFindSpec)

/-- ITS FALSE NEIGHBOUR: 'it returns false'. Refute it at one input. -/
def fnFindWrong : ChangeSpec := { name := "fnFind", fn := fun _ => fun
  | [d] => { results := [.lit (.bool false)], args := [d] }
  | _ => none }
def FnFindWrongFalsely : Prop := fnFindRow.holds Tryz.pinned (OpenSpec.ofChange fnFindWrong)

/-- 'laws.FnWfSeen': WHATEVER THE INPUT: true; the input reads as it did. -/
def fnWfSeenSpec : ChangeSpec := { name := "fnWfSeen", fn := fun _ => fun
  | [d] => { results := [.lit (.bool true)], args := [d] }
  | _ => none }
def fnWfSeenRow : OpenClaim := { program := "ytfhpfkaeldgcmaagreat", sum := "c90e3a51dc20817e6d44e86206cb17515a1a7b5c9ea3d62a15bf970e047eba58", func := "loop.example/g00508/laws.FnWfSeen", spec := "fnWfSeen", unfollowed := true, recurses := true, apart := false }
def FnWfSeenSaid : Prop := fnWfSeenRow.holds Tryz.pinned (OpenSpec.ofChange fnWfSeenSpec)

/-- ITS FALSE NEIGHBOUR: 'it returns false'. Refute it at one input. -/
def fnWfSeenWrong : ChangeSpec := { name := "fnWfSeen", fn := fun _ => fun
  | [d] => { results := [.lit (.bool false)], args := [d] }
  | _ => none }
def FnWfSeenWrongFalsely : Prop := fnWfSeenRow.holds Tryz.pinned (OpenSpec.ofChange fnWfSeenWrong)

/- THE SECOND FORM. 'bulk': how many values and letters a reading holds, each counted each time it is reached (what is shared counts as often as it is met; a slice's spare places count too). A statement '..UptoSaid' is the law's where the arguments, and the package variables that the reading takes, are together of bulk at most 1048576: NARROWER than '..Said'. Prove '..Said' where nothing that the law and all that it calls make is longer than what came in: it says more and counts as full. Else prove '..UptoSaid'. A law counts once. -/
mutual
def uptoBulk {H : Type} : DataW H → Nat
  | .lit (.string bytes) => bytes.length + 1
  | .lit _ => 1
  | .nil => 1
  | .ptr d => uptoBulk d + 1
  | .slice elems spare => uptoBulkAll elems + uptoBulkAll spare + 1
  | .agg parts => uptoBulkAll parts + 1
  | .iface _ d => uptoBulk d + 1
  | .map entries => uptoBulkEntries entries + 1
  | .held _ => 1
def uptoBulkAll {H : Type} : List (DataW H) → Nat
  | [] => 0
  | d :: r => uptoBulk d + uptoBulkAll r
def uptoBulkEntries {H : Type} : List (Lit × DataW H) → Nat
  | [] => 0
  | x :: r => uptoBulkEntry x + uptoBulkEntries r
def uptoBulkEntry {H : Type} : Lit × DataW H → Nat
  | (.string bytes, d) => bytes.length + uptoBulk d + 1
  | (_, d) => uptoBulk d + 1
 end
def uptoSmall : (H : Type) → List (DataW H) → Bool := fun _ ds => decide (uptoBulkAll ds ≤ 1048576)
def OpenSpec.upto (s : _root_.Go.ChangeSpec) : _root_.Go.OpenSpec := { _root_.Go.OpenSpec.ofChange s with cond := some uptoSmall }

/-- 'laws.FnSeen', WHERE WHAT IT READS IS OF BULK AT MOST 1048576: true; the input reads as it did. -/
def fnSeenUptoRow : OpenClaim := { program := "ytfhpfkaeldgcmaagreat", sum := "c90e3a51dc20817e6d44e86206cb17515a1a7b5c9ea3d62a15bf970e047eba58", func := "loop.example/g00508/laws.FnSeen", spec := "fnSeen", inPlace := ["internal/bytealg.IndexByteString", "internal/bytealg.IndexString"], unfollowed := true, recurses := true, named := ["internal/bytealg.MaxLen"], apart := false, narrowed := true }
def FnSeenUptoSaid : Prop := fnSeenUptoRow.holds Tryz.pinned (OpenSpec.upto fnSeenSpec)

/-- 'laws.FnInsts', WHERE WHAT IT READS IS OF BULK AT MOST 1048576: true; the input reads as it did. -/
def fnInstsUptoRow : OpenClaim := { program := "ytfhpfkaeldgcmaagreat", sum := "c90e3a51dc20817e6d44e86206cb17515a1a7b5c9ea3d62a15bf970e047eba58", func := "loop.example/g00508/laws.FnInsts", spec := "fnInsts", recurses := true, apart := false, narrowed := true }
def FnInstsUptoSaid : Prop := fnInstsUptoRow.holds Tryz.pinned (OpenSpec.upto fnInstsSpec)

/-- 'laws.FnFind', WHERE WHAT IT READS IS OF BULK AT MOST 1048576: true; the input reads as it did. -/
def fnFindUptoRow : OpenClaim := { program := "ytfhpfkaeldgcmaagreat", sum := "c90e3a51dc20817e6d44e86206cb17515a1a7b5c9ea3d62a15bf970e047eba58", func := "loop.example/g00508/laws.FnFind", spec := "fnFind", recurses := true, apart := false, narrowed := true }
def FnFindUptoSaid : Prop := fnFindUptoRow.holds Tryz.pinned (OpenSpec.upto fnFindSpec)

/-- 'laws.FnWfSeen', WHERE WHAT IT READS IS OF BULK AT MOST 1048576: true; the input reads as it did. -/
def fnWfSeenUptoRow : OpenClaim := { program := "ytfhpfkaeldgcmaagreat", sum := "c90e3a51dc20817e6d44e86206cb17515a1a7b5c9ea3d62a15bf970e047eba58", func := "loop.example/g00508/laws.FnWfSeen", spec := "fnWfSeen", unfollowed := true, recurses := true, apart := false, narrowed := true }
def FnWfSeenUptoSaid : Prop := fnWfSeenUptoRow.holds Tryz.pinned (OpenSpec.upto fnWfSeenSpec)

end Rows
end Go.Proofs.YtfhpfkaeldgcmaaGreat
