/-
  CLOSED FACTS of the card of laws.FnExactSExprToTrait, part B. Printed by program (wip/tool/factsplit.py).
-/
import Derived.Test.YtlmhknhlmicmeaaGreatDoorRows
import Derived.Test.YtlmhknhlmicmeaaGreatDoorTie
import Derived.Test.YtlmhknhlmicmeaaGreatDoorCards
import Derived.ProofKit
import Derived.LaidMore
import Derived.OpenShut
import Derived.Stop.Joined
namespace Go.Proofs.YtlmhknhlmicmeaaGreatDoor.fnExactSExprToTrait
open Go.ChangeShapes Go.WideShapes Go.ChangeAt Go.RowKit Go
set_option linter.unusedVariables false
theorem k13 : ((Rows.fnExactSExprToTraitRow.maps == (Tryz.f8.params.toList ++ Rows.fnExactSExprToTraitSpec.plain.varTypes Tryz.pinned.checked.prog).any (Tryz.pinned.checked.prog.mapsRec ·))) = true := by kernel_rfl
theorem k14 : ((Rows.fnExactSExprToTraitRow.ifaces == (Tryz.f8.params.toList ++ Rows.fnExactSExprToTraitSpec.plain.varTypes Tryz.pinned.checked.prog).any (Tryz.pinned.checked.prog.ifacesRec ·))) = true := by kernel_rfl
theorem k15 : ((Rows.fnExactSExprToTraitRow.mapsOut == Tryz.pinned.checked.prog.mapsAmong Tryz.f8.resultTypes.toList)) = true := by kernel_rfl
theorem k16 : ((Rows.fnExactSExprToTraitRow.loops == (Tryz.f8.params.toList ++ Rows.fnExactSExprToTraitSpec.plain.varTypes Tryz.pinned.checked.prog).any (Tryz.pinned.checked.prog.loopsFrom ·))) = true := by kernel_rfl
theorem k17 : ((Rows.fnExactSExprToTraitRow.wideKeys == (Tryz.f8.params.toList ++ Rows.fnExactSExprToTraitSpec.plain.varTypes Tryz.pinned.checked.prog ++ Tryz.f8.resultTypes.toList).any (Tryz.pinned.checked.prog.wideKeysFrom ·))) = true := by kernel_rfl
theorem k18 : (Rows.fnExactSExprToTraitSpec.vars.all (Tryz.pinned.checked.prog.varReadable ·)) = true := by kernel_rfl
theorem k19 : (Tryz.f8.resultTypes.all (fun t => Tryz.pinned.checked.prog.readableRec t && decide (t < Tryz.pinned.checked.prog.types.size))) = true := by kernel_rfl
theorem k20 : ((Rows.fnExactSExprToTraitRow.ifacesOut == Tryz.f8.resultTypes.toList.any (Tryz.pinned.checked.prog.ifacesRec ·))) = true := by kernel_rfl
theorem k21 : ((Rows.fnExactSExprToTraitRow.loopsOut == Tryz.f8.resultTypes.toList.any (Tryz.pinned.checked.prog.loopsFrom ·))) = true := by kernel_rfl
theorem k22 : ((Rows.fnExactSExprToTraitRow.plainKeys == Tryz.pinned.checked.prog.plainKeys)) = true := by kernel_rfl
theorem k23 : (Rows.fnExactSExprToTraitRow.shortTexts.isNone) = true := by kernel_rfl
theorem k24 : (Tryz.pinned.checked.prog.stopsHeard) = true := by kernel_rfl
theorem k25 : (Tryz.pinned.checked.prog.mayEnter) = true := by kernel_rfl
theorem k26 : ((Rows.fnExactSExprToTraitRow.lifted == Tryz.pinned.checked.prog.liftsFinal)) = true := by kernel_rfl
theorem k27 : ((Tryz.pinned.checked.prog.make == some Rows.fnExactSExprToTraitRow.make)) = true := by kernel_rfl
theorem k29 : ((Rows.fnExactSExprToTraitRow.pinned == Rows.fnExactSExprToTraitRow.pinnedBy)) = true := by kernel_rfl
theorem k30 : ((Rows.fnExactSExprToTraitRow.veiled == (Tryz.f8.params.toList ++ Rows.fnExactSExprToTraitSpec.plain.varTypes Tryz.pinned.checked.prog ++ Tryz.f8.resultTypes.toList).any (Tryz.pinned.checked.prog.veiledRec ·))) = true := by kernel_rfl
theorem k31 : (Rows.fnExactSExprToTraitRow.veiledFits Tryz.pinned.checked.prog Tryz.f8.params.toList (Tryz.f8.params.toList ++ Rows.fnExactSExprToTraitSpec.plain.varTypes Tryz.pinned.checked.prog ++ Tryz.f8.resultTypes.toList)) = true := by kernel_rfl
end Go.Proofs.YtlmhknhlmicmeaaGreatDoor.fnExactSExprToTrait
