/-
  CLOSED FACTS of the card of laws.FnExactPackageToSExpr, part B. Printed by program (wip/tool/factsplit.py).
-/
import Derived.Test.YtlmhknhlmicmeaaGreatDoorRows
import Derived.Test.YtlmhknhlmicmeaaGreatDoorTie
import Derived.Test.YtlmhknhlmicmeaaGreatDoorCards
import Derived.ProofKit
import Derived.LaidMore
import Derived.OpenShut
import Derived.Stop.Joined
namespace Go.Proofs.YtlmhknhlmicmeaaGreatDoor.fnExactPackageToSExpr
open Go.ChangeShapes Go.WideShapes Go.ChangeAt Go.RowKit Go
set_option linter.unusedVariables false
theorem k13 : ((Rows.fnExactPackageToSExprRow.maps == (Tryz.f3.params.toList ++ Rows.fnExactPackageToSExprSpec.plain.varTypes Tryz.pinned.checked.prog).any (Tryz.pinned.checked.prog.mapsRec ·))) = true := by kernel_rfl
theorem k14 : ((Rows.fnExactPackageToSExprRow.ifaces == (Tryz.f3.params.toList ++ Rows.fnExactPackageToSExprSpec.plain.varTypes Tryz.pinned.checked.prog).any (Tryz.pinned.checked.prog.ifacesRec ·))) = true := by kernel_rfl
theorem k15 : ((Rows.fnExactPackageToSExprRow.mapsOut == Tryz.pinned.checked.prog.mapsAmong Tryz.f3.resultTypes.toList)) = true := by kernel_rfl
theorem k16 : ((Rows.fnExactPackageToSExprRow.loops == (Tryz.f3.params.toList ++ Rows.fnExactPackageToSExprSpec.plain.varTypes Tryz.pinned.checked.prog).any (Tryz.pinned.checked.prog.loopsFrom ·))) = true := by kernel_rfl
theorem k17 : ((Rows.fnExactPackageToSExprRow.wideKeys == (Tryz.f3.params.toList ++ Rows.fnExactPackageToSExprSpec.plain.varTypes Tryz.pinned.checked.prog ++ Tryz.f3.resultTypes.toList).any (Tryz.pinned.checked.prog.wideKeysFrom ·))) = true := by kernel_rfl
theorem k18 : (Rows.fnExactPackageToSExprSpec.vars.all (Tryz.pinned.checked.prog.varReadable ·)) = true := by kernel_rfl
theorem k19 : (Tryz.f3.resultTypes.all (fun t => Tryz.pinned.checked.prog.readableRec t && decide (t < Tryz.pinned.checked.prog.types.size))) = true := by kernel_rfl
theorem k20 : ((Rows.fnExactPackageToSExprRow.ifacesOut == Tryz.f3.resultTypes.toList.any (Tryz.pinned.checked.prog.ifacesRec ·))) = true := by kernel_rfl
theorem k21 : ((Rows.fnExactPackageToSExprRow.loopsOut == Tryz.f3.resultTypes.toList.any (Tryz.pinned.checked.prog.loopsFrom ·))) = true := by kernel_rfl
theorem k22 : ((Rows.fnExactPackageToSExprRow.plainKeys == Tryz.pinned.checked.prog.plainKeys)) = true := by kernel_rfl
theorem k23 : (Rows.fnExactPackageToSExprRow.shortTexts.isNone) = true := by kernel_rfl
theorem k24 : (Tryz.pinned.checked.prog.stopsHeard) = true := by kernel_rfl
theorem k25 : (Tryz.pinned.checked.prog.mayEnter) = true := by kernel_rfl
theorem k26 : ((Rows.fnExactPackageToSExprRow.lifted == Tryz.pinned.checked.prog.liftsFinal)) = true := by kernel_rfl
theorem k27 : ((Tryz.pinned.checked.prog.make == some Rows.fnExactPackageToSExprRow.make)) = true := by kernel_rfl
theorem k29 : ((Rows.fnExactPackageToSExprRow.pinned == Rows.fnExactPackageToSExprRow.pinnedBy)) = true := by kernel_rfl
theorem k30 : ((Rows.fnExactPackageToSExprRow.veiled == (Tryz.f3.params.toList ++ Rows.fnExactPackageToSExprSpec.plain.varTypes Tryz.pinned.checked.prog ++ Tryz.f3.resultTypes.toList).any (Tryz.pinned.checked.prog.veiledRec ·))) = true := by kernel_rfl
theorem k31 : (Rows.fnExactPackageToSExprRow.veiledFits Tryz.pinned.checked.prog Tryz.f3.params.toList (Tryz.f3.params.toList ++ Rows.fnExactPackageToSExprSpec.plain.varTypes Tryz.pinned.checked.prog ++ Tryz.f3.resultTypes.toList)) = true := by kernel_rfl
end Go.Proofs.YtlmhknhlmicmeaaGreatDoor.fnExactPackageToSExpr
