/-
  CLOSED FACTS of the card of laws.FnExactSExprToExpr, part B. Printed by program (wip/tool/factsplit.py).
-/
import Derived.Test.YtlmhknhlmicmeaaGreatDoorRows
import Derived.Test.YtlmhknhlmicmeaaGreatDoorTie
import Derived.Test.YtlmhknhlmicmeaaGreatDoorCards
import Derived.ProofKit
import Derived.LaidMore
import Derived.OpenShut
import Derived.Stop.Joined
namespace Go.Proofs.YtlmhknhlmicmeaaGreatDoor.fnExactSExprToExpr
open Go.ChangeShapes Go.WideShapes Go.ChangeAt Go.RowKit Go
set_option linter.unusedVariables false
theorem k13 : ((Rows.fnExactSExprToExprRow.maps == (Tryz.f6.params.toList ++ Rows.fnExactSExprToExprSpec.plain.varTypes Tryz.pinned.checked.prog).any (Tryz.pinned.checked.prog.mapsRec ·))) = true := by kernel_rfl
theorem k14 : ((Rows.fnExactSExprToExprRow.ifaces == (Tryz.f6.params.toList ++ Rows.fnExactSExprToExprSpec.plain.varTypes Tryz.pinned.checked.prog).any (Tryz.pinned.checked.prog.ifacesRec ·))) = true := by kernel_rfl
theorem k15 : ((Rows.fnExactSExprToExprRow.mapsOut == Tryz.pinned.checked.prog.mapsAmong Tryz.f6.resultTypes.toList)) = true := by kernel_rfl
theorem k16 : ((Rows.fnExactSExprToExprRow.loops == (Tryz.f6.params.toList ++ Rows.fnExactSExprToExprSpec.plain.varTypes Tryz.pinned.checked.prog).any (Tryz.pinned.checked.prog.loopsFrom ·))) = true := by kernel_rfl
theorem k17 : ((Rows.fnExactSExprToExprRow.wideKeys == (Tryz.f6.params.toList ++ Rows.fnExactSExprToExprSpec.plain.varTypes Tryz.pinned.checked.prog ++ Tryz.f6.resultTypes.toList).any (Tryz.pinned.checked.prog.wideKeysFrom ·))) = true := by kernel_rfl
theorem k18 : (Rows.fnExactSExprToExprSpec.vars.all (Tryz.pinned.checked.prog.varReadable ·)) = true := by kernel_rfl
theorem k19 : (Tryz.f6.resultTypes.all (fun t => Tryz.pinned.checked.prog.readableRec t && decide (t < Tryz.pinned.checked.prog.types.size))) = true := by kernel_rfl
theorem k20 : ((Rows.fnExactSExprToExprRow.ifacesOut == Tryz.f6.resultTypes.toList.any (Tryz.pinned.checked.prog.ifacesRec ·))) = true := by kernel_rfl
theorem k21 : ((Rows.fnExactSExprToExprRow.loopsOut == Tryz.f6.resultTypes.toList.any (Tryz.pinned.checked.prog.loopsFrom ·))) = true := by kernel_rfl
theorem k22 : ((Rows.fnExactSExprToExprRow.plainKeys == Tryz.pinned.checked.prog.plainKeys)) = true := by kernel_rfl
theorem k23 : (Rows.fnExactSExprToExprRow.shortTexts.isNone) = true := by kernel_rfl
theorem k24 : (Tryz.pinned.checked.prog.stopsHeard) = true := by kernel_rfl
theorem k25 : (Tryz.pinned.checked.prog.mayEnter) = true := by kernel_rfl
theorem k26 : ((Rows.fnExactSExprToExprRow.lifted == Tryz.pinned.checked.prog.liftsFinal)) = true := by kernel_rfl
theorem k27 : ((Tryz.pinned.checked.prog.make == some Rows.fnExactSExprToExprRow.make)) = true := by kernel_rfl
theorem k29 : ((Rows.fnExactSExprToExprRow.pinned == Rows.fnExactSExprToExprRow.pinnedBy)) = true := by kernel_rfl
theorem k30 : ((Rows.fnExactSExprToExprRow.veiled == (Tryz.f6.params.toList ++ Rows.fnExactSExprToExprSpec.plain.varTypes Tryz.pinned.checked.prog ++ Tryz.f6.resultTypes.toList).any (Tryz.pinned.checked.prog.veiledRec ·))) = true := by kernel_rfl
theorem k31 : (Rows.fnExactSExprToExprRow.veiledFits Tryz.pinned.checked.prog Tryz.f6.params.toList (Tryz.f6.params.toList ++ Rows.fnExactSExprToExprSpec.plain.varTypes Tryz.pinned.checked.prog ++ Tryz.f6.resultTypes.toList)) = true := by kernel_rfl
end Go.Proofs.YtlmhknhlmicmeaaGreatDoor.fnExactSExprToExpr
