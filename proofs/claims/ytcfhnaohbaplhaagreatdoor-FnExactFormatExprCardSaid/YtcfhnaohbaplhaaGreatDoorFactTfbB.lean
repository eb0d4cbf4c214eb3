/-
  CLOSED FACTS of the card of laws.FnExactFormatExpr, part B. Printed by program (wip/tool/factsplit.py).
-/
import Derived.Test.YtcfhnaohbaplhaaGreatDoorRows
import Derived.Test.YtcfhnaohbaplhaaGreatDoorTie
import Derived.Test.YtcfhnaohbaplhaaGreatDoorCards
import Derived.ProofKit
import Derived.LaidMore
import Derived.OpenShut
import Derived.Stop.Joined
namespace Go.Proofs.YtcfhnaohbaplhaaGreatDoor.fnExactFormatExpr
open Go.ChangeShapes Go.WideShapes Go.ChangeAt Go.RowKit Go
set_option linter.unusedVariables false
theorem k13 : ((Rows.fnExactFormatExprRow.maps == (Tryz.f3.params.toList ++ Rows.fnExactFormatExprSpec.plain.varTypes Tryz.pinned.checked.prog).any (Tryz.pinned.checked.prog.mapsRec ·))) = true := by kernel_rfl
theorem k14 : ((Rows.fnExactFormatExprRow.ifaces == (Tryz.f3.params.toList ++ Rows.fnExactFormatExprSpec.plain.varTypes Tryz.pinned.checked.prog).any (Tryz.pinned.checked.prog.ifacesRec ·))) = true := by kernel_rfl
theorem k15 : ((Rows.fnExactFormatExprRow.mapsOut == Tryz.pinned.checked.prog.mapsAmong Tryz.f3.resultTypes.toList)) = true := by kernel_rfl
theorem k16 : ((Rows.fnExactFormatExprRow.loops == (Tryz.f3.params.toList ++ Rows.fnExactFormatExprSpec.plain.varTypes Tryz.pinned.checked.prog).any (Tryz.pinned.checked.prog.loopsFrom ·))) = true := by kernel_rfl
theorem k17 : ((Rows.fnExactFormatExprRow.wideKeys == (Tryz.f3.params.toList ++ Rows.fnExactFormatExprSpec.plain.varTypes Tryz.pinned.checked.prog ++ Tryz.f3.resultTypes.toList).any (Tryz.pinned.checked.prog.wideKeysFrom ·))) = true := by kernel_rfl
theorem k18 : (Rows.fnExactFormatExprSpec.vars.all (Tryz.pinned.checked.prog.varReadable ·)) = true := by kernel_rfl
theorem k19 : (Tryz.f3.resultTypes.all (fun t => Tryz.pinned.checked.prog.readableRec t && decide (t < Tryz.pinned.checked.prog.types.size))) = true := by kernel_rfl
theorem k20 : ((Rows.fnExactFormatExprRow.ifacesOut == Tryz.f3.resultTypes.toList.any (Tryz.pinned.checked.prog.ifacesRec ·))) = true := by kernel_rfl
theorem k21 : ((Rows.fnExactFormatExprRow.loopsOut == Tryz.f3.resultTypes.toList.any (Tryz.pinned.checked.prog.loopsFrom ·))) = true := by kernel_rfl
theorem k22 : ((Rows.fnExactFormatExprRow.plainKeys == Tryz.pinned.checked.prog.plainKeys)) = true := by kernel_rfl
theorem k23 : (Rows.fnExactFormatExprRow.shortTexts.isNone) = true := by kernel_rfl
theorem k24 : (Tryz.pinned.checked.prog.stopsHeard) = true := by kernel_rfl
theorem k25 : (Tryz.pinned.checked.prog.mayEnter) = true := by kernel_rfl
theorem k26 : ((Rows.fnExactFormatExprRow.lifted == Tryz.pinned.checked.prog.liftsFinal)) = true := by kernel_rfl
theorem k27 : ((Tryz.pinned.checked.prog.make == some Rows.fnExactFormatExprRow.make)) = true := by kernel_rfl
theorem k29 : ((Rows.fnExactFormatExprRow.pinned == Rows.fnExactFormatExprRow.pinnedBy)) = true := by kernel_rfl
theorem k30 : ((Rows.fnExactFormatExprRow.veiled == (Tryz.f3.params.toList ++ Rows.fnExactFormatExprSpec.plain.varTypes Tryz.pinned.checked.prog ++ Tryz.f3.resultTypes.toList).any (Tryz.pinned.checked.prog.veiledRec ·))) = true := by kernel_rfl
theorem k31 : (Rows.fnExactFormatExprRow.veiledFits Tryz.pinned.checked.prog Tryz.f3.params.toList (Tryz.f3.params.toList ++ Rows.fnExactFormatExprSpec.plain.varTypes Tryz.pinned.checked.prog ++ Tryz.f3.resultTypes.toList)) = true := by kernel_rfl
end Go.Proofs.YtcfhnaohbaplhaaGreatDoor.fnExactFormatExpr
