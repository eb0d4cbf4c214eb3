/-
  CLOSED FACTS of the card of laws.FnPkgOrder, part B. Printed by program (wip/tool/factsplit.py).
-/
import Derived.Test.YtnmjbebcebbmfaaGreatDoorRows
import Derived.Test.YtnmjbebcebbmfaaGreatDoorTie
import Derived.Test.YtnmjbebcebbmfaaGreatDoorCards
import Derived.ProofKit
import Derived.LaidMore
import Derived.OpenShut
import Derived.Stop.Joined
namespace Go.Proofs.YtnmjbebcebbmfaaGreatDoor.fnPkgOrder
open Go.ChangeShapes Go.WideShapes Go.ChangeAt Go.RowKit Go
set_option linter.unusedVariables false
theorem k13 : ((Rows.fnPkgOrderRow.maps == (Tryz.f3.params.toList ++ Rows.fnPkgOrderSpec.plain.varTypes Tryz.pinned.checked.prog).any (Tryz.pinned.checked.prog.mapsRec ·))) = true := by kernel_rfl
theorem k14 : ((Rows.fnPkgOrderRow.ifaces == (Tryz.f3.params.toList ++ Rows.fnPkgOrderSpec.plain.varTypes Tryz.pinned.checked.prog).any (Tryz.pinned.checked.prog.ifacesRec ·))) = true := by kernel_rfl
theorem k15 : ((Rows.fnPkgOrderRow.mapsOut == Tryz.pinned.checked.prog.mapsAmong Tryz.f3.resultTypes.toList)) = true := by kernel_rfl
theorem k16 : ((Rows.fnPkgOrderRow.loops == (Tryz.f3.params.toList ++ Rows.fnPkgOrderSpec.plain.varTypes Tryz.pinned.checked.prog).any (Tryz.pinned.checked.prog.loopsFrom ·))) = true := by kernel_rfl
theorem k17 : ((Rows.fnPkgOrderRow.wideKeys == (Tryz.f3.params.toList ++ Rows.fnPkgOrderSpec.plain.varTypes Tryz.pinned.checked.prog ++ Tryz.f3.resultTypes.toList).any (Tryz.pinned.checked.prog.wideKeysFrom ·))) = true := by kernel_rfl
theorem k18 : (Rows.fnPkgOrderSpec.vars.all (Tryz.pinned.checked.prog.varReadable ·)) = true := by kernel_rfl
theorem k19 : (Tryz.f3.resultTypes.all (fun t => Tryz.pinned.checked.prog.readableRec t && decide (t < Tryz.pinned.checked.prog.types.size))) = true := by kernel_rfl
theorem k20 : ((Rows.fnPkgOrderRow.ifacesOut == Tryz.f3.resultTypes.toList.any (Tryz.pinned.checked.prog.ifacesRec ·))) = true := by kernel_rfl
theorem k21 : ((Rows.fnPkgOrderRow.loopsOut == Tryz.f3.resultTypes.toList.any (Tryz.pinned.checked.prog.loopsFrom ·))) = true := by kernel_rfl
theorem k22 : ((Rows.fnPkgOrderRow.plainKeys == Tryz.pinned.checked.prog.plainKeys)) = true := by kernel_rfl
theorem k23 : (Rows.fnPkgOrderRow.shortTexts.isNone) = true := by kernel_rfl
theorem k24 : (Tryz.pinned.checked.prog.stopsHeard) = true := by kernel_rfl
theorem k25 : (Tryz.pinned.checked.prog.mayEnter) = true := by kernel_rfl
theorem k26 : ((Rows.fnPkgOrderRow.lifted == Tryz.pinned.checked.prog.liftsFinal)) = true := by kernel_rfl
theorem k27 : ((Tryz.pinned.checked.prog.make == some Rows.fnPkgOrderRow.make)) = true := by kernel_rfl
theorem k29 : ((Rows.fnPkgOrderRow.pinned == Rows.fnPkgOrderRow.pinnedBy)) = true := by kernel_rfl
theorem k30 : ((Rows.fnPkgOrderRow.veiled == (Tryz.f3.params.toList ++ Rows.fnPkgOrderSpec.plain.varTypes Tryz.pinned.checked.prog ++ Tryz.f3.resultTypes.toList).any (Tryz.pinned.checked.prog.veiledRec ·))) = true := by kernel_rfl
theorem k31 : (Rows.fnPkgOrderRow.veiledFits Tryz.pinned.checked.prog Tryz.f3.params.toList (Tryz.f3.params.toList ++ Rows.fnPkgOrderSpec.plain.varTypes Tryz.pinned.checked.prog ++ Tryz.f3.resultTypes.toList)) = true := by kernel_rfl
end Go.Proofs.YtnmjbebcebbmfaaGreatDoor.fnPkgOrder
