/-
  CLOSED FACTS of the card of laws.FnExactFormatProgram, part B. Printed by program (wip/tool/factsplit.py).
-/
import Derived.Test.YtcfhnaohbaplhaaGreatDoorRows
import Derived.Test.YtcfhnaohbaplhaaGreatDoorTie
import Derived.Test.YtcfhnaohbaplhaaGreatDoorCards
import Derived.ProofKit
import Derived.LaidMore
import Derived.OpenShut
import Derived.Stop.Joined
namespace Go.Proofs.YtcfhnaohbaplhaaGreatDoor.fnExactFormatProgram
open Go.ChangeShapes Go.WideShapes Go.ChangeAt Go.RowKit Go
set_option linter.unusedVariables false
theorem k13 : ((Rows.fnExactFormatProgramRow.maps == (Tryz.f5.params.toList ++ Rows.fnExactFormatProgramSpec.plain.varTypes Tryz.pinned.checked.prog).any (Tryz.pinned.checked.prog.mapsRec ·))) = true := by kernel_rfl
theorem k14 : ((Rows.fnExactFormatProgramRow.ifaces == (Tryz.f5.params.toList ++ Rows.fnExactFormatProgramSpec.plain.varTypes Tryz.pinned.checked.prog).any (Tryz.pinned.checked.prog.ifacesRec ·))) = true := by kernel_rfl
theorem k15 : ((Rows.fnExactFormatProgramRow.mapsOut == Tryz.pinned.checked.prog.mapsAmong Tryz.f5.resultTypes.toList)) = true := by kernel_rfl
theorem k16 : ((Rows.fnExactFormatProgramRow.loops == (Tryz.f5.params.toList ++ Rows.fnExactFormatProgramSpec.plain.varTypes Tryz.pinned.checked.prog).any (Tryz.pinned.checked.prog.loopsFrom ·))) = true := by kernel_rfl
theorem k17 : ((Rows.fnExactFormatProgramRow.wideKeys == (Tryz.f5.params.toList ++ Rows.fnExactFormatProgramSpec.plain.varTypes Tryz.pinned.checked.prog ++ Tryz.f5.resultTypes.toList).any (Tryz.pinned.checked.prog.wideKeysFrom ·))) = true := by kernel_rfl
theorem k18 : (Rows.fnExactFormatProgramSpec.vars.all (Tryz.pinned.checked.prog.varReadable ·)) = true := by kernel_rfl
theorem k19 : (Tryz.f5.resultTypes.all (fun t => Tryz.pinned.checked.prog.readableRec t && decide (t < Tryz.pinned.checked.prog.types.size))) = true := by kernel_rfl
theorem k20 : ((Rows.fnExactFormatProgramRow.ifacesOut == Tryz.f5.resultTypes.toList.any (Tryz.pinned.checked.prog.ifacesRec ·))) = true := by kernel_rfl
theorem k21 : ((Rows.fnExactFormatProgramRow.loopsOut == Tryz.f5.resultTypes.toList.any (Tryz.pinned.checked.prog.loopsFrom ·))) = true := by kernel_rfl
theorem k22 : ((Rows.fnExactFormatProgramRow.plainKeys == Tryz.pinned.checked.prog.plainKeys)) = true := by kernel_rfl
theorem k23 : (Rows.fnExactFormatProgramRow.shortTexts.isNone) = true := by kernel_rfl
theorem k24 : (Tryz.pinned.checked.prog.stopsHeard) = true := by kernel_rfl
theorem k25 : (Tryz.pinned.checked.prog.mayEnter) = true := by kernel_rfl
theorem k26 : ((Rows.fnExactFormatProgramRow.lifted == Tryz.pinned.checked.prog.liftsFinal)) = true := by kernel_rfl
theorem k27 : ((Tryz.pinned.checked.prog.make == some Rows.fnExactFormatProgramRow.make)) = true := by kernel_rfl
theorem k29 : ((Rows.fnExactFormatProgramRow.pinned == Rows.fnExactFormatProgramRow.pinnedBy)) = true := by kernel_rfl
theorem k30 : ((Rows.fnExactFormatProgramRow.veiled == (Tryz.f5.params.toList ++ Rows.fnExactFormatProgramSpec.plain.varTypes Tryz.pinned.checked.prog ++ Tryz.f5.resultTypes.toList).any (Tryz.pinned.checked.prog.veiledRec ·))) = true := by kernel_rfl
theorem k31 : (Rows.fnExactFormatProgramRow.veiledFits Tryz.pinned.checked.prog Tryz.f5.params.toList (Tryz.f5.params.toList ++ Rows.fnExactFormatProgramSpec.plain.varTypes Tryz.pinned.checked.prog ++ Tryz.f5.resultTypes.toList)) = true := by kernel_rfl
end Go.Proofs.YtcfhnaohbaplhaaGreatDoor.fnExactFormatProgram
