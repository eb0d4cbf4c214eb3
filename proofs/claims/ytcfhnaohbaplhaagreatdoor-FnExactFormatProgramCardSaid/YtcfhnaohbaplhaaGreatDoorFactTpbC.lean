/-
  CLOSED FACTS of the card of laws.FnExactFormatProgram, part C. Printed by program (wip/tool/factsplit.py).
-/
import Derived.Test.YtcfhnaohbaplhaaGreatDoorRows
import Derived.Test.YtcfhnaohbaplhaaGreatDoorTie
import Derived.Test.YtcfhnaohbaplhaaGreatDoorCards
import Derived.ProofKit
import Derived.LaidMore
import Derived.OpenShut
import Derived.Stop.Joined
namespace Go.Proofs.YtcfhnaohbaplhaaGreatDoor.fnExactFormatProgram
open Go.ChangeShapes Go.WideShapes Go.ChangeAt Go.RowKit Go
set_option linter.unusedVariables false
set_option maxRecDepth 100000 in
theorem cWf : (Rows.fnExactFormatProgramRow.wfByText (OpenSpec.ofChange Rows.fnExactFormatProgramSpec)) = true := by kernel_rfl
set_option maxRecDepth 100000 in
theorem cMain : Tryz.pinned.checked.prog.mainIs = some (true, ("6b00631f006e200582a8c20a97a8d6c94f481ae2b92569db8a0f83fe40d47c65" : String).toList) := by kernel_rfl
set_option maxRecDepth 100000 in
theorem cLooks : true = Tryz.pinned.checked.prog.looks [] := by kernel_rfl
set_option maxRecDepth 100000 in
theorem cFn : Tryz.pinned.checked.prog.funcNamed "loop.example/g00508/laws.FnExactFormatProgram" = some 5 := by kernel_rfl
set_option maxRecDepth 100000 in
theorem cStand : ([61].all fun u => !Tryz.prog.wantsStandIn u) = true := by kernel_rfl
set_option maxRecDepth 100000 in
theorem cGoes : false = Rows.fnExactFormatProgramRow.goesBy Tryz.pinned.checked.prog := by kernel_rfl
set_option maxRecDepth 100000 in
theorem cAt (f : FuncId) (fn : Func) (hf : Tryz.pinned.checked.prog.funcNamed Rows.fnExactFormatProgramRow.func = some f) (hfn : Tryz.pinned.checked.prog.funcs[f]? = some fn) : true = Tryz.pinned.checked.prog.looks [] ∧ ∀ (j : Nat) t, fn.params[j]? = some t → Tryz.pinned.checked.prog.wantsStandIn t = false := by
  obtain rfl : f = 5 := Option.some.inj (cFn.symm.trans hf) |>.symm
  obtain rfl : fn = Tryz.f5 := (Option.some.inj (Tryz.func5.symm.trans hfn)).symm
  exact ⟨cLooks, fun j t ht => by
    rw [Tryz.params5] at ht
    have hm : t ∈ [61] := by simpa using Array.mem_of_getElem? ht
    exact (show Tryz.prog.wantsStandIn t = false by simpa using List.all_eq_true.1 cStand t hm)⟩
end Go.Proofs.YtcfhnaohbaplhaaGreatDoor.fnExactFormatProgram
