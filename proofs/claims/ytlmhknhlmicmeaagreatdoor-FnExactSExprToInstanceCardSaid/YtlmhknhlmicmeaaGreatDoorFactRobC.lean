/-
  CLOSED FACTS of the card of laws.FnExactSExprToInstance, part C. Printed by program (wip/tool/factsplit.py).
-/
import Derived.Test.YtlmhknhlmicmeaaGreatDoorRows
import Derived.Test.YtlmhknhlmicmeaaGreatDoorTie
import Derived.Test.YtlmhknhlmicmeaaGreatDoorCards
import Derived.ProofKit
import Derived.LaidMore
import Derived.OpenShut
import Derived.Stop.Joined
namespace Go.Proofs.YtlmhknhlmicmeaaGreatDoor.fnExactSExprToInstance
open Go.ChangeShapes Go.WideShapes Go.ChangeAt Go.RowKit Go
set_option linter.unusedVariables false
set_option maxRecDepth 100000 in
theorem cWf : (Rows.fnExactSExprToInstanceRow.wfByText (OpenSpec.ofChange Rows.fnExactSExprToInstanceSpec)) = true := by kernel_rfl
set_option maxRecDepth 100000 in
theorem cMain : Tryz.pinned.checked.prog.mainIs = some (true, ("6386e9004562b7b3393a6da951c5c4ed9da65910eabdb57ec88ad16f439e0525" : String).toList) := by kernel_rfl
set_option maxRecDepth 100000 in
theorem cLooks : true = Tryz.pinned.checked.prog.looks [] := by kernel_rfl
set_option maxRecDepth 100000 in
theorem cFn : Tryz.pinned.checked.prog.funcNamed "loop.example/g00508/laws.FnExactSExprToInstance" = some 9 := by kernel_rfl
set_option maxRecDepth 100000 in
theorem cStand : ([68].all fun u => !Tryz.prog.wantsStandIn u) = true := by kernel_rfl
set_option maxRecDepth 100000 in
theorem cGoes : false = Rows.fnExactSExprToInstanceRow.goesBy Tryz.pinned.checked.prog := by kernel_rfl
set_option maxRecDepth 100000 in
theorem cAt (f : FuncId) (fn : Func) (hf : Tryz.pinned.checked.prog.funcNamed Rows.fnExactSExprToInstanceRow.func = some f) (hfn : Tryz.pinned.checked.prog.funcs[f]? = some fn) : true = Tryz.pinned.checked.prog.looks [] ∧ ∀ (j : Nat) t, fn.params[j]? = some t → Tryz.pinned.checked.prog.wantsStandIn t = false := by
  obtain rfl : f = 9 := Option.some.inj (cFn.symm.trans hf) |>.symm
  obtain rfl : fn = Tryz.f9 := (Option.some.inj (Tryz.func9.symm.trans hfn)).symm
  exact ⟨cLooks, fun j t ht => by
    rw [Tryz.params9] at ht
    have hm : t ∈ [68] := by simpa using Array.mem_of_getElem? ht
    exact (show Tryz.prog.wantsStandIn t = false by simpa using List.all_eq_true.1 cStand t hm)⟩
end Go.Proofs.YtlmhknhlmicmeaaGreatDoor.fnExactSExprToInstance
