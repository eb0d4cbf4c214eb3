/-
  CLOSED FACTS of the card of laws.FnPkgOrder, part C. Printed by program (wip/tool/factsplit.py).
-/
import Derived.Test.YtnmjbebcebbmfaaGreatDoorRows
import Derived.Test.YtnmjbebcebbmfaaGreatDoorTie
import Derived.Test.YtnmjbebcebbmfaaGreatDoorCards
import Derived.ProofKit
import Derived.LaidMore
import Derived.OpenShut
import Derived.Stop.Joined
namespace Go.Proofs.YtnmjbebcebbmfaaGreatDoor.fnPkgOrder
open Go.ChangeShapes Go.WideShapes Go.ChangeAt Go.RowKit Go
set_option linter.unusedVariables false
set_option maxRecDepth 100000 in
theorem cWf : (Rows.fnPkgOrderRow.wfByText (OpenSpec.ofChange Rows.fnPkgOrderSpec)) = true := by kernel_rfl
set_option maxRecDepth 100000 in
theorem cMain : Tryz.pinned.checked.prog.mainIs = some (true, ("c6771a0960a9323d49d5435416b105b0e257ea676b40444926ab9abd533fd5c4" : String).toList) := by kernel_rfl
set_option maxRecDepth 100000 in
theorem cLooks : true = Tryz.pinned.checked.prog.looks [] := by kernel_rfl
set_option maxRecDepth 100000 in
theorem cFn : Tryz.pinned.checked.prog.funcNamed "loop.example/g00508/laws.FnPkgOrder" = some 3 := by kernel_rfl
set_option maxRecDepth 100000 in
theorem cStand : ([22].all fun u => !Tryz.prog.wantsStandIn u) = true := by kernel_rfl
set_option maxRecDepth 100000 in
theorem cAny : Tryz.pinned.checked.prog.funcs.any Func.goes = false := by kernel_rfl
theorem goes_none {P : Program} (h : P.funcs.any Func.goes = false) (f : FuncId) : P.goes f = false := by
  unfold Program.goes
  rw [h, Bool.and_false, Bool.or_false, List.any_eq_false]
  intro g _ hg
  cases e : P.funcs[g]? with
  | none => rw [e] at hg; cases hg
  | some fn =>
    rw [e] at hg
    have hm : fn ∈ P.funcs := Array.mem_of_getElem? e
    have := Array.any_eq_false'.1 h fn hm
    exact this hg
theorem goesAt_none {P : Program} (h : P.funcs.any Func.goes = false) (s : Start) (f : String) : P.goesAt s f = false := by
  have hf := goes_none h
  unfold Program.goesAt Program.goesFrom
  rw [Bool.or_eq_false_iff]
  refine ⟨?_, ?_⟩
  · cases P.funcNamed f with
    | none => rfl
    | some g => exact hf g
  · cases s <;> first
      | rfl
      | exact List.any_eq_false.2 fun g _ hg => by rw [hf g] at hg; cases hg
theorem cGoes : false = Rows.fnPkgOrderRow.goesBy Tryz.pinned.checked.prog := (goesAt_none cAny _ _).symm
set_option maxRecDepth 100000 in
theorem cAt (f : FuncId) (fn : Func) (hf : Tryz.pinned.checked.prog.funcNamed Rows.fnPkgOrderRow.func = some f) (hfn : Tryz.pinned.checked.prog.funcs[f]? = some fn) : true = Tryz.pinned.checked.prog.looks [] ∧ ∀ (j : Nat) t, fn.params[j]? = some t → Tryz.pinned.checked.prog.wantsStandIn t = false := by
  obtain rfl : f = 3 := Option.some.inj (cFn.symm.trans hf) |>.symm
  obtain rfl : fn = Tryz.f3 := (Option.some.inj (Tryz.func3.symm.trans hfn)).symm
  exact ⟨cLooks, fun j t ht => by
    rw [Tryz.params3] at ht
    have hm : t ∈ [22] := by simpa using Array.mem_of_getElem? ht
    exact (show Tryz.prog.wantsStandIn t = false by simpa using List.all_eq_true.1 cStand t hm)⟩
end Go.Proofs.YtnmjbebcebbmfaaGreatDoor.fnPkgOrder
