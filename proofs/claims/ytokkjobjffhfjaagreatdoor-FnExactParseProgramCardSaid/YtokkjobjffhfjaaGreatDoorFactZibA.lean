/-
  CLOSED FACTS of the card of laws.FnExactParseProgram, part A. Printed by program (wip/tool/factsplit.py).
-/
import Derived.Test.YtokkjobjffhfjaaGreatDoorRows
import Derived.Test.YtokkjobjffhfjaaGreatDoorTie
import Derived.Test.YtokkjobjffhfjaaGreatDoorCards
import Derived.ProofKit
import Derived.LaidMore
import Derived.OpenShut
import Derived.Stop.Joined
import Derived.Lay
namespace Go.Proofs.YtokkjobjffhfjaaGreatDoor.fnExactParseProgram
open Go.ChangeShapes Go.WideShapes Go.ChangeAt Go.RowKit Go
set_option linter.unusedVariables false
theorem wf64 {x : Int} (h : (Lit.int .i64 x).wf = true) : -9223372036854775808 ≤ x ∧ x ≤ 9223372036854775807 := by
  have h1 : IntKind.i64.min = -9223372036854775808 := by decide
  have h2 : IntKind.i64.max = 9223372036854775807 := by decide
  simp only [Lit.wf, Bool.and_eq_true, decide_eq_true_eq, h1, h2] at h
  exact h
theorem own : ownKnob Tryz.prog.godebug = none := by kernel_rfl
set_option maxRecDepth 100000 in
theorem door_met (os : Os) (args : Array Value) : laidMetH Tryz.prog Rows.fnExactParseProgramRow.laid ((World.laidAll Tryz.prog os Rows.fnExactParseProgramRow.laid).forCall (fun _ _ => 0) ⟨#[], args, []⟩).memory := by
  rw [MakeChecks.laidMetH_plain _ _ _ (by kernel_rfl)]
  exact laidMet_laidAll _ (by kernel_rfl) (by kernel_rfl)
theorem k0 : (Rows.fnExactParseProgramRow.wf (OpenSpec.ofChange Rows.fnExactParseProgramSpec)) = true := by kernel_rfl
theorem k1 : (laidOutB Tryz.pinned.checked.prog) = true := by kernel_rfl
theorem k2 : (mapsRowed Tryz.pinned.checked.prog) = true := by kernel_rfl
theorem k3 : (Tryz.f5.params.all (Tryz.pinned.checked.prog.readableRec ·)) = true := by kernel_rfl
theorem k4 : (namedTie Tryz.pinned.checked.prog Rows.fnExactParseProgramRow.named Rows.fnExactParseProgramSpec.vars) = true := by kernel_rfl
theorem k5 : ((Rows.fnExactParseProgramRow.stops == [])) = true := by kernel_rfl
theorem k6 : ((Tryz.pinned.checked.prog.stops == [])) = true := by kernel_rfl
theorem k7 : ((Rows.fnExactParseProgramRow.knobs == [])) = true := by kernel_rfl
theorem k8 : ((Tryz.pinned.checked.prog.stopKnobs == [])) = true := by kernel_rfl
theorem k9 : ((Rows.fnExactParseProgramRow.inPlace == Tryz.pinned.checked.prog.inPlace 5)) = true := by kernel_rfl
theorem k10 : ((Rows.fnExactParseProgramRow.unfollowed == Tryz.pinned.checked.prog.unfollowed 5)) = true := by kernel_rfl
theorem k11 : ((Rows.fnExactParseProgramRow.recurses == Tryz.pinned.checked.prog.recurses 5)) = true := by kernel_rfl
theorem k12 : ((Rows.fnExactParseProgramRow.named == Tryz.pinned.checked.prog.varsNamed 5)) = true := by kernel_rfl
theorem named : Tryz.pinned.checked.prog.funcNamed Rows.fnExactParseProgramRow.func = some 5 := by kernel_rfl
theorem inst : Tryz.f5.isInstance Tryz.pinned.checked.prog Rows.fnExactParseProgramRow.origin Rows.fnExactParseProgramRow.targs := of_decide_eq_true (by kernel_rfl)
theorem wrap : Tryz.f5.isWrapper Tryz.pinned.checked.prog Rows.fnExactParseProgramRow.wrapper Rows.fnExactParseProgramRow.mainSum := by
  unfold Func.isWrapper
  first | (rw [if_pos (by decide +kernel)]; kernel_rfl) | (rw [if_neg (by decide +kernel)]; exact ⟨rfl, rfl⟩)
end Go.Proofs.YtokkjobjffhfjaaGreatDoor.fnExactParseProgram
