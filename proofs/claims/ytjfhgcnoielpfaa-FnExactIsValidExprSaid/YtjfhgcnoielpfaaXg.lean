/-
  WHAT IS PROVED: for all arguments, laws.FnExactIsValidExpr returns true and its arguments read behind the call as before. Conditions: none beyond the row's own reading of its arguments.
-/
import Derived.Test.YtjfhgcnoielpfaaRows
import Derived.Test.YtjfhgcnoielpfaaXf
import Derived.Test.YtjfhgcnoielpfaaTa
namespace Go.Proofs.Ytjfhgcnoielpfaa.fnExactIsValidExpr
open Go.ChangeShapes Go.WideShapes Go.ChangeAt Go.RowKit Go Go.Ab
set_option linter.unusedVariables false
theorem own : ownKnob Try.prog.godebug = none := by kernel_rfl
theorem closed : closedB Try.prog [28, 3, 9, 24, 25, 26, 22, 131, 40] = true := by kernel_rfl
set_option maxRecDepth 100000 in
theorem lifted (os : Os) (started : os.Started) (H : Type) (enc : TypeId × Value → H) :
    ReturnsInHanded {} Try.checked os 6 .any (Rows.fnExactIsValidExprSpec.pre6 enc Try.prog Try.f6 Rows.fnExactIsValidExprRow.domain false) (Rows.fnExactIsValidExprSpec.post enc Try.prog Try.f6 false true false false) := by
  refine returnsInHanded_of_change (C := Try.checked) own started (by kernel_rfl) Try.func6
    (ChangeSpec.witness6 (enc := enc) (C := Try.checked) false ⟨#[], #[.agg #[.int .i64 0, .string ⟨#[]⟩, .string ⟨#[]⟩, .int .i64 0, .int .i64 0, .string ⟨#[]⟩, .slice none 0 0, .slice none 0 0, .slice none 0 0]], []⟩ 8 (by kernel_rfl) (by kernel_rfl) (by kernel_rfl) (by kernel_rfl)) ?_
  intro W base args ds gs before hval0 hW hcnd _
  have hval : ∀ (j : Nat) t v, Try.f6.params[j]? = some t → args[j]? = some v → Value.okWide Try.prog W .any base t v := hval0
  have hW' := hW
  obtain ⟨p, q, hA0, hV, rfl, hfz, hnd⟩ := hW
  have hA : DataW.TrodAll enc Try.prog W 0 (fun _ => true) true Try.f6.params.toList args.toList ds p := hA0
  rw [Try.params6] at hA hval
  obtain ⟨v0, vs0, d0, ds0, p0, q0, hargs0, rfl, rfl, h0, r0⟩ := trodAll_cons hA
  obtain ⟨rfl, rfl, rfl⟩ := trodAll_nil r0
  obtain rfl : args = #[v0] := by cases args; simp_all
  obtain ⟨rfl, rfl⟩ := trodVars_none hV
  obtain ⟨n0, e0⟩ := h0
  obtain ⟨c0, wt0, hl0⟩ := trod_data closed n0 28 _ _ (by decide) e0
  have f0 := wt_fit _ _ _ wt0
  obtain ⟨x0, rfl⟩ := wt_Expr _ _ wt0
  have g0 := arg_struct Try.underlying28 (hval 0 28 v0 rfl rfl) hl0
  rw [MExpr.v_eq] at g0
  exact law_post Fa.laidOut (by kernel_rfl) rfl rfl Try.underlying4 rfl rfl rfl hW' (repVs_cons g0 (repVs_nil)) (law x0 f0)

theorem over : Rows.fnExactIsValidExprRow.holds Try.pinned (OpenSpec.ofChange Rows.fnExactIsValidExprSpec) :=
  OpenClaim.holds_of_wide 6 Try.f6 rfl rfl rfl rfl rfl rfl rfl ⟨rfl, rfl, rfl, rfl, rfl⟩ rfl rfl rfl rfl rfl (by kernel_rfl) Try.func6 (by kernel_rfl)
    (of_decide_eq_true (by kernel_rfl)) (by unfold Func.isWrapper; first | (rw [if_pos (by decide +kernel)]; kernel_rfl) | (rw [if_neg (by decide +kernel)]; exact ⟨rfl, rfl⟩))
    (fun os started H enc _ => lifted os started H enc)

/-- THE STATEMENT -/
theorem proved : Rows.FnExactIsValidExprSaid :=
  over
#print axioms proved
end Go.Proofs.Ytjfhgcnoielpfaa.fnExactIsValidExpr
