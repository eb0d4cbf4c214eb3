/-
  WHAT IS PROVED: for all arguments, laws.FnExactIsValidFunction returns true and its arguments read behind the call as before. Conditions: none beyond the row's own reading of its arguments.
-/
import Derived.Test.YtjfhgcnoielpfaaGreatRows
import Derived.Test.YtjfhgcnoielpfaaGreatPartJjF
namespace Go.Proofs.YtjfhgcnoielpfaaGreat.fnExactIsValidFunction
open Go.ChangeShapes Go.WideShapes Go.ChangeAt Go.RowKit Go Go.Ab
set_option linter.unusedVariables false
theorem own : ownKnob Tryz.prog.godebug = none := by kernel_rfl
theorem closed : closedB Tryz.prog [33, 9, 22, 23, 24, 27, 31, 89, 153, 3, 25, 28, 29, 217] = true := by kernel_rfl
set_option maxRecDepth 100000 in
theorem lifted (os : Os) (started : os.Started) (H : Type) (enc : TypeId × Value → H) :
    ReturnsInHanded {} Tryz.checked os 3 .any (Rows.fnExactIsValidFunctionSpec.pre6 enc Tryz.prog Tryz.f3 Rows.fnExactIsValidFunctionRow.domain false) (Rows.fnExactIsValidFunctionSpec.post enc Tryz.prog Tryz.f3 false true false false) := by
  refine returnsInHanded_of_change (C := Tryz.checked) own started (by kernel_rfl) Tryz.func3
    (ChangeSpec.witness6 (enc := enc) (C := Tryz.checked) false ⟨#[], #[.agg #[.string ⟨#[]⟩, .slice none 0 0, .slice none 0 0, .slice none 0 0, .int .i64 0, .string ⟨#[]⟩, .slice none 0 0, .int .i64 0, .string ⟨#[]⟩, .string ⟨#[]⟩, .int .i64 0, .int .i64 0, .string ⟨#[]⟩, .slice none 0 0, .slice none 0 0, .slice none 0 0]], []⟩ 8 (by kernel_rfl) (by kernel_rfl) (by kernel_rfl) (by kernel_rfl)) ?_
  intro W base args ds gs before hval0 hW hcnd _
  have hval : ∀ (j : Nat) t v, Tryz.f3.params[j]? = some t → args[j]? = some v → Value.okWide Tryz.prog W .any base t v := hval0
  have hW' := hW
  obtain ⟨p, q, hA0, hV, rfl, hfz, hnd⟩ := hW
  have hA : DataW.TrodAll enc Tryz.prog W 0 (fun _ => true) true Tryz.f3.params.toList args.toList ds p := hA0
  rw [Tryz.params3] at hA hval
  obtain ⟨v0, vs0, d0, ds0, p0, q0, hargs0, rfl, rfl, h0, r0⟩ := trodAll_cons hA
  obtain ⟨rfl, rfl, rfl⟩ := trodAll_nil r0
  obtain rfl : args = #[v0] := by cases args; simp_all
  obtain ⟨rfl, rfl⟩ := trodVars_none hV
  obtain ⟨n0, e0⟩ := h0
  obtain ⟨c0, wt0, hl0⟩ := trod_data closed n0 33 _ _ (by decide) e0
  have f0 := wt_fit _ _ _ wt0
  obtain ⟨x0, rfl⟩ := wt_Function _ _ wt0
  have g0 := arg_struct Tryz.underlying33 (hval 0 33 v0 rfl rfl) hl0
  rw [MFunction.v_eq] at g0
  exact law_post Fa.laidOut (by kernel_rfl) rfl rfl Tryz.underlying4 rfl rfl rfl hW' (repVs_cons g0 (repVs_nil)) (law x0 f0)

theorem over : Rows.fnExactIsValidFunctionRow.holds Tryz.pinned (OpenSpec.ofChange Rows.fnExactIsValidFunctionSpec) :=
  OpenClaim.holds_of_wide 3 Tryz.f3 rfl rfl rfl rfl rfl rfl rfl ⟨rfl, rfl, rfl, rfl, rfl⟩ rfl rfl rfl rfl rfl (by kernel_rfl) Tryz.func3 (by kernel_rfl)
    (of_decide_eq_true (by kernel_rfl)) (by unfold Func.isWrapper; first | (rw [if_pos (by decide +kernel)]; kernel_rfl) | (rw [if_neg (by decide +kernel)]; exact ⟨rfl, rfl⟩))
    (fun os started H enc _ => lifted os started H enc)

/-- THE STATEMENT -/
theorem proved : Rows.FnExactIsValidFunctionSaid :=
  over
#print axioms proved
end Go.Proofs.YtjfhgcnoielpfaaGreat.fnExactIsValidFunction
