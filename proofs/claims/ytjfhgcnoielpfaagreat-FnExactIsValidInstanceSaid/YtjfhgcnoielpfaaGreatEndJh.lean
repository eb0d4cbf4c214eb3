/-
  WHAT IS PROVED: for all arguments, laws.FnExactIsValidInstance returns true and its arguments read behind the call as before. Conditions: none beyond the row's own reading of its arguments.
-/
import Derived.Test.YtjfhgcnoielpfaaGreatRows
import Derived.Test.YtjfhgcnoielpfaaGreatPartJhF
namespace Go.Proofs.YtjfhgcnoielpfaaGreat.fnExactIsValidInstance
open Go.ChangeShapes Go.WideShapes Go.ChangeAt Go.RowKit Go Go.Ab
set_option linter.unusedVariables false
theorem own : ownKnob Tryz.prog.godebug = none := by kernel_rfl
theorem closed : closedB Tryz.prog [63, 9, 22, 27, 23, 4, 61, 3, 25, 89, 179, 31, 28, 29, 217] = true := by kernel_rfl
set_option maxRecDepth 100000 in
theorem lifted (os : Os) (started : os.Started) (H : Type) (enc : TypeId × Value → H) :
    ReturnsInHanded {} Tryz.checked os 5 .any (Rows.fnExactIsValidInstanceSpec.pre6 enc Tryz.prog Tryz.f5 Rows.fnExactIsValidInstanceRow.domain false) (Rows.fnExactIsValidInstanceSpec.post enc Tryz.prog Tryz.f5 false true false false) := by
  refine returnsInHanded_of_change (C := Tryz.checked) own started (by kernel_rfl) Tryz.func5
    (ChangeSpec.witness6 (enc := enc) (C := Tryz.checked) false ⟨#[], #[.agg #[.string ⟨#[]⟩, .slice none 0 0, .int .i64 0, .string ⟨#[]⟩, .slice none 0 0, .slice none 0 0, .bool false, .bool false, .int .i64 0, .string ⟨#[]⟩, .slice none 0 0, .slice none 0 0]], []⟩ 8 (by kernel_rfl) (by kernel_rfl) (by kernel_rfl) (by kernel_rfl)) ?_
  intro W base args ds gs before hval0 hW hcnd _
  have hval : ∀ (j : Nat) t v, Tryz.f5.params[j]? = some t → args[j]? = some v → Value.okWide Tryz.prog W .any base t v := hval0
  have hW' := hW
  obtain ⟨p, q, hA0, hV, rfl, hfz, hnd⟩ := hW
  have hA : DataW.TrodAll enc Tryz.prog W 0 (fun _ => true) true Tryz.f5.params.toList args.toList ds p := hA0
  rw [Tryz.params5] at hA hval
  obtain ⟨v0, vs0, d0, ds0, p0, q0, hargs0, rfl, rfl, h0, r0⟩ := trodAll_cons hA
  obtain ⟨rfl, rfl, rfl⟩ := trodAll_nil r0
  obtain rfl : args = #[v0] := by cases args; simp_all
  obtain ⟨rfl, rfl⟩ := trodVars_none hV
  obtain ⟨n0, e0⟩ := h0
  obtain ⟨c0, wt0, hl0⟩ := trod_data closed n0 63 _ _ (by decide) e0
  have f0 := wt_fit _ _ _ wt0
  obtain ⟨x0, rfl⟩ := wt_Instance _ _ wt0
  have g0 := arg_struct Tryz.underlying63 (hval 0 63 v0 rfl rfl) hl0
  rw [MInstance.v_eq] at g0
  exact law_post Fa.laidOut (by kernel_rfl) rfl rfl Tryz.underlying4 rfl rfl rfl hW' (repVs_cons g0 (repVs_nil)) (law x0 f0)

theorem over : Rows.fnExactIsValidInstanceRow.holds Tryz.pinned (OpenSpec.ofChange Rows.fnExactIsValidInstanceSpec) :=
  OpenClaim.holds_of_wide 5 Tryz.f5 rfl rfl rfl rfl rfl rfl rfl ⟨rfl, rfl, rfl, rfl, rfl⟩ rfl rfl rfl rfl rfl (by kernel_rfl) Tryz.func5 (by kernel_rfl)
    (of_decide_eq_true (by kernel_rfl)) (by unfold Func.isWrapper; first | (rw [if_pos (by decide +kernel)]; kernel_rfl) | (rw [if_neg (by decide +kernel)]; exact ⟨rfl, rfl⟩))
    (fun os started H enc _ => lifted os started H enc)

/-- THE STATEMENT -/
theorem proved : Rows.FnExactIsValidInstanceSaid :=
  over
#print axioms proved
end Go.Proofs.YtjfhgcnoielpfaaGreat.fnExactIsValidInstance
