/-
  WHAT IS PROVED: for all arguments, laws.FnExactPackageIndex returns true and its arguments read behind the call as before. Conditions: none beyond the row's own reading of its arguments.
-/
import Derived.Test.YtjfhgcnoielpfaaRows
import Derived.Test.YtjfhgcnoielpfaaKb
import Derived.Test.YtjfhgcnoielpfaaTa
namespace Go.Proofs.Ytjfhgcnoielpfaa.fnExactPackageIndex
open Go.ChangeShapes Go.WideShapes Go.ChangeAt Go.RowKit Go Go.Ab
set_option linter.unusedVariables false
theorem own : ownKnob Try.prog.godebug = none := by kernel_rfl
theorem closed : closedB Try.prog [67, 9, 65, 165, 40, 160, 161, 162, 163, 54, 43, 208, 212, 4, 52, 41, 24, 205, 206, 210, 28, 149, 138, 3, 22, 232, 235, 238, 25, 26, 131] = true := by kernel_rfl
set_option maxRecDepth 100000 in
theorem lifted (os : Os) (started : os.Started) (H : Type) (enc : TypeId × Value → H) :
    ReturnsInHanded {} Try.checked os 7 .any (Rows.fnExactPackageIndexSpec.pre6 enc Try.prog Try.f7 Rows.fnExactPackageIndexRow.domain false) (Rows.fnExactPackageIndexSpec.post enc Try.prog Try.f7 false true false false) := by
  refine returnsInHanded_of_change (C := Try.checked) own started (by kernel_rfl) Try.func7
    (ChangeSpec.witness6 (enc := enc) (C := Try.checked) false ⟨#[], #[.agg #[.slice none 0 0], .string ⟨#[]⟩], []⟩ 8 (by kernel_rfl) (by kernel_rfl) (by kernel_rfl) (by kernel_rfl)) ?_
  intro W base args ds gs before hval0 hW hcnd _
  have hval : ∀ (j : Nat) t v, Try.f7.params[j]? = some t → args[j]? = some v → Value.okWide Try.prog W .any base t v := hval0
  have hW' := hW
  obtain ⟨p, q, hA0, hV, rfl, hfz, hnd⟩ := hW
  have hA : DataW.TrodAll enc Try.prog W 0 (fun _ => true) true Try.f7.params.toList args.toList ds p := hA0
  rw [Try.params7] at hA hval
  obtain ⟨v0, vs0, d0, ds0, p0, q0, hargs0, rfl, rfl, h0, r0⟩ := trodAll_cons hA
  obtain ⟨v1, vs1, d1, ds1, p1, q1, hargs1, rfl, rfl, h1, r1⟩ := trodAll_cons r0
  obtain ⟨rfl, rfl, rfl⟩ := trodAll_nil r1
  subst hargs1
  obtain rfl : args = #[v0, v1] := by cases args; simp_all
  obtain ⟨rfl, rfl⟩ := trodVars_none hV
  obtain ⟨n0, e0⟩ := h0
  obtain ⟨c0, wt0, hl0⟩ := trod_data closed n0 67 _ _ (by decide) e0
  have f0 := wt_fit _ _ _ wt0
  obtain ⟨x0, rfl⟩ := wt_Program _ _ wt0
  have g0 := arg_struct Try.underlying67 (hval 0 67 v0 rfl rfl) hl0
  rw [MProgram.v_eq] at g0
  obtain ⟨n1, e1⟩ := h1
  obtain ⟨c1, wt1, hl1⟩ := trod_data closed n1 9 _ _ (by decide) e1
  have f1 := wt_fit _ _ _ wt1
  obtain ⟨x1, rfl⟩ := wt_string Try.underlying9 wt1
  have g1 := arg_string Try.underlying9 (hval 1 9 v1 rfl rfl) hl1
  exact law_post Fa.laidOut (by kernel_rfl) rfl rfl Try.underlying4 rfl rfl rfl hW' (repVs_cons g0 (repVs_cons g1 (repVs_nil))) (law x0 x1 f0 f1)

theorem over : Rows.fnExactPackageIndexRow.holds Try.pinned (OpenSpec.ofChange Rows.fnExactPackageIndexSpec) :=
  OpenClaim.holds_of_wide 7 Try.f7 rfl rfl rfl rfl rfl rfl rfl ⟨rfl, rfl, rfl, rfl, rfl⟩ rfl rfl rfl rfl rfl (by kernel_rfl) Try.func7 (by kernel_rfl)
    (of_decide_eq_true (by kernel_rfl)) (by unfold Func.isWrapper; first | (rw [if_pos (by decide +kernel)]; kernel_rfl) | (rw [if_neg (by decide +kernel)]; exact ⟨rfl, rfl⟩))
    (fun os started H enc _ => lifted os started H enc)

/-- THE STATEMENT -/
theorem proved : Rows.FnExactPackageIndexSaid :=
  over
#print axioms proved
end Go.Proofs.Ytjfhgcnoielpfaa.fnExactPackageIndex
