/-
  WHAT IS PROVED: for all arguments, laws.FnExpr returns true and its arguments read behind the call as before. Conditions: none beyond the row's own reading of its arguments.
-/
import Derived.Test.YtceaigchkgifgaaRows
import Derived.Test.YtceaigchkgifgaaPartQpE
namespace Go.Proofs.Ytceaigchkgifgaa.fnExpr
open Go.ChangeShapes Go.WideShapes Go.ChangeAt Go.RowKit Go Go.Ab
set_option linter.unusedVariables false
theorem wf64 {x : Int} (h : (Lit.int .i64 x).wf = true) : -9223372036854775808 ≤ x ∧ x ≤ 9223372036854775807 := by
  have h1 : IntKind.i64.min = -9223372036854775808 := by decide
  have h2 : IntKind.i64.max = 9223372036854775807 := by decide
  simp only [Lit.wf, Bool.and_eq_true, decide_eq_true_eq, h1, h2] at h
  exact h
theorem own : ownKnob Try.prog.godebug = none := by kernel_rfl
theorem closed : closedB Try.prog [22, 5] = true := by kernel_rfl
set_option maxRecDepth 100000 in
theorem lifted (os : Os) (started : os.Started) (H : Type) (enc : TypeId × Value → H) :
    ReturnsInHanded {} Try.checked os 5 .any (Rows.fnExprSpec.pre6 enc Try.prog Try.f5 Rows.fnExprRow.domain false) (Rows.fnExprSpec.post enc Try.prog Try.f5 false true false false) := by
  refine returnsInHanded_of_change (C := Try.checked) own started (by kernel_rfl) Try.func5
    (ChangeSpec.witness6 (enc := enc) (C := Try.checked) false ⟨#[], #[.slice none 0 0], []⟩ 8 (by kernel_rfl) (by kernel_rfl) (by kernel_rfl) (by kernel_rfl)) ?_
  intro W base args ds gs before hval0 hW hcnd _
  have hval : ∀ (j : Nat) t v, Try.f5.params[j]? = some t → args[j]? = some v → Value.okWide Try.prog W .any base t v := hval0
  have hW' := hW
  obtain ⟨p, q, hA0, hV, rfl, hfz, hnd⟩ := hW
  have hA : DataW.TrodAll enc Try.prog W 0 (fun _ => true) true Try.f5.params.toList args.toList ds p := hA0
  rw [Try.params5] at hA hval
  obtain ⟨v0, vs0, d0, ds0, p0, q0, hargs0, rfl, rfl, h0, r0⟩ := trodAll_cons hA
  obtain ⟨rfl, rfl, rfl⟩ := trodAll_nil r0
  obtain rfl : args = #[v0] := by cases args; simp_all
  obtain ⟨rfl, rfl⟩ := trodVars_none hV
  obtain ⟨n0, e0⟩ := h0
  obtain ⟨c0, wt0, hl0⟩ := trod_data closed n0 22 _ _ (by decide) e0
  have f0 := wt_fit _ _ _ wt0
  obtain ⟨es0, m0, _, rfl, hes0⟩ := wt_slice Try.underlying22 wt0
  obtain ⟨x0, rfl, b0⟩ := list_bytes fun y hy => wt_int Try.underlying5 (hes0 y hy)
  have g0 := arg_slice Try.underlying22 (hval 0 22 v0 rfl rfl) hl0
  exact law_post Fa.laidOut (by kernel_rfl) rfl rfl Try.underlying4 rfl rfl rfl hW' (repVs_cons g0 (repVs_nil)) (law x0 b0)

theorem k0 : (Rows.fnExprRow.wf (OpenSpec.ofChange Rows.fnExprSpec)) = true := by kernel_rfl
theorem k1 : (laidOutB Try.pinned.checked.prog) = true := by kernel_rfl
theorem k2 : (mapsRowed Try.pinned.checked.prog) = true := by kernel_rfl
theorem k3 : (Try.f5.params.all (Try.pinned.checked.prog.readableRec ·)) = true := by kernel_rfl
theorem k4 : (namedTie Try.pinned.checked.prog Rows.fnExprRow.named Rows.fnExprSpec.vars) = true := by kernel_rfl
theorem k5 : ((Rows.fnExprRow.stops == [])) = true := by kernel_rfl
theorem k6 : ((Try.pinned.checked.prog.stops == [])) = true := by kernel_rfl
theorem k7 : ((Rows.fnExprRow.knobs == [])) = true := by kernel_rfl
theorem k8 : ((Try.pinned.checked.prog.stopKnobs == [])) = true := by kernel_rfl
theorem k9 : ((Rows.fnExprRow.inPlace == Try.pinned.checked.prog.inPlace 5)) = true := by kernel_rfl
theorem k10 : ((Rows.fnExprRow.unfollowed == Try.pinned.checked.prog.unfollowed 5)) = true := by kernel_rfl
theorem k11 : ((Rows.fnExprRow.recurses == Try.pinned.checked.prog.recurses 5)) = true := by kernel_rfl
theorem k12 : ((Rows.fnExprRow.named == Try.pinned.checked.prog.varsNamed 5)) = true := by kernel_rfl
theorem k13 : ((Rows.fnExprRow.maps == (Try.f5.params.toList ++ Rows.fnExprSpec.plain.varTypes Try.pinned.checked.prog).any (Try.pinned.checked.prog.mapsRec ·))) = true := by kernel_rfl
theorem k14 : ((Rows.fnExprRow.ifaces == (Try.f5.params.toList ++ Rows.fnExprSpec.plain.varTypes Try.pinned.checked.prog).any (Try.pinned.checked.prog.ifacesRec ·))) = true := by kernel_rfl
theorem k15 : ((Rows.fnExprRow.mapsOut == Try.pinned.checked.prog.mapsAmong Try.f5.resultTypes.toList)) = true := by kernel_rfl
theorem k16 : ((Rows.fnExprRow.loops == (Try.f5.params.toList ++ Rows.fnExprSpec.plain.varTypes Try.pinned.checked.prog).any (Try.pinned.checked.prog.loopsFrom ·))) = true := by kernel_rfl
theorem k17 : ((Rows.fnExprRow.wideKeys == (Try.f5.params.toList ++ Rows.fnExprSpec.plain.varTypes Try.pinned.checked.prog ++ Try.f5.resultTypes.toList).any (Try.pinned.checked.prog.wideKeysFrom ·))) = true := by kernel_rfl
theorem k18 : (Rows.fnExprSpec.vars.all (Try.pinned.checked.prog.varReadable ·)) = true := by kernel_rfl
theorem k19 : (Try.f5.resultTypes.all (fun t => Try.pinned.checked.prog.readableRec t && decide (t < Try.pinned.checked.prog.types.size))) = true := by kernel_rfl
theorem k20 : ((Rows.fnExprRow.ifacesOut == Try.f5.resultTypes.toList.any (Try.pinned.checked.prog.ifacesRec ·))) = true := by kernel_rfl
theorem k21 : ((Rows.fnExprRow.loopsOut == Try.f5.resultTypes.toList.any (Try.pinned.checked.prog.loopsFrom ·))) = true := by kernel_rfl
theorem k22 : ((Rows.fnExprRow.plainKeys == Try.pinned.checked.prog.plainKeys)) = true := by kernel_rfl
theorem k23 : (Rows.fnExprRow.shortTexts.isNone) = true := by kernel_rfl
theorem k24 : (Try.pinned.checked.prog.stopsHeard) = true := by kernel_rfl
theorem k25 : (Try.pinned.checked.prog.mayEnter) = true := by kernel_rfl
theorem k26 : ((Rows.fnExprRow.lifted == Try.pinned.checked.prog.liftsFinal)) = true := by kernel_rfl
theorem k27 : ((Try.pinned.checked.prog.make == some Rows.fnExprRow.make)) = true := by kernel_rfl
theorem k29 : ((Rows.fnExprRow.pinned == Rows.fnExprRow.pinnedBy)) = true := by kernel_rfl
theorem k30 : ((Rows.fnExprRow.veiled == (Try.f5.params.toList ++ Rows.fnExprSpec.plain.varTypes Try.pinned.checked.prog ++ Try.f5.resultTypes.toList).any (Try.pinned.checked.prog.veiledRec ·))) = true := by kernel_rfl
theorem k31 : (Rows.fnExprRow.veiledFits Try.pinned.checked.prog Try.f5.params.toList (Try.f5.params.toList ++ Rows.fnExprSpec.plain.varTypes Try.pinned.checked.prog ++ Try.f5.resultTypes.toList)) = true := by kernel_rfl
theorem shut : joinedFacts Try.pinned.checked.prog 5 Try.f5 Rows.fnExprSpec Rows.fnExprRow = true := by
  unfold joinedFacts
  simp only [Bool.and_eq_true]
  exact ⟨⟨⟨⟨⟨⟨⟨⟨⟨⟨⟨⟨⟨⟨⟨⟨⟨⟨⟨⟨⟨⟨⟨⟨⟨⟨⟨⟨⟨⟨⟨k0, k1⟩, k2⟩, k3⟩, k4⟩, k5⟩, k6⟩, k7⟩, k8⟩, k9⟩, k10⟩, k11⟩, k12⟩, k13⟩, k14⟩, k15⟩, k16⟩, k17⟩, k18⟩, k19⟩, k20⟩, k21⟩, k22⟩, k23⟩, k24⟩, k25⟩, k26⟩, k27⟩, (by kernel_rfl)⟩, k29⟩, k30⟩, k31⟩
theorem named : Try.pinned.checked.prog.funcNamed Rows.fnExprRow.func = some 5 := by kernel_rfl
theorem inst : Try.f5.isInstance Try.pinned.checked.prog Rows.fnExprRow.origin Rows.fnExprRow.targs := of_decide_eq_true (by kernel_rfl)
theorem wrap : Try.f5.isWrapper Try.pinned.checked.prog Rows.fnExprRow.wrapper Rows.fnExprRow.mainSum := by
  unfold Func.isWrapper
  first | (rw [if_pos (by decide +kernel)]; kernel_rfl) | (rw [if_neg (by decide +kernel)]; exact ⟨rfl, rfl⟩)
set_option maxRecDepth 100000 in
theorem over : Rows.fnExprRow.holds Try.pinned (OpenSpec.ofChange Rows.fnExprSpec) :=
  OpenClaim.holds_of_wide 5 Try.f5 rfl rfl rfl rfl rfl rfl rfl ⟨rfl, rfl, rfl, rfl, rfl⟩ rfl rfl rfl rfl rfl named Try.func5 shut inst wrap
    (fun os started H enc _ => lifted os started H enc)

/-- THE STATEMENT -/
theorem proved : Rows.FnExprSaid :=
  over
#print axioms proved
end Go.Proofs.Ytceaigchkgifgaa.fnExpr
