/-
  WHAT IS PROVED: for all arguments, laws.FnExactVisiblePackages returns true and its arguments read behind the call as before. Conditions: none beyond the row's own reading of its arguments.
-/
import Derived.Test.YtnleocfkdidhoaaGreatRows
import Derived.Test.YtnleocfkdidhoaaGreatPartWnE
namespace Go.Proofs.YtnleocfkdidhoaaGreat.fnExactVisiblePackages
open Go.ChangeShapes Go.WideShapes Go.ChangeAt Go.RowKit Go Go.Ab
set_option linter.unusedVariables false
theorem wf64 {x : Int} (h : (Lit.int .i64 x).wf = true) : -9223372036854775808 ≤ x ∧ x ≤ 9223372036854775807 := by
  have h1 : IntKind.i64.min = -9223372036854775808 := by decide
  have h2 : IntKind.i64.max = 9223372036854775807 := by decide
  simp only [Lit.wf, Bool.and_eq_true, decide_eq_true_eq, h1, h2] at h
  exact h
theorem own : ownKnob Tryz.prog.godebug = none := by kernel_rfl
theorem closed : closedB Tryz.prog [24, 3, 22, 56, 9, 50, 51, 52, 53, 54, 196, 200, 205, 209, 4, 194, 198, 27, 202, 203, 207, 31, 297, 300, 25, 303, 306, 309, 28, 29, 173] = true := by kernel_rfl
set_option maxRecDepth 100000 in
theorem lifted (os : Os) (started : os.Started) (H : Type) (enc : TypeId × Value → H) :
    ReturnsInHanded {} Tryz.checked os 7 .any (Rows.fnExactVisiblePackagesSpec.pre6 enc Tryz.prog Tryz.f7 Rows.fnExactVisiblePackagesRow.domain false) (Rows.fnExactVisiblePackagesSpec.post enc Tryz.prog Tryz.f7 false true false false) := by
  refine returnsInHanded_of_change (C := Tryz.checked) own started (by kernel_rfl) Tryz.func7
    (ChangeSpec.witness6 (enc := enc) (C := Tryz.checked) false ⟨#[], #[.agg #[.slice none 0 0], .int .i64 0], []⟩ 8 (by kernel_rfl) (by kernel_rfl) (by kernel_rfl) (by kernel_rfl)) ?_
  intro W base args ds gs before hval0 hW hcnd _
  have hval : ∀ (j : Nat) t v, Tryz.f7.params[j]? = some t → args[j]? = some v → Value.okWide Tryz.prog W .any base t v := hval0
  have hW' := hW
  obtain ⟨p, q, hA0, hV, rfl, hfz, hnd⟩ := hW
  have hA : DataW.TrodAll enc Tryz.prog W 0 (fun _ => true) true Tryz.f7.params.toList args.toList ds p := hA0
  rw [Tryz.params7] at hA hval
  obtain ⟨v0, vs0, d0, ds0, p0, q0, hargs0, rfl, rfl, h0, r0⟩ := trodAll_cons hA
  obtain ⟨v1, vs1, d1, ds1, p1, q1, hargs1, rfl, rfl, h1, r1⟩ := trodAll_cons r0
  obtain ⟨rfl, rfl, rfl⟩ := trodAll_nil r1
  subst hargs1
  obtain rfl : args = #[v0, v1] := by cases args; simp_all
  obtain ⟨rfl, rfl⟩ := trodVars_none hV
  obtain ⟨n0, e0⟩ := h0
  obtain ⟨c0, wt0, hl0⟩ := trod_data closed n0 24 _ _ (by decide) e0
  have f0 := wt_fit _ _ _ wt0
  obtain ⟨x0, rfl⟩ := wt_Program _ _ wt0
  have g0 := arg_struct Tryz.underlying24 (hval 0 24 v0 rfl rfl) hl0
  rw [MProgram.v_eq] at g0
  obtain ⟨n1, e1⟩ := h1
  obtain ⟨c1, wt1, hl1⟩ := trod_data closed n1 3 _ _ (by decide) e1
  have f1 := wt_fit _ _ _ wt1
  obtain ⟨x1, rfl, w1⟩ := wt_int Tryz.underlying3 wt1
  have g1 := arg_int Tryz.underlying3 (hval 1 3 v1 rfl rfl) hl1
  replace w1 := wf64 w1
  exact law_post Fa.laidOut (by kernel_rfl) rfl rfl Tryz.underlying4 rfl rfl rfl hW' (repVs_cons g0 (repVs_cons g1 (repVs_nil))) (law x0 x1 f0 w1)

theorem k0 : (Rows.fnExactVisiblePackagesRow.wf (OpenSpec.ofChange Rows.fnExactVisiblePackagesSpec)) = true := by kernel_rfl
theorem k1 : (laidOutB Tryz.pinned.checked.prog) = true := by kernel_rfl
theorem k2 : (mapsRowed Tryz.pinned.checked.prog) = true := by kernel_rfl
theorem k3 : (Tryz.f7.params.all (Tryz.pinned.checked.prog.readableRec ·)) = true := by kernel_rfl
theorem k4 : (namedTie Tryz.pinned.checked.prog Rows.fnExactVisiblePackagesRow.named Rows.fnExactVisiblePackagesSpec.vars) = true := by kernel_rfl
theorem k5 : ((Rows.fnExactVisiblePackagesRow.stops == [])) = true := by kernel_rfl
theorem k6 : ((Tryz.pinned.checked.prog.stops == [])) = true := by kernel_rfl
theorem k7 : ((Rows.fnExactVisiblePackagesRow.knobs == [])) = true := by kernel_rfl
theorem k8 : ((Tryz.pinned.checked.prog.stopKnobs == [])) = true := by kernel_rfl
theorem k9 : ((Rows.fnExactVisiblePackagesRow.inPlace == Tryz.pinned.checked.prog.inPlace 7)) = true := by kernel_rfl
theorem k10 : ((Rows.fnExactVisiblePackagesRow.unfollowed == Tryz.pinned.checked.prog.unfollowed 7)) = true := by kernel_rfl
theorem k11 : ((Rows.fnExactVisiblePackagesRow.recurses == Tryz.pinned.checked.prog.recurses 7)) = true := by kernel_rfl
theorem k12 : ((Rows.fnExactVisiblePackagesRow.named == Tryz.pinned.checked.prog.varsNamed 7)) = true := by kernel_rfl
theorem k13 : ((Rows.fnExactVisiblePackagesRow.maps == (Tryz.f7.params.toList ++ Rows.fnExactVisiblePackagesSpec.plain.varTypes Tryz.pinned.checked.prog).any (Tryz.pinned.checked.prog.mapsRec ·))) = true := by kernel_rfl
theorem k14 : ((Rows.fnExactVisiblePackagesRow.ifaces == (Tryz.f7.params.toList ++ Rows.fnExactVisiblePackagesSpec.plain.varTypes Tryz.pinned.checked.prog).any (Tryz.pinned.checked.prog.ifacesRec ·))) = true := by kernel_rfl
theorem k15 : ((Rows.fnExactVisiblePackagesRow.mapsOut == Tryz.pinned.checked.prog.mapsAmong Tryz.f7.resultTypes.toList)) = true := by kernel_rfl
theorem k16 : ((Rows.fnExactVisiblePackagesRow.loops == (Tryz.f7.params.toList ++ Rows.fnExactVisiblePackagesSpec.plain.varTypes Tryz.pinned.checked.prog).any (Tryz.pinned.checked.prog.loopsFrom ·))) = true := by kernel_rfl
theorem k17 : ((Rows.fnExactVisiblePackagesRow.wideKeys == (Tryz.f7.params.toList ++ Rows.fnExactVisiblePackagesSpec.plain.varTypes Tryz.pinned.checked.prog ++ Tryz.f7.resultTypes.toList).any (Tryz.pinned.checked.prog.wideKeysFrom ·))) = true := by kernel_rfl
theorem k18 : (Rows.fnExactVisiblePackagesSpec.vars.all (Tryz.pinned.checked.prog.varReadable ·)) = true := by kernel_rfl
theorem k19 : (Tryz.f7.resultTypes.all (fun t => Tryz.pinned.checked.prog.readableRec t && decide (t < Tryz.pinned.checked.prog.types.size))) = true := by kernel_rfl
theorem k20 : ((Rows.fnExactVisiblePackagesRow.ifacesOut == Tryz.f7.resultTypes.toList.any (Tryz.pinned.checked.prog.ifacesRec ·))) = true := by kernel_rfl
theorem k21 : ((Rows.fnExactVisiblePackagesRow.loopsOut == Tryz.f7.resultTypes.toList.any (Tryz.pinned.checked.prog.loopsFrom ·))) = true := by kernel_rfl
theorem k22 : ((Rows.fnExactVisiblePackagesRow.plainKeys == Tryz.pinned.checked.prog.plainKeys)) = true := by kernel_rfl
theorem k23 : (Rows.fnExactVisiblePackagesRow.shortTexts.isNone) = true := by kernel_rfl
theorem k24 : (Tryz.pinned.checked.prog.stopsHeard) = true := by kernel_rfl
theorem k25 : (Tryz.pinned.checked.prog.mayEnter) = true := by kernel_rfl
theorem k26 : ((Rows.fnExactVisiblePackagesRow.lifted == Tryz.pinned.checked.prog.liftsFinal)) = true := by kernel_rfl
theorem k27 : ((Tryz.pinned.checked.prog.make == some Rows.fnExactVisiblePackagesRow.make)) = true := by kernel_rfl
theorem k29 : ((Rows.fnExactVisiblePackagesRow.pinned == Rows.fnExactVisiblePackagesRow.pinnedBy)) = true := by kernel_rfl
theorem k30 : ((Rows.fnExactVisiblePackagesRow.veiled == (Tryz.f7.params.toList ++ Rows.fnExactVisiblePackagesSpec.plain.varTypes Tryz.pinned.checked.prog ++ Tryz.f7.resultTypes.toList).any (Tryz.pinned.checked.prog.veiledRec ·))) = true := by kernel_rfl
theorem k31 : (Rows.fnExactVisiblePackagesRow.veiledFits Tryz.pinned.checked.prog Tryz.f7.params.toList (Tryz.f7.params.toList ++ Rows.fnExactVisiblePackagesSpec.plain.varTypes Tryz.pinned.checked.prog ++ Tryz.f7.resultTypes.toList)) = true := by kernel_rfl
theorem shut : joinedFacts Tryz.pinned.checked.prog 7 Tryz.f7 Rows.fnExactVisiblePackagesSpec Rows.fnExactVisiblePackagesRow = true := by
  unfold joinedFacts
  simp only [Bool.and_eq_true]
  exact ⟨⟨⟨⟨⟨⟨⟨⟨⟨⟨⟨⟨⟨⟨⟨⟨⟨⟨⟨⟨⟨⟨⟨⟨⟨⟨⟨⟨⟨⟨⟨k0, k1⟩, k2⟩, k3⟩, k4⟩, k5⟩, k6⟩, k7⟩, k8⟩, k9⟩, k10⟩, k11⟩, k12⟩, k13⟩, k14⟩, k15⟩, k16⟩, k17⟩, k18⟩, k19⟩, k20⟩, k21⟩, k22⟩, k23⟩, k24⟩, k25⟩, k26⟩, k27⟩, (by kernel_rfl)⟩, k29⟩, k30⟩, k31⟩
theorem named : Tryz.pinned.checked.prog.funcNamed Rows.fnExactVisiblePackagesRow.func = some 7 := by kernel_rfl
theorem inst : Tryz.f7.isInstance Tryz.pinned.checked.prog Rows.fnExactVisiblePackagesRow.origin Rows.fnExactVisiblePackagesRow.targs := of_decide_eq_true (by kernel_rfl)
theorem wrap : Tryz.f7.isWrapper Tryz.pinned.checked.prog Rows.fnExactVisiblePackagesRow.wrapper Rows.fnExactVisiblePackagesRow.mainSum := by
  unfold Func.isWrapper
  first | (rw [if_pos (by decide +kernel)]; kernel_rfl) | (rw [if_neg (by decide +kernel)]; exact ⟨rfl, rfl⟩)
set_option maxRecDepth 100000 in
theorem over : Rows.fnExactVisiblePackagesRow.holds Tryz.pinned (OpenSpec.ofChange Rows.fnExactVisiblePackagesSpec) :=
  OpenClaim.holds_of_wide 7 Tryz.f7 rfl rfl rfl rfl rfl rfl rfl ⟨rfl, rfl, rfl, rfl, rfl⟩ rfl rfl rfl rfl rfl named Tryz.func7 shut inst wrap
    (fun os started H enc _ => lifted os started H enc)

/-- THE STATEMENT -/
theorem proved : Rows.FnExactVisiblePackagesSaid :=
  over
#print axioms proved
end Go.Proofs.YtnleocfkdidhoaaGreat.fnExactVisiblePackages
