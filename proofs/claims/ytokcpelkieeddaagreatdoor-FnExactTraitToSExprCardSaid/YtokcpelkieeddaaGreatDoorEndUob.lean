/-
  WHAT IS PROVED: for all arguments, laws.FnExactTraitToSExpr returns true and its arguments read behind the call as before. Conditions: none beyond the row's own reading of its arguments.
-/
import Derived.Test.YtokcpelkieeddaaGreatDoorRows
import Derived.Test.YtokcpelkieeddaaGreatDoorPartUobF
import Derived.Test.YtokcpelkieeddaaGreatDoorTie
import Derived.Test.YtokcpelkieeddaaGreatDoorCards
namespace Go.Proofs.YtokcpelkieeddaaGreatDoor.fnExactTraitToSExpr
open Go.ChangeShapes Go.WideShapes Go.ChangeAt Go.RowKit Go Go.Ab
set_option linter.unusedVariables false
theorem wf64 {x : Int} (h : (Lit.int .i64 x).wf = true) : -9223372036854775808 ≤ x ∧ x ≤ 9223372036854775807 := by
  have h1 : IntKind.i64.min = -9223372036854775808 := by decide
  have h2 : IntKind.i64.max = 9223372036854775807 := by decide
  simp only [Lit.wf, Bool.and_eq_true, decide_eq_true_eq, h1, h2] at h
  exact h
theorem own : ownKnob Tryz.prog.godebug = none := by kernel_rfl
theorem closed : closedB Tryz.prog [64, 9, 47, 4, 62, 232, 22, 24, 28, 3, 25, 26, 194] = true := by kernel_rfl
set_option maxRecDepth 100000 in
theorem door_met (os : Os) (args : Array Value) : laidMetH Tryz.prog Rows.fnExactTraitToSExprRow.laid ((World.doorLaid Tryz.prog 62 os).forCall (fun _ _ => 0) ⟨#[], args, []⟩).memory :=
  laidMetH_of_parts3 (fuel := 8) (laidMet_of_run' 8 (by kernel_rfl) (by kernel_rfl)) (by kernel_rfl) (by kernel_rfl)
set_option maxRecDepth 100000 in
theorem lifted (os : Os) (started : os.Started) (H : Type) (enc : TypeId × Value → H) :
    ReturnsInHanded {} Tryz.checked os 5 .any (fun w args => (Rows.fnExactTraitToSExprSpec.pre enc Tryz.prog Tryz.f5 Rows.fnExactTraitToSExprRow.domain false w args ∧ laidMetH Tryz.prog Rows.fnExactTraitToSExprRow.laid w) ∧ sizedMet enc Tryz.prog Tryz.f5 (OpenSpec.ofChange Rows.fnExactTraitToSExprSpec) false w args) (Rows.fnExactTraitToSExprSpec.post enc Tryz.prog Tryz.f5 false true false false) := by
  refine returnsInHanded_of_change_and (C := Tryz.checked) (X := fun w _ => laidMetH Tryz.prog Rows.fnExactTraitToSExprRow.laid w) (fun _ _ _ hh h => h.of_heap hh) own started (by kernel_rfl) Tryz.func5
    (ChangeSpec.witness_shaped (enc := enc) (C := Tryz.checked) (os := os) (X := fun w _ => laidMetH Tryz.prog Rows.fnExactTraitToSExprRow.laid w) false (World.doorLaid Tryz.prog 62 os) #[.agg #[.string ⟨#[]⟩, .slice none 0 0, .bool false, .bool false, .slice none 0 0]] 8 rfl (World.shaped_of_RefB (by kernel_rfl) (by kernel_rfl)) (by kernel_rfl) (by kernel_rfl) (by kernel_rfl) (door_met os _)) ?_
  intro W base args ds gs before hval0 hW hcnd _ hL _
  have hval : ∀ (j : Nat) t v, Tryz.f5.params[j]? = some t → args[j]? = some v → Value.okWide Tryz.prog W .any base t v := hval0
  have hW' := hW
  obtain ⟨p, q, hA0, hV, rfl, hfz, hnd⟩ := hW
  have hA : DataW.TrodAll enc Tryz.prog W 0 (fun _ => true) true Tryz.f5.params.toList args.toList ds p := hA0
  rw [Tryz.params5] at hA hval
  obtain ⟨v0, vs0, d0, ds0, p0, q0, hargs0, rfl, rfl, h0, r0⟩ := trodAll_cons hA
  obtain ⟨rfl, rfl, rfl⟩ := trodAll_nil r0
  obtain rfl : args = #[v0] := by cases args; simp_all
  obtain ⟨rfl, rfl⟩ := trodVars_none hV
  obtain ⟨n0, e0⟩ := h0
  obtain ⟨c0, wt0, hl0⟩ := trod_data closed n0 64 _ _ (by decide) e0
  have f0 := wt_fit _ _ _ wt0
  obtain ⟨x0, rfl⟩ := wt_Trait _ _ wt0
  have g0 := arg_struct Tryz.underlying64 (hval 0 64 v0 rfl rfl) hl0
  rw [MTrait.v_eq] at g0
  exact law_post Fa.laidOut (by kernel_rfl) rfl rfl Tryz.underlying4 rfl rfl rfl hW' (repVs_cons g0 (repVs_nil)) (law x0 f0) (glob_of_laid (by kernel_rfl) hL)

theorem k0 : (Rows.fnExactTraitToSExprRow.wf (OpenSpec.ofChange Rows.fnExactTraitToSExprSpec)) = true := by kernel_rfl
theorem k1 : (laidOutB Tryz.pinned.checked.prog) = true := by kernel_rfl
theorem k2 : (mapsRowed Tryz.pinned.checked.prog) = true := by kernel_rfl
theorem k3 : (Tryz.f5.params.all (Tryz.pinned.checked.prog.readableRec ·)) = true := by kernel_rfl
theorem k4 : (namedTie Tryz.pinned.checked.prog Rows.fnExactTraitToSExprRow.named Rows.fnExactTraitToSExprSpec.vars) = true := by kernel_rfl
theorem k5 : ((Rows.fnExactTraitToSExprRow.stops == [])) = true := by kernel_rfl
theorem k6 : ((Tryz.pinned.checked.prog.stops == [])) = true := by kernel_rfl
theorem k7 : ((Rows.fnExactTraitToSExprRow.knobs == [])) = true := by kernel_rfl
theorem k8 : ((Tryz.pinned.checked.prog.stopKnobs == [])) = true := by kernel_rfl
theorem k9 : ((Rows.fnExactTraitToSExprRow.inPlace == Tryz.pinned.checked.prog.inPlace 5)) = true := by kernel_rfl
theorem k10 : ((Rows.fnExactTraitToSExprRow.unfollowed == Tryz.pinned.checked.prog.unfollowed 5)) = true := by kernel_rfl
theorem k11 : ((Rows.fnExactTraitToSExprRow.recurses == Tryz.pinned.checked.prog.recurses 5)) = true := by kernel_rfl
theorem k12 : ((Rows.fnExactTraitToSExprRow.named == Tryz.pinned.checked.prog.varsNamed 5)) = true := by kernel_rfl
theorem k13 : ((Rows.fnExactTraitToSExprRow.maps == (Tryz.f5.params.toList ++ Rows.fnExactTraitToSExprSpec.plain.varTypes Tryz.pinned.checked.prog).any (Tryz.pinned.checked.prog.mapsRec ·))) = true := by kernel_rfl
theorem k14 : ((Rows.fnExactTraitToSExprRow.ifaces == (Tryz.f5.params.toList ++ Rows.fnExactTraitToSExprSpec.plain.varTypes Tryz.pinned.checked.prog).any (Tryz.pinned.checked.prog.ifacesRec ·))) = true := by kernel_rfl
theorem k15 : ((Rows.fnExactTraitToSExprRow.mapsOut == Tryz.pinned.checked.prog.mapsAmong Tryz.f5.resultTypes.toList)) = true := by kernel_rfl
theorem k16 : ((Rows.fnExactTraitToSExprRow.loops == (Tryz.f5.params.toList ++ Rows.fnExactTraitToSExprSpec.plain.varTypes Tryz.pinned.checked.prog).any (Tryz.pinned.checked.prog.loopsFrom ·))) = true := by kernel_rfl
theorem k17 : ((Rows.fnExactTraitToSExprRow.wideKeys == (Tryz.f5.params.toList ++ Rows.fnExactTraitToSExprSpec.plain.varTypes Tryz.pinned.checked.prog ++ Tryz.f5.resultTypes.toList).any (Tryz.pinned.checked.prog.wideKeysFrom ·))) = true := by kernel_rfl
theorem k18 : (Rows.fnExactTraitToSExprSpec.vars.all (Tryz.pinned.checked.prog.varReadable ·)) = true := by kernel_rfl
theorem k19 : (Tryz.f5.resultTypes.all (fun t => Tryz.pinned.checked.prog.readableRec t && decide (t < Tryz.pinned.checked.prog.types.size))) = true := by kernel_rfl
theorem k20 : ((Rows.fnExactTraitToSExprRow.ifacesOut == Tryz.f5.resultTypes.toList.any (Tryz.pinned.checked.prog.ifacesRec ·))) = true := by kernel_rfl
theorem k21 : ((Rows.fnExactTraitToSExprRow.loopsOut == Tryz.f5.resultTypes.toList.any (Tryz.pinned.checked.prog.loopsFrom ·))) = true := by kernel_rfl
theorem k22 : ((Rows.fnExactTraitToSExprRow.plainKeys == Tryz.pinned.checked.prog.plainKeys)) = true := by kernel_rfl
theorem k23 : (Rows.fnExactTraitToSExprRow.shortTexts.isNone) = true := by kernel_rfl
theorem k24 : (Tryz.pinned.checked.prog.stopsHeard) = true := by kernel_rfl
theorem k25 : (Tryz.pinned.checked.prog.mayEnter) = true := by kernel_rfl
theorem k26 : ((Rows.fnExactTraitToSExprRow.lifted == Tryz.pinned.checked.prog.liftsFinal)) = true := by kernel_rfl
theorem k27 : ((Tryz.pinned.checked.prog.make == some Rows.fnExactTraitToSExprRow.make)) = true := by kernel_rfl
theorem k29 : ((Rows.fnExactTraitToSExprRow.pinned == Rows.fnExactTraitToSExprRow.pinnedBy)) = true := by kernel_rfl
theorem k30 : ((Rows.fnExactTraitToSExprRow.veiled == (Tryz.f5.params.toList ++ Rows.fnExactTraitToSExprSpec.plain.varTypes Tryz.pinned.checked.prog ++ Tryz.f5.resultTypes.toList).any (Tryz.pinned.checked.prog.veiledRec ·))) = true := by kernel_rfl
theorem k31 : (Rows.fnExactTraitToSExprRow.veiledFits Tryz.pinned.checked.prog Tryz.f5.params.toList (Tryz.f5.params.toList ++ Rows.fnExactTraitToSExprSpec.plain.varTypes Tryz.pinned.checked.prog ++ Tryz.f5.resultTypes.toList)) = true := by kernel_rfl
theorem shut : joinedFacts Tryz.pinned.checked.prog 5 Tryz.f5 Rows.fnExactTraitToSExprSpec Rows.fnExactTraitToSExprRow = true := by
  unfold joinedFacts
  simp only [Bool.and_eq_true]
  exact ⟨⟨⟨⟨⟨⟨⟨⟨⟨⟨⟨⟨⟨⟨⟨⟨⟨⟨⟨⟨⟨⟨⟨⟨⟨⟨⟨⟨⟨⟨⟨k0, k1⟩, k2⟩, k3⟩, k4⟩, k5⟩, k6⟩, k7⟩, k8⟩, k9⟩, k10⟩, k11⟩, k12⟩, k13⟩, k14⟩, k15⟩, k16⟩, k17⟩, k18⟩, k19⟩, k20⟩, k21⟩, k22⟩, k23⟩, k24⟩, k25⟩, k26⟩, k27⟩, (by kernel_rfl)⟩, k29⟩, k30⟩, k31⟩
theorem named : Tryz.pinned.checked.prog.funcNamed Rows.fnExactTraitToSExprRow.func = some 5 := by kernel_rfl
theorem inst : Tryz.f5.isInstance Tryz.pinned.checked.prog Rows.fnExactTraitToSExprRow.origin Rows.fnExactTraitToSExprRow.targs := of_decide_eq_true (by kernel_rfl)
theorem wrap : Tryz.f5.isWrapper Tryz.pinned.checked.prog Rows.fnExactTraitToSExprRow.wrapper Rows.fnExactTraitToSExprRow.mainSum := by
  unfold Func.isWrapper
  first | (rw [if_pos (by decide +kernel)]; kernel_rfl) | (rw [if_neg (by decide +kernel)]; exact ⟨rfl, rfl⟩)
set_option maxRecDepth 100000 in
theorem over : Rows.fnExactTraitToSExprRow.holds Tryz.pinned (OpenSpec.ofChange Rows.fnExactTraitToSExprSpec) :=
  OpenClaim.holds_of_wide 5 Tryz.f5 rfl rfl rfl rfl rfl rfl rfl ⟨rfl, rfl, rfl, rfl, rfl⟩ rfl rfl rfl rfl rfl named Tryz.func5 shut inst wrap
    (fun os started H enc _ => lifted os started H enc)

set_option maxRecDepth 100000 in
theorem cWf : (Rows.fnExactTraitToSExprRow.wfByText (OpenSpec.ofChange Rows.fnExactTraitToSExprSpec)) = true := by kernel_rfl
set_option maxRecDepth 100000 in
theorem cMain : Tryz.pinned.checked.prog.mainIs = some (true, ("ed23fbeb3f21fb8e8d33af637db3b674a20a12ab224f5f1f39654ea2ec8f7ae5" : String).toList) := by kernel_rfl
set_option maxRecDepth 100000 in
theorem cLooks : true = Tryz.pinned.checked.prog.looks [] := by kernel_rfl
set_option maxRecDepth 100000 in
theorem cFn : Tryz.pinned.checked.prog.funcNamed "loop.example/g00508/laws.FnExactTraitToSExpr" = some 5 := by kernel_rfl
set_option maxRecDepth 100000 in
theorem cStand : ([64].all fun u => !Tryz.prog.wantsStandIn u) = true := by kernel_rfl
set_option maxRecDepth 100000 in
theorem cGoes : false = Rows.fnExactTraitToSExprRow.goesBy Tryz.pinned.checked.prog := by kernel_rfl
set_option maxRecDepth 100000 in
theorem cAt (f : FuncId) (fn : Func) (hf : Tryz.pinned.checked.prog.funcNamed Rows.fnExactTraitToSExprRow.func = some f) (hfn : Tryz.pinned.checked.prog.funcs[f]? = some fn) : true = Tryz.pinned.checked.prog.looks [] ∧ ∀ (j : Nat) t, fn.params[j]? = some t → Tryz.pinned.checked.prog.wantsStandIn t = false := by
  obtain rfl : f = 5 := Option.some.inj (cFn.symm.trans hf) |>.symm
  obtain rfl : fn = Tryz.f5 := (Option.some.inj (Tryz.func5.symm.trans hfn)).symm
  exact ⟨cLooks, fun j t ht => by
    rw [Tryz.params5] at ht
    have hm : t ∈ [64] := by simpa using Array.mem_of_getElem? ht
    exact (show Tryz.prog.wantsStandIn t = false by simpa using List.all_eq_true.1 cStand t hm)⟩
/-- THE STATEMENT -/
theorem proved : Rows.FnExactTraitToSExprCardSaid :=
  Claim7.holds_tied_plain_at .later [] [.data, .data, .data] true (true, "ed23fbeb3f21fb8e8d33af637db3b674a20a12ab224f5f1f39654ea2ec8f7ae5") true
    over (fun _ h => by cases h) cWf (fun _ h => by cases h) fnExactTraitToSExpr_row_tie rfl ⟨rfl, rfl⟩ cMain rfl cAt cGoes
#print axioms proved
end Go.Proofs.YtokcpelkieeddaaGreatDoor.fnExactTraitToSExpr
