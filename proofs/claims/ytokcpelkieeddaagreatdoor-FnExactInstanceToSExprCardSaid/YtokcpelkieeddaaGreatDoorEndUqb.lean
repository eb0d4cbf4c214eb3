/-
  WHAT IS PROVED: for all arguments, laws.FnExactInstanceToSExpr returns true and its arguments read behind the call as before. Conditions: none beyond the row's own reading of its arguments.
-/
import Derived.Test.YtokcpelkieeddaaGreatDoorRows
import Derived.Test.YtokcpelkieeddaaGreatDoorPartUqbF
import Derived.Test.YtokcpelkieeddaaGreatDoorTie
import Derived.Test.YtokcpelkieeddaaGreatDoorCards
namespace Go.Proofs.YtokcpelkieeddaaGreatDoor.fnExactInstanceToSExpr
open Go.ChangeShapes Go.WideShapes Go.ChangeAt Go.RowKit Go Go.Ab
set_option linter.unusedVariables false
theorem wf64 {x : Int} (h : (Lit.int .i64 x).wf = true) : -9223372036854775808 ≤ x ∧ x ≤ 9223372036854775807 := by
  have h1 : IntKind.i64.min = -9223372036854775808 := by decide
  have h2 : IntKind.i64.max = 9223372036854775807 := by decide
  simp only [Lit.wf, Bool.and_eq_true, decide_eq_true_eq, h1, h2] at h
  exact h
theorem own : ownKnob Tryz.prog.godebug = none := by kernel_rfl
theorem closed : closedB Tryz.prog [76, 9, 47, 24, 48, 4, 74, 3, 22, 210, 238, 28, 25, 26, 194] = true := by kernel_rfl
set_option maxRecDepth 100000 in
theorem door_met (os : Os) (args : Array Value) : laidMetH Tryz.prog Rows.fnExactInstanceToSExprRow.laid ((World.doorLaid Tryz.prog 62 os).forCall (fun _ _ => 0) ⟨#[], args, []⟩).memory :=
  laidMetH_of_parts3 (fuel := 8) (laidMet_of_run' 8 (by kernel_rfl) (by kernel_rfl)) (by kernel_rfl) (by kernel_rfl)
set_option maxRecDepth 100000 in
theorem lifted (os : Os) (started : os.Started) (H : Type) (enc : TypeId × Value → H) :
    ReturnsInHanded {} Tryz.checked os 6 .any (fun w args => (Rows.fnExactInstanceToSExprSpec.pre enc Tryz.prog Tryz.f6 Rows.fnExactInstanceToSExprRow.domain false w args ∧ laidMetH Tryz.prog Rows.fnExactInstanceToSExprRow.laid w) ∧ sizedMet enc Tryz.prog Tryz.f6 (OpenSpec.ofChange Rows.fnExactInstanceToSExprSpec) false w args) (Rows.fnExactInstanceToSExprSpec.post enc Tryz.prog Tryz.f6 false true false false) := by
  refine returnsInHanded_of_change_and (C := Tryz.checked) (X := fun w _ => laidMetH Tryz.prog Rows.fnExactInstanceToSExprRow.laid w) (fun _ _ _ hh h => h.of_heap hh) own started (by kernel_rfl) Tryz.func6
    (ChangeSpec.witness_shaped (enc := enc) (C := Tryz.checked) (os := os) (X := fun w _ => laidMetH Tryz.prog Rows.fnExactInstanceToSExprRow.laid w) false (World.doorLaid Tryz.prog 62 os) #[.agg #[.string ⟨#[]⟩, .slice none 0 0, .int .i64 0, .string ⟨#[]⟩, .slice none 0 0, .slice none 0 0, .bool false, .bool false, .int .i64 0, .string ⟨#[]⟩, .slice none 0 0, .slice none 0 0]] 8 rfl (World.shaped_of_RefB (by kernel_rfl) (by kernel_rfl)) (by kernel_rfl) (by kernel_rfl) (by kernel_rfl) (door_met os _)) ?_
  intro W base args ds gs before hval0 hW hcnd _ hL _
  have hval : ∀ (j : Nat) t v, Tryz.f6.params[j]? = some t → args[j]? = some v → Value.okWide Tryz.prog W .any base t v := hval0
  have hW' := hW
  obtain ⟨p, q, hA0, hV, rfl, hfz, hnd⟩ := hW
  have hA : DataW.TrodAll enc Tryz.prog W 0 (fun _ => true) true Tryz.f6.params.toList args.toList ds p := hA0
  rw [Tryz.params6] at hA hval
  obtain ⟨v0, vs0, d0, ds0, p0, q0, hargs0, rfl, rfl, h0, r0⟩ := trodAll_cons hA
  obtain ⟨rfl, rfl, rfl⟩ := trodAll_nil r0
  obtain rfl : args = #[v0] := by cases args; simp_all
  obtain ⟨rfl, rfl⟩ := trodVars_none hV
  obtain ⟨n0, e0⟩ := h0
  obtain ⟨c0, wt0, hl0⟩ := trod_data closed n0 76 _ _ (by decide) e0
  have f0 := wt_fit _ _ _ wt0
  obtain ⟨x0, rfl⟩ := wt_Instance _ _ wt0
  have g0 := arg_struct Tryz.underlying76 (hval 0 76 v0 rfl rfl) hl0
  rw [MInstance.v_eq] at g0
  exact law_post Fa.laidOut (by kernel_rfl) rfl rfl Tryz.underlying4 rfl rfl rfl hW' (repVs_cons g0 (repVs_nil)) (law x0 f0) (glob_of_laid (by kernel_rfl) hL)

theorem k0 : (Rows.fnExactInstanceToSExprRow.wf (OpenSpec.ofChange Rows.fnExactInstanceToSExprSpec)) = true := by kernel_rfl
theorem k1 : (laidOutB Tryz.pinned.checked.prog) = true := by kernel_rfl
theorem k2 : (mapsRowed Tryz.pinned.checked.prog) = true := by kernel_rfl
theorem k3 : (Tryz.f6.params.all (Tryz.pinned.checked.prog.readableRec ·)) = true := by kernel_rfl
theorem k4 : (namedTie Tryz.pinned.checked.prog Rows.fnExactInstanceToSExprRow.named Rows.fnExactInstanceToSExprSpec.vars) = true := by kernel_rfl
theorem k5 : ((Rows.fnExactInstanceToSExprRow.stops == [])) = true := by kernel_rfl
theorem k6 : ((Tryz.pinned.checked.prog.stops == [])) = true := by kernel_rfl
theorem k7 : ((Rows.fnExactInstanceToSExprRow.knobs == [])) = true := by kernel_rfl
theorem k8 : ((Tryz.pinned.checked.prog.stopKnobs == [])) = true := by kernel_rfl
theorem k9 : ((Rows.fnExactInstanceToSExprRow.inPlace == Tryz.pinned.checked.prog.inPlace 6)) = true := by kernel_rfl
theorem k10 : ((Rows.fnExactInstanceToSExprRow.unfollowed == Tryz.pinned.checked.prog.unfollowed 6)) = true := by kernel_rfl
theorem k11 : ((Rows.fnExactInstanceToSExprRow.recurses == Tryz.pinned.checked.prog.recurses 6)) = true := by kernel_rfl
theorem k12 : ((Rows.fnExactInstanceToSExprRow.named == Tryz.pinned.checked.prog.varsNamed 6)) = true := by kernel_rfl
theorem k13 : ((Rows.fnExactInstanceToSExprRow.maps == (Tryz.f6.params.toList ++ Rows.fnExactInstanceToSExprSpec.plain.varTypes Tryz.pinned.checked.prog).any (Tryz.pinned.checked.prog.mapsRec ·))) = true := by kernel_rfl
theorem k14 : ((Rows.fnExactInstanceToSExprRow.ifaces == (Tryz.f6.params.toList ++ Rows.fnExactInstanceToSExprSpec.plain.varTypes Tryz.pinned.checked.prog).any (Tryz.pinned.checked.prog.ifacesRec ·))) = true := by kernel_rfl
theorem k15 : ((Rows.fnExactInstanceToSExprRow.mapsOut == Tryz.pinned.checked.prog.mapsAmong Tryz.f6.resultTypes.toList)) = true := by kernel_rfl
theorem k16 : ((Rows.fnExactInstanceToSExprRow.loops == (Tryz.f6.params.toList ++ Rows.fnExactInstanceToSExprSpec.plain.varTypes Tryz.pinned.checked.prog).any (Tryz.pinned.checked.prog.loopsFrom ·))) = true := by kernel_rfl
theorem k17 : ((Rows.fnExactInstanceToSExprRow.wideKeys == (Tryz.f6.params.toList ++ Rows.fnExactInstanceToSExprSpec.plain.varTypes Tryz.pinned.checked.prog ++ Tryz.f6.resultTypes.toList).any (Tryz.pinned.checked.prog.wideKeysFrom ·))) = true := by kernel_rfl
theorem k18 : (Rows.fnExactInstanceToSExprSpec.vars.all (Tryz.pinned.checked.prog.varReadable ·)) = true := by kernel_rfl
theorem k19 : (Tryz.f6.resultTypes.all (fun t => Tryz.pinned.checked.prog.readableRec t && decide (t < Tryz.pinned.checked.prog.types.size))) = true := by kernel_rfl
theorem k20 : ((Rows.fnExactInstanceToSExprRow.ifacesOut == Tryz.f6.resultTypes.toList.any (Tryz.pinned.checked.prog.ifacesRec ·))) = true := by kernel_rfl
theorem k21 : ((Rows.fnExactInstanceToSExprRow.loopsOut == Tryz.f6.resultTypes.toList.any (Tryz.pinned.checked.prog.loopsFrom ·))) = true := by kernel_rfl
theorem k22 : ((Rows.fnExactInstanceToSExprRow.plainKeys == Tryz.pinned.checked.prog.plainKeys)) = true := by kernel_rfl
theorem k23 : (Rows.fnExactInstanceToSExprRow.shortTexts.isNone) = true := by kernel_rfl
theorem k24 : (Tryz.pinned.checked.prog.stopsHeard) = true := by kernel_rfl
theorem k25 : (Tryz.pinned.checked.prog.mayEnter) = true := by kernel_rfl
theorem k26 : ((Rows.fnExactInstanceToSExprRow.lifted == Tryz.pinned.checked.prog.liftsFinal)) = true := by kernel_rfl
theorem k27 : ((Tryz.pinned.checked.prog.make == some Rows.fnExactInstanceToSExprRow.make)) = true := by kernel_rfl
theorem k29 : ((Rows.fnExactInstanceToSExprRow.pinned == Rows.fnExactInstanceToSExprRow.pinnedBy)) = true := by kernel_rfl
theorem k30 : ((Rows.fnExactInstanceToSExprRow.veiled == (Tryz.f6.params.toList ++ Rows.fnExactInstanceToSExprSpec.plain.varTypes Tryz.pinned.checked.prog ++ Tryz.f6.resultTypes.toList).any (Tryz.pinned.checked.prog.veiledRec ·))) = true := by kernel_rfl
theorem k31 : (Rows.fnExactInstanceToSExprRow.veiledFits Tryz.pinned.checked.prog Tryz.f6.params.toList (Tryz.f6.params.toList ++ Rows.fnExactInstanceToSExprSpec.plain.varTypes Tryz.pinned.checked.prog ++ Tryz.f6.resultTypes.toList)) = true := by kernel_rfl
theorem shut : joinedFacts Tryz.pinned.checked.prog 6 Tryz.f6 Rows.fnExactInstanceToSExprSpec Rows.fnExactInstanceToSExprRow = true := by
  unfold joinedFacts
  simp only [Bool.and_eq_true]
  exact ⟨⟨⟨⟨⟨⟨⟨⟨⟨⟨⟨⟨⟨⟨⟨⟨⟨⟨⟨⟨⟨⟨⟨⟨⟨⟨⟨⟨⟨⟨⟨k0, k1⟩, k2⟩, k3⟩, k4⟩, k5⟩, k6⟩, k7⟩, k8⟩, k9⟩, k10⟩, k11⟩, k12⟩, k13⟩, k14⟩, k15⟩, k16⟩, k17⟩, k18⟩, k19⟩, k20⟩, k21⟩, k22⟩, k23⟩, k24⟩, k25⟩, k26⟩, k27⟩, (by kernel_rfl)⟩, k29⟩, k30⟩, k31⟩
theorem named : Tryz.pinned.checked.prog.funcNamed Rows.fnExactInstanceToSExprRow.func = some 6 := by kernel_rfl
theorem inst : Tryz.f6.isInstance Tryz.pinned.checked.prog Rows.fnExactInstanceToSExprRow.origin Rows.fnExactInstanceToSExprRow.targs := of_decide_eq_true (by kernel_rfl)
theorem wrap : Tryz.f6.isWrapper Tryz.pinned.checked.prog Rows.fnExactInstanceToSExprRow.wrapper Rows.fnExactInstanceToSExprRow.mainSum := by
  unfold Func.isWrapper
  first | (rw [if_pos (by decide +kernel)]; kernel_rfl) | (rw [if_neg (by decide +kernel)]; exact ⟨rfl, rfl⟩)
set_option maxRecDepth 100000 in
theorem over : Rows.fnExactInstanceToSExprRow.holds Tryz.pinned (OpenSpec.ofChange Rows.fnExactInstanceToSExprSpec) :=
  OpenClaim.holds_of_wide 6 Tryz.f6 rfl rfl rfl rfl rfl rfl rfl ⟨rfl, rfl, rfl, rfl, rfl⟩ rfl rfl rfl rfl rfl named Tryz.func6 shut inst wrap
    (fun os started H enc _ => lifted os started H enc)

set_option maxRecDepth 100000 in
theorem cWf : (Rows.fnExactInstanceToSExprRow.wfByText (OpenSpec.ofChange Rows.fnExactInstanceToSExprSpec)) = true := by kernel_rfl
set_option maxRecDepth 100000 in
theorem cMain : Tryz.pinned.checked.prog.mainIs = some (true, ("ed23fbeb3f21fb8e8d33af637db3b674a20a12ab224f5f1f39654ea2ec8f7ae5" : String).toList) := by kernel_rfl
set_option maxRecDepth 100000 in
theorem cLooks : true = Tryz.pinned.checked.prog.looks [] := by kernel_rfl
set_option maxRecDepth 100000 in
theorem cFn : Tryz.pinned.checked.prog.funcNamed "loop.example/g00508/laws.FnExactInstanceToSExpr" = some 6 := by kernel_rfl
set_option maxRecDepth 100000 in
theorem cStand : ([76].all fun u => !Tryz.prog.wantsStandIn u) = true := by kernel_rfl
set_option maxRecDepth 100000 in
theorem cGoes : false = Rows.fnExactInstanceToSExprRow.goesBy Tryz.pinned.checked.prog := by kernel_rfl
set_option maxRecDepth 100000 in
theorem cAt (f : FuncId) (fn : Func) (hf : Tryz.pinned.checked.prog.funcNamed Rows.fnExactInstanceToSExprRow.func = some f) (hfn : Tryz.pinned.checked.prog.funcs[f]? = some fn) : true = Tryz.pinned.checked.prog.looks [] ∧ ∀ (j : Nat) t, fn.params[j]? = some t → Tryz.pinned.checked.prog.wantsStandIn t = false := by
  obtain rfl : f = 6 := Option.some.inj (cFn.symm.trans hf) |>.symm
  obtain rfl : fn = Tryz.f6 := (Option.some.inj (Tryz.func6.symm.trans hfn)).symm
  exact ⟨cLooks, fun j t ht => by
    rw [Tryz.params6] at ht
    have hm : t ∈ [76] := by simpa using Array.mem_of_getElem? ht
    exact (show Tryz.prog.wantsStandIn t = false by simpa using List.all_eq_true.1 cStand t hm)⟩
/-- THE STATEMENT -/
theorem proved : Rows.FnExactInstanceToSExprCardSaid :=
  Claim7.holds_tied_plain_at .later [] [.data, .data, .data] true (true, "ed23fbeb3f21fb8e8d33af637db3b674a20a12ab224f5f1f39654ea2ec8f7ae5") true
    over (fun _ h => by cases h) cWf (fun _ h => by cases h) fnExactInstanceToSExpr_row_tie rfl ⟨rfl, rfl⟩ cMain rfl cAt cGoes
#print axioms proved
end Go.Proofs.YtokcpelkieeddaaGreatDoor.fnExactInstanceToSExpr
