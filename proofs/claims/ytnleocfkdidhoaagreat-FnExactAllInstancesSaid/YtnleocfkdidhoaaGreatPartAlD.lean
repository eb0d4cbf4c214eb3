/-
  SEVERAL TEXTS IN ONE (merged by program): contracts and models, each with its own heading.
-/
import Derived.Test.YtnleocfkdidhoaaGreatPartAlC
set_option linter.unusedSimpArgs false
set_option linter.unusedVariables false
set_option maxRecDepth 4000
set_option maxRecDepth 8000
namespace Go.Proofs.YtnleocfkdidhoaaGreat
open Go Go.Ab
theorem szFunction_ok (x : MFunction) : ∀ left : Int, 0 ≤ left → left ≤ 1048576 → FitL x.enc → PCall Tryz.prog 138 [x.v, .c (.d (.i .i64 left))] (.c (.d (.i .i64 (sub1 left x.sz)))) := by
  intro left h0 h1 hf S
  simp only [MFunction.enc_eq, List.cons_append, List.nil_append, fitL_cons, fitL_append, fitL_nil_iff, and_true] at hf
  obtain ⟨fName, fVars, fWhere, fParams, fResult, fBody⟩ := hf
  have hz : x.sz = x.fName.length + ((x.fVars.length + szRows (x.fVars.map encS)) + ((x.fWhere.length + szRows (x.fWhere.map MBound.enc)) + ((x.fParams.length + szRows (x.fParams.map MParam.enc)) + (x.fResult.sz + (x.fBody.sz))))) := by
    simp only [MFunction.sz, MFunction.enc_eq, szRow, szRow_append, D.sz, List.length_map, Nat.add_zero, Nat.zero_add, MExpr.sz_def, MType.sz_def] <;> omega
  refine acall_cw (rs := [.tmp 4]) Tryz.checked.mixed Tryz.func138 Tryz.ntmps138 rfl rfl rfl rfl rfl ?_
  rw [hz]
  have gName := fit_s fName
  simp -implicitDefEqProofs (disch := omega) only [go_sem]
  with_reducible refine split2 (fun hb => ?_) (fun hb => ?_) <;> have h := hb <;> (try simp only [wf_preprocess] at h) <;> simp -implicitDefEqProofs (disch := omega) only [go_sem, hb] <;> (repeat (with_reducible refine And.intro ?_ ?_; focus first | omega | rfl | assumption | exact ⟨_, rfl, rfl⟩ | (simp; omega) | (simp; done)))
  · exact int_eq (sub1_no (by omega)).symm
  refine call_w (szStringS_ok x.fVars _ (by omega) (by omega) fVars) ?_
  simp -implicitDefEqProofs (disch := omega) only [go_sem]
  with_reducible refine split2 (fun hb => ?_) (fun hb => ?_) <;> have h := hb <;> (try simp only [wf_preprocess] at h) <;> simp -implicitDefEqProofs (disch := omega) only [go_sem, hb] <;> (repeat (with_reducible refine And.intro ?_ ?_; focus first | omega | rfl | assumption | exact ⟨_, rfl, rfl⟩ | (simp; omega) | (simp; done)))
  · have h' := sub1_neg h
    exact int_eq (sub1_no (by omega)).symm
  have hVars := sub1_nn h
  simp only [hVars.1]
  refine call_w (szBoundS_ok x.fWhere _ (by omega) (by omega) fWhere) ?_
  simp -implicitDefEqProofs (disch := omega) only [go_sem]
  with_reducible refine split2 (fun hb => ?_) (fun hb => ?_) <;> have h := hb <;> (try simp only [wf_preprocess] at h) <;> simp -implicitDefEqProofs (disch := omega) only [go_sem, hb] <;> (repeat (with_reducible refine And.intro ?_ ?_; focus first | omega | rfl | assumption | exact ⟨_, rfl, rfl⟩ | (simp; omega) | (simp; done)))
  · have h' := sub1_neg h
    exact int_eq (sub1_no (by omega)).symm
  have hWhere := sub1_nn h
  simp only [hWhere.1]
  refine call_w (szParamS_ok x.fParams _ (by omega) (by omega) fParams) ?_
  simp -implicitDefEqProofs (disch := omega) only [go_sem]
  with_reducible refine split2 (fun hb => ?_) (fun hb => ?_) <;> have h := hb <;> (try simp only [wf_preprocess] at h) <;> simp -implicitDefEqProofs (disch := omega) only [go_sem, hb] <;> (repeat (with_reducible refine And.intro ?_ ?_; focus first | omega | rfl | assumption | exact ⟨_, rfl, rfl⟩ | (simp; omega) | (simp; done)))
  · have h' := sub1_neg h
    exact int_eq (sub1_no (by omega)).symm
  have hParams := sub1_nn h
  simp only [hParams.1]
  refine call_w (szType_ok x.fResult _ (by omega) (by omega) fResult) ?_
  simp -implicitDefEqProofs (disch := omega) only [go_sem]
  with_reducible refine split2 (fun hb => ?_) (fun hb => ?_) <;> have h := hb <;> (try simp only [wf_preprocess] at h) <;> simp -implicitDefEqProofs (disch := omega) only [go_sem, hb] <;> (repeat (with_reducible refine And.intro ?_ ?_; focus first | omega | rfl | assumption | exact ⟨_, rfl, rfl⟩ | (simp; omega) | (simp; done)))
  · have h' := sub1_neg h
    exact int_eq (sub1_no (by omega)).symm
  have hResult := sub1_nn h
  simp only [hResult.1]
  refine call_w (szExpr_ok x.fBody _ (by omega) (by omega) fBody) ?_
  simp -implicitDefEqProofs (disch := omega) only [go_sem]
  with_reducible refine split2 (fun hb => ?_) (fun hb => ?_) <;> have h := hb <;> (try simp only [wf_preprocess] at h) <;> simp -implicitDefEqProofs (disch := omega) only [go_sem, hb] <;> (repeat (with_reducible refine And.intro ?_ ?_; focus first | omega | rfl | assumption | exact ⟨_, rfl, rfl⟩ | (simp; omega) | (simp; done)))
  · have h' := sub1_neg h
    exact int_eq (sub1_no (by omega)).symm
  have hBody := sub1_nn h
  simp only [hBody.1]
  refine int_eq ?_
  rw [sub1_yes (by omega)]
  omega
theorem szFunctionS_ok (xs : List MFunction) : ∀ left : Int, 0 ≤ left → left ≤ 1048576 → (D.sl (xs.map MFunction.enc)).Fit → PCall Tryz.prog 66 [.c (.d (.sl (xs.map MFunction.enc))), .c (.d (.i .i64 left))] (.c (.d (.i .i64 (sub1 left (xs.length + szRows (xs.map MFunction.enc)))))) := by
  intro left h0 h1 hf S
  obtain ⟨hf1, hf2⟩ := fit_sl hf
  rw [List.length_map] at hf1
  refine acall_cw (rs := [.tmp 4]) Tryz.checked.mixed Tryz.func66 Tryz.ntmps66 rfl rfl rfl rfl rfl ?_
  simp -implicitDefEqProofs (disch := omega) only [go_sem]
  with_reducible refine split2 (fun hb => ?_) (fun hb => ?_) <;> have h := hb <;> (try simp only [wf_preprocess] at h) <;> simp -implicitDefEqProofs (disch := omega) only [go_sem, hb] <;> (repeat (with_reducible refine And.intro ?_ ?_; focus first | omega | rfl | assumption | exact ⟨_, rfl, rfl⟩ | (simp; omega) | (simp; done)))
  · exact int_eq (sub1_no (by omega)).symm
  refine loop_at (ι := Nat × Int) Tryz.checked.mixed rfl [0, 1, 5] (fun y => [.c (.d (.sl (xs.map MFunction.enc))), .c (.d (.i .i64 y.2)), .c (.d (.i .i64 y.1))]) (fun _ => [] :: S)
    (fun y => y.1 ≤ xs.length ∧ 0 ≤ y.2 ∧ y.2 ≤ 1048576 ∧ sub1 y.2 (szRows ((xs.map MFunction.enc).drop y.1)) = sub1 left (xs.length + szRows (xs.map MFunction.enc))) (fun y => xs.length - y.1) (0, left - xs.length) rfl rfl ⟨by omega, by omega, by omega, ?_⟩ ?_
  · unfold sub1
    rw [List.drop_zero]
    split <;> split <;> omega
  rintro ⟨i, l⟩ ⟨p1, p2, p3, p4⟩
  simp only at p1 p2 p3 p4
  simp -implicitDefEqProofs (disch := omega) only [go_sem]
  with_reducible refine split2 (fun hb => ?_) (fun hb => ?_) <;> have h := hb <;> (try simp only [wf_preprocess] at h) <;> simp -implicitDefEqProofs (disch := omega) only [go_sem, hb] <;> (repeat (with_reducible refine And.intro ?_ ?_; focus first | omega | rfl | assumption | exact ⟨_, rfl, rfl⟩ | (simp; omega) | (simp; done)))
  · have hi : i < xs.length := by omega
    rw [List.drop_eq_getElem_cons (by rw [List.length_map]; exact hi), szRows, List.getElem_map, MFunction.sz_def] at p4
    (repeat (with_reducible refine And.intro ?_ ?_; focus first | omega | rfl | assumption | exact ⟨_, rfl, rfl⟩ | (simp; omega) | (simp; done)))
    refine call_w (szFunction_ok xs[i] _ (by omega) (by omega) (hf2 _ (List.mem_map_of_mem (List.getElem_mem hi)))) ?_
    simp -implicitDefEqProofs (disch := omega) only [go_sem]
    with_reducible refine split2 (fun hb => ?_) (fun hb => ?_) <;> have h := hb <;> (try simp only [wf_preprocess] at h) <;> simp -implicitDefEqProofs (disch := omega) only [go_sem, hb] <;> (repeat (with_reducible refine And.intro ?_ ?_; focus first | omega | rfl | assumption | exact ⟨_, rfl, rfl⟩ | (simp; omega) | (simp; done)))
    · have h' := sub1_neg h
      rw [← p4, sub1_no (by omega)]
    · have h' := sub1_nn h
      refine inv_at (i + 1, sub1 l _) (by simp only; omega) rfl rfl ⟨by simp only; omega, by simp only; omega, by simp only; omega, ?_⟩
      simp only
      rw [← p4, h'.1]
      unfold sub1
      split <;> split <;> omega
  · have hi : i = xs.length := by omega
    rw [hi, List.drop_of_length_le (by simp), szRows, sub1_yes (by omega)] at p4
    rw [← p4]
    refine int_eq ?_
    omega
theorem toFunction_ok (x : MFunction) : x.sz ≤ 1048576 → PCall Tryz.prog 148 [x.v] x.v := by
  intro hsz S
  simp only [MFunction.sz, MFunction.enc_eq, szRow, szRow_append, D.sz, List.length_map, MExpr.sz_def, MType.sz_def] at hsz
  refine acall_cw (rs := [.cell 2 145]) Tryz.checked.mixed Tryz.func148 Tryz.ntmps148 rfl rfl rfl rfl rfl ?_
  simp -implicitDefEqProofs (disch := omega) only [go_sem]
  refine call_w (toStringS_ok x.fVars (by omega)) ?_
  simp -implicitDefEqProofs (disch := omega) only [go_sem]
  refine call_w (toBoundS_ok x.fWhere (by omega)) ?_
  simp -implicitDefEqProofs (disch := omega) only [go_sem]
  refine call_w (toParamS_ok x.fParams (by omega)) ?_
  simp -implicitDefEqProofs (disch := omega) only [go_sem]
  refine call_w (toType_ok x.fResult (by omega)) ?_
  simp -implicitDefEqProofs (disch := omega) only [go_sem]
  refine call_w (toExpr_ok x.fBody (by omega)) ?_
  simp -implicitDefEqProofs (disch := omega) only [go_sem]
theorem toFunctionS_ok (xs : List MFunction) : xs.length + szRows (xs.map MFunction.enc) ≤ 1048576 → PCall Tryz.prog 77 [.c (.d (.sl (xs.map MFunction.enc)))] (.c (.d (.sl (xs.map MFunction.enc)))) := by
  intro hsz S
  refine acall_cw (rs := [.tmp 2]) Tryz.checked.mixed Tryz.func77 Tryz.ntmps77 rfl rfl rfl rfl rfl ?_
  simp -implicitDefEqProofs (disch := omega) only [go_sem]
  (repeat (with_reducible refine And.intro ?_ ?_; focus first | omega | rfl | assumption | exact ⟨_, rfl, rfl⟩ | (simp; omega) | (simp; done)))
  refine loop_at (ι := Nat × List (List D)) Tryz.checked.mixed rfl [0, 3, 4] (fun y => [.c (.d (.sl (xs.map MFunction.enc))), .c (.msl (0, 0)), .c (.d (.i .i64 y.1))]) (fun y => [.mrow 16 y.2] :: S)
    (fun y => y.1 ≤ xs.length ∧ Filled 16 y.1 y.2 (xs.map MFunction.enc)) (fun y => xs.length - y.1) (0, _) rfl rfl ⟨Nat.zero_le _, Filled.start (by simp) rfl⟩ ?_
  rintro ⟨i, R⟩ ⟨p1, p2⟩
  simp only at p1 p2
  simp -implicitDefEqProofs (disch := omega) only [go_sem]
  with_reducible refine split2 (fun hb => ?_) (fun hb => ?_) <;> have h := hb <;> (try simp only [wf_preprocess] at h) <;> simp -implicitDefEqProofs (disch := omega) only [go_sem, hb] <;> (repeat (with_reducible refine And.intro ?_ ?_; focus first | omega | rfl | assumption | exact ⟨_, rfl, rfl⟩ | (simp; omega) | (simp; done)))
  · have hi : i < xs.length := by omega
    have hx : xs[i].sz ≤ szRows (xs.map MFunction.enc) := szRows_mem (List.mem_map_of_mem (List.getElem_mem hi))
    (repeat (with_reducible refine And.intro ?_ ?_; focus first | omega | rfl | assumption | exact ⟨_, rfl, rfl⟩ | (simp; omega) | (simp; done)))
    refine call_w (toFunction_ok xs[i] (by omega)) ?_
    simp -implicitDefEqProofs (disch := omega) only [go_sem]
    have hR := p2.1
    rw [List.length_map] at hR
    (repeat (with_reducible refine And.intro ?_ ?_; focus first | omega | rfl | assumption | exact ⟨_, rfl, rfl⟩ | (simp; omega) | (simp; done)))
    refine inv_at (i + 1, _) (by simp only; omega) rfl rfl ⟨by simp only; omega, p2.step (by simp [hi, MExpr.enc_eq, MFunction.enc_eq, MType.enc_eq]) rfl⟩
  · have hi : i = xs.length := by omega
    rw [p2.done (by rw [List.length_map]; omega)]
theorem eqFunction_ok (x : MFunction) : ∀ y : MFunction, x.sz ≤ 1048576 → PCall Tryz.prog 167 [x.v, y.v] (.c (.d (.b (dec (x = y))))) := by
  intro y hsz S
  simp only [MFunction.sz, MFunction.enc_eq, szRow, szRow_append, D.sz, List.length_map, MExpr.sz_def, MType.sz_def] at hsz
  refine acall_cw (rs := [.tmp 4]) Tryz.checked.mixed Tryz.func167 Tryz.ntmps167 rfl rfl rfl rfl rfl ?_
  simp -implicitDefEqProofs (disch := omega) only [go_sem]
  with_reducible refine split2 (fun hb => ?_) (fun hb => ?_) <;> have h := hb <;> (try simp only [wf_preprocess] at h) <;> simp -implicitDefEqProofs (disch := omega) only [go_sem, hb] <;> (repeat (with_reducible refine And.intro ?_ ?_; focus first | omega | rfl | assumption | exact ⟨_, rfl, rfl⟩ | (simp; omega) | (simp; done)))
  · exact bool_eq (dec_false (fun e => h (by rw [e]))).symm
  have eName := h
  clear h
  refine call_w (eqStringS_ok x.fVars _ (by omega)) ?_
  simp -implicitDefEqProofs (disch := omega) only [go_sem]
  with_reducible refine split2 (fun hb => ?_) (fun hb => ?_) <;> have h := hb <;> (try simp only [wf_preprocess] at h) <;> simp -implicitDefEqProofs (disch := omega) only [go_sem, hb] <;> (repeat (with_reducible refine And.intro ?_ ?_; focus first | omega | rfl | assumption | exact ⟨_, rfl, rfl⟩ | (simp; omega) | (simp; done)))
  · exact bool_eq (dec_false (fun e => h (by rw [e]))).symm
  have eVars := h
  clear h
  refine call_w (eqBoundS_ok x.fWhere _ (by omega)) ?_
  simp -implicitDefEqProofs (disch := omega) only [go_sem]
  with_reducible refine split2 (fun hb => ?_) (fun hb => ?_) <;> have h := hb <;> (try simp only [wf_preprocess] at h) <;> simp -implicitDefEqProofs (disch := omega) only [go_sem, hb] <;> (repeat (with_reducible refine And.intro ?_ ?_; focus first | omega | rfl | assumption | exact ⟨_, rfl, rfl⟩ | (simp; omega) | (simp; done)))
  · exact bool_eq (dec_false (fun e => h (by rw [e]))).symm
  have eWhere := h
  clear h
  refine call_w (eqParamS_ok x.fParams _ (by omega)) ?_
  simp -implicitDefEqProofs (disch := omega) only [go_sem]
  with_reducible refine split2 (fun hb => ?_) (fun hb => ?_) <;> have h := hb <;> (try simp only [wf_preprocess] at h) <;> simp -implicitDefEqProofs (disch := omega) only [go_sem, hb] <;> (repeat (with_reducible refine And.intro ?_ ?_; focus first | omega | rfl | assumption | exact ⟨_, rfl, rfl⟩ | (simp; omega) | (simp; done)))
  · exact bool_eq (dec_false (fun e => h (by rw [e]))).symm
  have eParams := h
  clear h
  refine call_w (eqType_ok x.fResult _ (by omega)) ?_
  simp -implicitDefEqProofs (disch := omega) only [go_sem]
  with_reducible refine split2 (fun hb => ?_) (fun hb => ?_) <;> have h := hb <;> (try simp only [wf_preprocess] at h) <;> simp -implicitDefEqProofs (disch := omega) only [go_sem, hb] <;> (repeat (with_reducible refine And.intro ?_ ?_; focus first | omega | rfl | assumption | exact ⟨_, rfl, rfl⟩ | (simp; omega) | (simp; done)))
  · exact bool_eq (dec_false (fun e => h (by rw [e]))).symm
  have eResult := h
  clear h
  refine call_w (eqExpr_ok x.fBody _ (by omega)) ?_
  simp -implicitDefEqProofs (disch := omega) only [go_sem]
  with_reducible refine split2 (fun hb => ?_) (fun hb => ?_) <;> have h := hb <;> (try simp only [wf_preprocess] at h) <;> simp -implicitDefEqProofs (disch := omega) only [go_sem, hb] <;> (repeat (with_reducible refine And.intro ?_ ?_; focus first | omega | rfl | assumption | exact ⟨_, rfl, rfl⟩ | (simp; omega) | (simp; done)))
  · exact bool_eq (dec_false (fun e => h (by rw [e]))).symm
  have eBody := h
  clear h
  exact bool_eq (dec_true (MFunction.ext' eName eVars eWhere eParams eResult eBody)).symm
theorem eqFunctionS_ok (xs : List MFunction) : ∀ ys : List MFunction, xs.length + szRows (xs.map MFunction.enc) ≤ 1048576 → PCall Tryz.prog 90 [.c (.d (.sl (xs.map MFunction.enc))), .c (.d (.sl (ys.map MFunction.enc)))] (.c (.d (.b (dec (xs = ys))))) := by
  intro ys hsz S
  refine acall_cw (rs := [.tmp 4]) Tryz.checked.mixed Tryz.func90 Tryz.ntmps90 rfl rfl rfl rfl rfl ?_
  simp -implicitDefEqProofs (disch := omega) only [go_sem]
  with_reducible refine split2 (fun hb => ?_) (fun hb => ?_) <;> have h := hb <;> (try simp only [wf_preprocess] at h) <;> simp -implicitDefEqProofs (disch := omega) only [go_sem, hb] <;> (repeat (with_reducible refine And.intro ?_ ?_; focus first | omega | rfl | assumption | exact ⟨_, rfl, rfl⟩ | (simp; omega) | (simp; done)))
  · exact bool_eq (dec_false (fun e => h (by rw [e]))).symm
  have hl : xs.length = ys.length := by omega
  refine loop_at (ι := Nat) Tryz.checked.mixed rfl [0, 1, 5] (fun y => [.c (.d (.sl (xs.map MFunction.enc))), .c (.d (.sl (ys.map MFunction.enc))), .c (.d (.i .i64 y))]) (fun y => [] :: S)
    (fun i => i ≤ xs.length ∧ ∀ j, j < i → xs[j]? = ys[j]?) (fun y => xs.length - y) 0 rfl rfl ⟨Nat.zero_le _, fun j h => by omega⟩ ?_
  rintro i ⟨p1, p2⟩
  simp -implicitDefEqProofs (disch := omega) only [go_sem]
  with_reducible refine split2 (fun hb => ?_) (fun hb => ?_) <;> have h := hb <;> (try simp only [wf_preprocess] at h) <;> simp -implicitDefEqProofs (disch := omega) only [go_sem, hb] <;> (repeat (with_reducible refine And.intro ?_ ?_; focus first | omega | rfl | assumption | exact ⟨_, rfl, rfl⟩ | (simp; omega) | (simp; done)))
  · have hi : i < xs.length := by omega
    have hi' : i < ys.length := by omega
    have hx : xs[i].sz ≤ szRows (xs.map MFunction.enc) := szRows_mem (List.mem_map_of_mem (List.getElem_mem hi))
    (repeat (with_reducible refine And.intro ?_ ?_; focus first | omega | rfl | assumption | exact ⟨_, rfl, rfl⟩ | (simp; omega) | (simp; done)))
    refine call_w (eqFunction_ok xs[i] ys[i] (by omega)) ?_
    simp -implicitDefEqProofs (disch := omega) only [go_sem]
    with_reducible refine split2 (fun hb => ?_) (fun hb => ?_) <;> have h := hb <;> (try simp only [wf_preprocess] at h) <;> simp -implicitDefEqProofs (disch := omega) only [go_sem, hb] <;> (repeat (with_reducible refine And.intro ?_ ?_; focus first | omega | rfl | assumption | exact ⟨_, rfl, rfl⟩ | (simp; omega) | (simp; done)))
    · exact bool_eq (dec_false (fun e => h (by simp only [e]))).symm
    refine inv_at (i + 1) (by omega) rfl rfl ⟨by omega, fun j hj => ?_⟩
    by_cases e : j = i
    · subst e
      rw [List.getElem?_eq_getElem hi, List.getElem?_eq_getElem hi', h]
    · exact p2 j (by omega)
  · have hi : i = xs.length := by omega
    refine bool_eq (dec_true (List.ext_getElem? fun j => ?_)).symm
    by_cases hj : j < i
    · exact p2 j hj
    · rw [List.getElem?_eq_none (by omega), List.getElem?_eq_none (by omega)]
end Go.Proofs.YtnleocfkdidhoaaGreat

namespace Go.Proofs.YtnleocfkdidhoaaGreat
open Go Go.Ab
theorem szPackage_ok (x : MPackage) : ∀ left : Int, 0 ≤ left → left ≤ 1048576 → FitL x.enc → PCall Tryz.prog 18 [x.v, .c (.d (.i .i64 left))] (.c (.d (.i .i64 (sub1 left x.sz)))) := by
  intro left h0 h1 hf S
  simp only [MPackage.enc_eq, List.cons_append, List.nil_append, fitL_cons, fitL_append, fitL_nil_iff, and_true] at hf
  obtain ⟨fName, fDeps, fTraits, fDataTypes, fInstances, fFunctions⟩ := hf
  have hz : x.sz = x.fName.length + ((x.fDeps.length + szRows (x.fDeps.map encS)) + ((x.fTraits.length + szRows (x.fTraits.map MTrait.enc)) + ((x.fDataTypes.length + szRows (x.fDataTypes.map MDataType.enc)) + ((x.fInstances.length + szRows (x.fInstances.map MInstance.enc)) + ((x.fFunctions.length + szRows (x.fFunctions.map MFunction.enc))))))) := by
    simp only [MPackage.sz, MPackage.enc_eq, szRow, szRow_append, D.sz, List.length_map, Nat.add_zero, Nat.zero_add] <;> omega
  refine acall_cw (rs := [.tmp 4]) Tryz.checked.mixed Tryz.func18 Tryz.ntmps18 rfl rfl rfl rfl rfl ?_
  rw [hz]
  have gName := fit_s fName
  simp -implicitDefEqProofs (disch := omega) only [go_sem]
  with_reducible refine split2 (fun hb => ?_) (fun hb => ?_) <;> have h := hb <;> (try simp only [wf_preprocess] at h) <;> simp -implicitDefEqProofs (disch := omega) only [go_sem, hb] <;> (repeat (with_reducible refine And.intro ?_ ?_; focus first | omega | rfl | assumption | exact ⟨_, rfl, rfl⟩ | (simp; omega) | (simp; done)))
  · exact int_eq (sub1_no (by omega)).symm
  refine call_w (szStringS_ok x.fDeps _ (by omega) (by omega) fDeps) ?_
  simp -implicitDefEqProofs (disch := omega) only [go_sem]
  with_reducible refine split2 (fun hb => ?_) (fun hb => ?_) <;> have h := hb <;> (try simp only [wf_preprocess] at h) <;> simp -implicitDefEqProofs (disch := omega) only [go_sem, hb] <;> (repeat (with_reducible refine And.intro ?_ ?_; focus first | omega | rfl | assumption | exact ⟨_, rfl, rfl⟩ | (simp; omega) | (simp; done)))
  · have h' := sub1_neg h
    exact int_eq (sub1_no (by omega)).symm
  have hDeps := sub1_nn h
  simp only [hDeps.1]
  refine call_w (szTraitS_ok x.fTraits _ (by omega) (by omega) fTraits) ?_
  simp -implicitDefEqProofs (disch := omega) only [go_sem]
  with_reducible refine split2 (fun hb => ?_) (fun hb => ?_) <;> have h := hb <;> (try simp only [wf_preprocess] at h) <;> simp -implicitDefEqProofs (disch := omega) only [go_sem, hb] <;> (repeat (with_reducible refine And.intro ?_ ?_; focus first | omega | rfl | assumption | exact ⟨_, rfl, rfl⟩ | (simp; omega) | (simp; done)))
  · have h' := sub1_neg h
    exact int_eq (sub1_no (by omega)).symm
  have hTraits := sub1_nn h
  simp only [hTraits.1]
  refine call_w (szDataTypeS_ok x.fDataTypes _ (by omega) (by omega) fDataTypes) ?_
  simp -implicitDefEqProofs (disch := omega) only [go_sem]
  with_reducible refine split2 (fun hb => ?_) (fun hb => ?_) <;> have h := hb <;> (try simp only [wf_preprocess] at h) <;> simp -implicitDefEqProofs (disch := omega) only [go_sem, hb] <;> (repeat (with_reducible refine And.intro ?_ ?_; focus first | omega | rfl | assumption | exact ⟨_, rfl, rfl⟩ | (simp; omega) | (simp; done)))
  · have h' := sub1_neg h
    exact int_eq (sub1_no (by omega)).symm
  have hDataTypes := sub1_nn h
  simp only [hDataTypes.1]
  refine call_w (szInstanceS_ok x.fInstances _ (by omega) (by omega) fInstances) ?_
  simp -implicitDefEqProofs (disch := omega) only [go_sem]
  with_reducible refine split2 (fun hb => ?_) (fun hb => ?_) <;> have h := hb <;> (try simp only [wf_preprocess] at h) <;> simp -implicitDefEqProofs (disch := omega) only [go_sem, hb] <;> (repeat (with_reducible refine And.intro ?_ ?_; focus first | omega | rfl | assumption | exact ⟨_, rfl, rfl⟩ | (simp; omega) | (simp; done)))
  · have h' := sub1_neg h
    exact int_eq (sub1_no (by omega)).symm
  have hInstances := sub1_nn h
  simp only [hInstances.1]
  refine call_w (szFunctionS_ok x.fFunctions _ (by omega) (by omega) fFunctions) ?_
  simp -implicitDefEqProofs (disch := omega) only [go_sem]
  with_reducible refine split2 (fun hb => ?_) (fun hb => ?_) <;> have h := hb <;> (try simp only [wf_preprocess] at h) <;> simp -implicitDefEqProofs (disch := omega) only [go_sem, hb] <;> (repeat (with_reducible refine And.intro ?_ ?_; focus first | omega | rfl | assumption | exact ⟨_, rfl, rfl⟩ | (simp; omega) | (simp; done)))
  · have h' := sub1_neg h
    exact int_eq (sub1_no (by omega)).symm
  have hFunctions := sub1_nn h
  simp only [hFunctions.1]
  refine int_eq ?_
  rw [sub1_yes (by omega)]
  omega
theorem szPackageS_ok (xs : List MPackage) : ∀ left : Int, 0 ≤ left → left ≤ 1048576 → (D.sl (xs.map MPackage.enc)).Fit → PCall Tryz.prog 47 [.c (.d (.sl (xs.map MPackage.enc))), .c (.d (.i .i64 left))] (.c (.d (.i .i64 (sub1 left (xs.length + szRows (xs.map MPackage.enc)))))) := by
  intro left h0 h1 hf S
  obtain ⟨hf1, hf2⟩ := fit_sl hf
  rw [List.length_map] at hf1
  refine acall_cw (rs := [.tmp 4]) Tryz.checked.mixed Tryz.func47 Tryz.ntmps47 rfl rfl rfl rfl rfl ?_
  simp -implicitDefEqProofs (disch := omega) only [go_sem]
  with_reducible refine split2 (fun hb => ?_) (fun hb => ?_) <;> have h := hb <;> (try simp only [wf_preprocess] at h) <;> simp -implicitDefEqProofs (disch := omega) only [go_sem, hb] <;> (repeat (with_reducible refine And.intro ?_ ?_; focus first | omega | rfl | assumption | exact ⟨_, rfl, rfl⟩ | (simp; omega) | (simp; done)))
  · exact int_eq (sub1_no (by omega)).symm
  refine loop_at (ι := Nat × Int) Tryz.checked.mixed rfl [0, 1, 5] (fun y => [.c (.d (.sl (xs.map MPackage.enc))), .c (.d (.i .i64 y.2)), .c (.d (.i .i64 y.1))]) (fun _ => [] :: S)
    (fun y => y.1 ≤ xs.length ∧ 0 ≤ y.2 ∧ y.2 ≤ 1048576 ∧ sub1 y.2 (szRows ((xs.map MPackage.enc).drop y.1)) = sub1 left (xs.length + szRows (xs.map MPackage.enc))) (fun y => xs.length - y.1) (0, left - xs.length) rfl rfl ⟨by omega, by omega, by omega, ?_⟩ ?_
  · unfold sub1
    rw [List.drop_zero]
    split <;> split <;> omega
  rintro ⟨i, l⟩ ⟨p1, p2, p3, p4⟩
  simp only at p1 p2 p3 p4
  simp -implicitDefEqProofs (disch := omega) only [go_sem]
  with_reducible refine split2 (fun hb => ?_) (fun hb => ?_) <;> have h := hb <;> (try simp only [wf_preprocess] at h) <;> simp -implicitDefEqProofs (disch := omega) only [go_sem, hb] <;> (repeat (with_reducible refine And.intro ?_ ?_; focus first | omega | rfl | assumption | exact ⟨_, rfl, rfl⟩ | (simp; omega) | (simp; done)))
  · have hi : i < xs.length := by omega
    rw [List.drop_eq_getElem_cons (by rw [List.length_map]; exact hi), szRows, List.getElem_map, MPackage.sz_def] at p4
    (repeat (with_reducible refine And.intro ?_ ?_; focus first | omega | rfl | assumption | exact ⟨_, rfl, rfl⟩ | (simp; omega) | (simp; done)))
    refine call_w (szPackage_ok xs[i] _ (by omega) (by omega) (hf2 _ (List.mem_map_of_mem (List.getElem_mem hi)))) ?_
    simp -implicitDefEqProofs (disch := omega) only [go_sem]
    with_reducible refine split2 (fun hb => ?_) (fun hb => ?_) <;> have h := hb <;> (try simp only [wf_preprocess] at h) <;> simp -implicitDefEqProofs (disch := omega) only [go_sem, hb] <;> (repeat (with_reducible refine And.intro ?_ ?_; focus first | omega | rfl | assumption | exact ⟨_, rfl, rfl⟩ | (simp; omega) | (simp; done)))
    · have h' := sub1_neg h
      rw [← p4, sub1_no (by omega)]
    · have h' := sub1_nn h
      refine inv_at (i + 1, sub1 l _) (by simp only; omega) rfl rfl ⟨by simp only; omega, by simp only; omega, by simp only; omega, ?_⟩
      simp only
      rw [← p4, h'.1]
      unfold sub1
      split <;> split <;> omega
  · have hi : i = xs.length := by omega
    rw [hi, List.drop_of_length_le (by simp), szRows, sub1_yes (by omega)] at p4
    rw [← p4]
    refine int_eq ?_
    omega
theorem toPackage_ok (x : MPackage) : x.sz ≤ 1048576 → PCall Tryz.prog 20 [x.v] x.v := by
  intro hsz S
  simp only [MPackage.sz, MPackage.enc_eq, szRow, szRow_append, D.sz, List.length_map] at hsz
  refine acall_cw (rs := [.cell 2 64]) Tryz.checked.mixed Tryz.func20 Tryz.ntmps20 rfl rfl rfl rfl rfl ?_
  simp -implicitDefEqProofs (disch := omega) only [go_sem]
  refine call_w (toStringS_ok x.fDeps (by omega)) ?_
  simp -implicitDefEqProofs (disch := omega) only [go_sem]
  refine call_w (toTraitS_ok x.fTraits (by omega)) ?_
  simp -implicitDefEqProofs (disch := omega) only [go_sem]
  refine call_w (toDataTypeS_ok x.fDataTypes (by omega)) ?_
  simp -implicitDefEqProofs (disch := omega) only [go_sem]
  refine call_w (toInstanceS_ok x.fInstances (by omega)) ?_
  simp -implicitDefEqProofs (disch := omega) only [go_sem]
  refine call_w (toFunctionS_ok x.fFunctions (by omega)) ?_
  simp -implicitDefEqProofs (disch := omega) only [go_sem]
theorem toPackageS_ok (xs : List MPackage) : xs.length + szRows (xs.map MPackage.enc) ≤ 1048576 → PCall Tryz.prog 52 [.c (.d (.sl (xs.map MPackage.enc)))] (.c (.d (.sl (xs.map MPackage.enc)))) := by
  intro hsz S
  refine acall_cw (rs := [.tmp 2]) Tryz.checked.mixed Tryz.func52 Tryz.ntmps52 rfl rfl rfl rfl rfl ?_
  simp -implicitDefEqProofs (disch := omega) only [go_sem]
  (repeat (with_reducible refine And.intro ?_ ?_; focus first | omega | rfl | assumption | exact ⟨_, rfl, rfl⟩ | (simp; omega) | (simp; done)))
  refine loop_at (ι := Nat × List (List D)) Tryz.checked.mixed rfl [0, 3, 4] (fun y => [.c (.d (.sl (xs.map MPackage.enc))), .c (.msl (0, 0)), .c (.d (.i .i64 y.1))]) (fun y => [.mrow 6 y.2] :: S)
    (fun y => y.1 ≤ xs.length ∧ Filled 6 y.1 y.2 (xs.map MPackage.enc)) (fun y => xs.length - y.1) (0, _) rfl rfl ⟨Nat.zero_le _, Filled.start (by simp) rfl⟩ ?_
  rintro ⟨i, R⟩ ⟨p1, p2⟩
  simp only at p1 p2
  simp -implicitDefEqProofs (disch := omega) only [go_sem]
  with_reducible refine split2 (fun hb => ?_) (fun hb => ?_) <;> have h := hb <;> (try simp only [wf_preprocess] at h) <;> simp -implicitDefEqProofs (disch := omega) only [go_sem, hb] <;> (repeat (with_reducible refine And.intro ?_ ?_; focus first | omega | rfl | assumption | exact ⟨_, rfl, rfl⟩ | (simp; omega) | (simp; done)))
  · have hi : i < xs.length := by omega
    have hx : xs[i].sz ≤ szRows (xs.map MPackage.enc) := szRows_mem (List.mem_map_of_mem (List.getElem_mem hi))
    (repeat (with_reducible refine And.intro ?_ ?_; focus first | omega | rfl | assumption | exact ⟨_, rfl, rfl⟩ | (simp; omega) | (simp; done)))
    refine call_w (toPackage_ok xs[i] (by omega)) ?_
    simp -implicitDefEqProofs (disch := omega) only [go_sem]
    have hR := p2.1
    rw [List.length_map] at hR
    (repeat (with_reducible refine And.intro ?_ ?_; focus first | omega | rfl | assumption | exact ⟨_, rfl, rfl⟩ | (simp; omega) | (simp; done)))
    refine inv_at (i + 1, _) (by simp only; omega) rfl rfl ⟨by simp only; omega, p2.step (by simp [hi, MPackage.enc_eq]) rfl⟩
  · have hi : i = xs.length := by omega
    rw [p2.done (by rw [List.length_map]; omega)]
theorem eqPackage_ok (x : MPackage) : ∀ y : MPackage, x.sz ≤ 1048576 → PCall Tryz.prog 22 [x.v, y.v] (.c (.d (.b (dec (x = y))))) := by
  intro y hsz S
  simp only [MPackage.sz, MPackage.enc_eq, szRow, szRow_append, D.sz, List.length_map] at hsz
  refine acall_cw (rs := [.tmp 4]) Tryz.checked.mixed Tryz.func22 Tryz.ntmps22 rfl rfl rfl rfl rfl ?_
  simp -implicitDefEqProofs (disch := omega) only [go_sem]
  with_reducible refine split2 (fun hb => ?_) (fun hb => ?_) <;> have h := hb <;> (try simp only [wf_preprocess] at h) <;> simp -implicitDefEqProofs (disch := omega) only [go_sem, hb] <;> (repeat (with_reducible refine And.intro ?_ ?_; focus first | omega | rfl | assumption | exact ⟨_, rfl, rfl⟩ | (simp; omega) | (simp; done)))
  · exact bool_eq (dec_false (fun e => h (by rw [e]))).symm
  have eName := h
  clear h
  refine call_w (eqStringS_ok x.fDeps _ (by omega)) ?_
  simp -implicitDefEqProofs (disch := omega) only [go_sem]
  with_reducible refine split2 (fun hb => ?_) (fun hb => ?_) <;> have h := hb <;> (try simp only [wf_preprocess] at h) <;> simp -implicitDefEqProofs (disch := omega) only [go_sem, hb] <;> (repeat (with_reducible refine And.intro ?_ ?_; focus first | omega | rfl | assumption | exact ⟨_, rfl, rfl⟩ | (simp; omega) | (simp; done)))
  · exact bool_eq (dec_false (fun e => h (by rw [e]))).symm
  have eDeps := h
  clear h
  refine call_w (eqTraitS_ok x.fTraits _ (by omega)) ?_
  simp -implicitDefEqProofs (disch := omega) only [go_sem]
  with_reducible refine split2 (fun hb => ?_) (fun hb => ?_) <;> have h := hb <;> (try simp only [wf_preprocess] at h) <;> simp -implicitDefEqProofs (disch := omega) only [go_sem, hb] <;> (repeat (with_reducible refine And.intro ?_ ?_; focus first | omega | rfl | assumption | exact ⟨_, rfl, rfl⟩ | (simp; omega) | (simp; done)))
  · exact bool_eq (dec_false (fun e => h (by rw [e]))).symm
  have eTraits := h
  clear h
  refine call_w (eqDataTypeS_ok x.fDataTypes _ (by omega)) ?_
  simp -implicitDefEqProofs (disch := omega) only [go_sem]
  with_reducible refine split2 (fun hb => ?_) (fun hb => ?_) <;> have h := hb <;> (try simp only [wf_preprocess] at h) <;> simp -implicitDefEqProofs (disch := omega) only [go_sem, hb] <;> (repeat (with_reducible refine And.intro ?_ ?_; focus first | omega | rfl | assumption | exact ⟨_, rfl, rfl⟩ | (simp; omega) | (simp; done)))
  · exact bool_eq (dec_false (fun e => h (by rw [e]))).symm
  have eDataTypes := h
  clear h
  refine call_w (eqInstanceS_ok x.fInstances _ (by omega)) ?_
  simp -implicitDefEqProofs (disch := omega) only [go_sem]
  with_reducible refine split2 (fun hb => ?_) (fun hb => ?_) <;> have h := hb <;> (try simp only [wf_preprocess] at h) <;> simp -implicitDefEqProofs (disch := omega) only [go_sem, hb] <;> (repeat (with_reducible refine And.intro ?_ ?_; focus first | omega | rfl | assumption | exact ⟨_, rfl, rfl⟩ | (simp; omega) | (simp; done)))
  · exact bool_eq (dec_false (fun e => h (by rw [e]))).symm
  have eInstances := h
  clear h
  refine call_w (eqFunctionS_ok x.fFunctions _ (by omega)) ?_
  simp -implicitDefEqProofs (disch := omega) only [go_sem]
  with_reducible refine split2 (fun hb => ?_) (fun hb => ?_) <;> have h := hb <;> (try simp only [wf_preprocess] at h) <;> simp -implicitDefEqProofs (disch := omega) only [go_sem, hb] <;> (repeat (with_reducible refine And.intro ?_ ?_; focus first | omega | rfl | assumption | exact ⟨_, rfl, rfl⟩ | (simp; omega) | (simp; done)))
  · exact bool_eq (dec_false (fun e => h (by rw [e]))).symm
  have eFunctions := h
  clear h
  exact bool_eq (dec_true (MPackage.ext' eName eDeps eTraits eDataTypes eInstances eFunctions)).symm
theorem eqPackageS_ok (xs : List MPackage) : ∀ ys : List MPackage, xs.length + szRows (xs.map MPackage.enc) ≤ 1048576 → PCall Tryz.prog 58 [.c (.d (.sl (xs.map MPackage.enc))), .c (.d (.sl (ys.map MPackage.enc)))] (.c (.d (.b (dec (xs = ys))))) := by
  intro ys hsz S
  refine acall_cw (rs := [.tmp 4]) Tryz.checked.mixed Tryz.func58 Tryz.ntmps58 rfl rfl rfl rfl rfl ?_
  simp -implicitDefEqProofs (disch := omega) only [go_sem]
  with_reducible refine split2 (fun hb => ?_) (fun hb => ?_) <;> have h := hb <;> (try simp only [wf_preprocess] at h) <;> simp -implicitDefEqProofs (disch := omega) only [go_sem, hb] <;> (repeat (with_reducible refine And.intro ?_ ?_; focus first | omega | rfl | assumption | exact ⟨_, rfl, rfl⟩ | (simp; omega) | (simp; done)))
  · exact bool_eq (dec_false (fun e => h (by rw [e]))).symm
  have hl : xs.length = ys.length := by omega
  refine loop_at (ι := Nat) Tryz.checked.mixed rfl [0, 1, 5] (fun y => [.c (.d (.sl (xs.map MPackage.enc))), .c (.d (.sl (ys.map MPackage.enc))), .c (.d (.i .i64 y))]) (fun y => [] :: S)
    (fun i => i ≤ xs.length ∧ ∀ j, j < i → xs[j]? = ys[j]?) (fun y => xs.length - y) 0 rfl rfl ⟨Nat.zero_le _, fun j h => by omega⟩ ?_
  rintro i ⟨p1, p2⟩
  simp -implicitDefEqProofs (disch := omega) only [go_sem]
  with_reducible refine split2 (fun hb => ?_) (fun hb => ?_) <;> have h := hb <;> (try simp only [wf_preprocess] at h) <;> simp -implicitDefEqProofs (disch := omega) only [go_sem, hb] <;> (repeat (with_reducible refine And.intro ?_ ?_; focus first | omega | rfl | assumption | exact ⟨_, rfl, rfl⟩ | (simp; omega) | (simp; done)))
  · have hi : i < xs.length := by omega
    have hi' : i < ys.length := by omega
    have hx : xs[i].sz ≤ szRows (xs.map MPackage.enc) := szRows_mem (List.mem_map_of_mem (List.getElem_mem hi))
    (repeat (with_reducible refine And.intro ?_ ?_; focus first | omega | rfl | assumption | exact ⟨_, rfl, rfl⟩ | (simp; omega) | (simp; done)))
    refine call_w (eqPackage_ok xs[i] ys[i] (by omega)) ?_
    simp -implicitDefEqProofs (disch := omega) only [go_sem]
    with_reducible refine split2 (fun hb => ?_) (fun hb => ?_) <;> have h := hb <;> (try simp only [wf_preprocess] at h) <;> simp -implicitDefEqProofs (disch := omega) only [go_sem, hb] <;> (repeat (with_reducible refine And.intro ?_ ?_; focus first | omega | rfl | assumption | exact ⟨_, rfl, rfl⟩ | (simp; omega) | (simp; done)))
    · exact bool_eq (dec_false (fun e => h (by simp only [e]))).symm
    refine inv_at (i + 1) (by omega) rfl rfl ⟨by omega, fun j hj => ?_⟩
    by_cases e : j = i
    · subst e
      rw [List.getElem?_eq_getElem hi, List.getElem?_eq_getElem hi', h]
    · exact p2 j (by omega)
  · have hi : i = xs.length := by omega
    refine bool_eq (dec_true (List.ext_getElem? fun j => ?_)).symm
    by_cases hj : j < i
    · exact p2 j hj
    · rw [List.getElem?_eq_none (by omega), List.getElem?_eq_none (by omega)]
end Go.Proofs.YtnleocfkdidhoaaGreat

namespace Go.Proofs.YtnleocfkdidhoaaGreat
open Go Go.Ab
theorem szProgram_ok (x : MProgram) : ∀ left : Int, 0 ≤ left → left ≤ 1048576 → FitL x.enc → PCall Tryz.prog 10 [x.v, .c (.d (.i .i64 left))] (.c (.d (.i .i64 (sub1 left x.sz)))) := by
  intro left h0 h1 hf S
  simp only [MProgram.enc_eq, List.cons_append, List.nil_append, fitL_cons, fitL_append, fitL_nil_iff, and_true] at hf
  have fPackages := hf
  have hz : x.sz = (x.fPackages.length + szRows (x.fPackages.map MPackage.enc)) := by
    simp only [MProgram.sz, MProgram.enc_eq, szRow, szRow_append, D.sz, List.length_map, Nat.add_zero, Nat.zero_add] <;> omega
  refine acall_cw (rs := [.tmp 4]) Tryz.checked.mixed Tryz.func10 Tryz.ntmps10 rfl rfl rfl rfl rfl ?_
  rw [hz]
  simp -implicitDefEqProofs (disch := omega) only [go_sem]
  refine call_w (szPackageS_ok x.fPackages _ (by omega) (by omega) fPackages) ?_
  simp -implicitDefEqProofs (disch := omega) only [go_sem]
  with_reducible refine split2 (fun hb => ?_) (fun hb => ?_) <;> have h := hb <;> (try simp only [wf_preprocess] at h) <;> simp -implicitDefEqProofs (disch := omega) only [go_sem, hb] <;> (repeat (with_reducible refine And.intro ?_ ?_; focus first | omega | rfl | assumption | exact ⟨_, rfl, rfl⟩ | (simp; omega) | (simp; done)))
  have h' := sub1_neg h
  exact int_eq (sub1_no (by omega)).symm
theorem toProgram_ok (x : MProgram) : x.sz ≤ 1048576 → PCall Tryz.prog 13 [x.v] x.v := by
  intro hsz S
  simp only [MProgram.sz, MProgram.enc_eq, szRow, szRow_append, D.sz, List.length_map] at hsz
  refine acall_cw (rs := [.cell 2 37]) Tryz.checked.mixed Tryz.func13 Tryz.ntmps13 rfl rfl rfl rfl rfl ?_
  simp -implicitDefEqProofs (disch := omega) only [go_sem]
  refine call_w (toPackageS_ok x.fPackages (by omega)) ?_
  simp -implicitDefEqProofs (disch := omega) only [go_sem]
theorem eqProgram_ok (x : MProgram) : ∀ y : MProgram, x.sz ≤ 1048576 → PCall Tryz.prog 16 [x.v, y.v] (.c (.d (.b (dec (x = y))))) := by
  intro y hsz S
  simp only [MProgram.sz, MProgram.enc_eq, szRow, szRow_append, D.sz, List.length_map] at hsz
  refine acall_cw (rs := [.tmp 4]) Tryz.checked.mixed Tryz.func16 Tryz.ntmps16 rfl rfl rfl rfl rfl ?_
  simp -implicitDefEqProofs (disch := omega) only [go_sem]
  refine call_w (eqPackageS_ok x.fPackages _ (by omega)) ?_
  simp -implicitDefEqProofs (disch := omega) only [go_sem]
  with_reducible refine split2 (fun hb => ?_) (fun hb => ?_) <;> have h := hb <;> (try simp only [wf_preprocess] at h) <;> simp -implicitDefEqProofs (disch := omega) only [go_sem, hb] <;> (repeat (with_reducible refine And.intro ?_ ?_; focus first | omega | rfl | assumption | exact ⟨_, rfl, rfl⟩ | (simp; omega) | (simp; done)))
  · exact bool_eq (dec_false (fun e => h (by rw [e]))).symm
  have ePackages := h
  clear h
  exact bool_eq (dec_true (MProgram.ext' ePackages)).symm
end Go.Proofs.YtnleocfkdidhoaaGreat

namespace Go.Ab
theorem MProgram.bounds {x : MProgram} (h : x.sz ≤ 4194304) : x.fPackages.length ≤ 4194304 := by
  simp only [MProgram.sz, MProgram.enc_eq, szRow, szRow_append, D.sz, List.length_map] at h
  omega
def pkgIndex (w : MProgram) (name : List UInt8) : Int := indexP (fun p : MPackage => decide (p.fName = name)) w.fPackages
end Go.Ab
namespace Go.Proofs.YtnleocfkdidhoaaGreat
open Go Go.Ab
end Go.Proofs.YtnleocfkdidhoaaGreat

namespace Go.Ab
def depsOf (w : MProgram) (p : Nat) : List (List UInt8) := match w.fPackages[p]? with
  | some q => q.fDeps
  | none => []
/-- p depends on j directly, and j comes ahead of it. -/
def Edge (w : MProgram) (p j : Nat) : Prop := j < p ∧ ∃ d ∈ depsOf w p, pkgIndex w d = (j : Int)
inductive Vis (w : MProgram) : Nat → Nat → Prop
  | refl (p : Nat) : Vis w p p
  | step {p j k : Nat} (h : Edge w p j) (hk : Vis w j k) : Vis w p k
theorem Vis.trans {w : MProgram} {p j k : Nat} (h : Vis w p j) (h' : Vis w j k) : Vis w p k := by
  induction h with
  | refl p => exact h'
  | step e _ ih => exact .step e (ih h')
theorem Vis.first {w : MProgram} {p k : Nat} (h : k < p) : Vis w p k ↔ ∃ j, Edge w p j ∧ Vis w j k := by
  constructor
  · intro hv
    cases hv with
    | refl => omega
    | step e hk => exact ⟨_, e, hk⟩
  · rintro ⟨j, e, hk⟩
    exact .step e hk
end Go.Ab

namespace Go.Ab
theorem PCall.less {P : Program} {f : FuncId} {args : List V} {r r' : V} (h : PCall P f args r) (hl : Less r r') : PCall P f args r' :=
  fun S => (h S).kill (0, 0) fun r1 S' e => ⟨r', by rw [e.1]; exact hl, .inl ⟨rfl, e.2⟩⟩
end Go.Ab
namespace Go.Proofs.YtnleocfkdidhoaaGreat
open Go Go.Ab
end Go.Proofs.YtnleocfkdidhoaaGreat
namespace Go.Ab
end Go.Ab
namespace Go.Proofs.YtnleocfkdidhoaaGreat
open Go Go.Ab
end Go.Proofs.YtnleocfkdidhoaaGreat

namespace Go.Ab
end Go.Ab
namespace Go.Proofs.YtnleocfkdidhoaaGreat
open Go Go.Ab
end Go.Proofs.YtnleocfkdidhoaaGreat

namespace Go.Ab
def mgK (n : Nat) : Key → Key
  | (0, j) => (0, n + j)
  | (l + 1, j) => (l, j)
def C.mg (n : Nat) : C → C
  | .d x => .d x
  | .any => .any
  | .tsl k es => .tsl (mgK n k) es
  | .fsl es => .fsl es
  | .ptr k off => .ptr (mgK n k) off
  | .rptr cs => .rptr cs
  | .eptr k i off => .eptr (mgK n k) i off
  | .msl k => .msl (mgK n k)
  | .fn f caps => .fn f (caps.map fun x => (mgK n x.1, x.2))
  | .mp k => .mp (mgK n k)
  | .lfl m es => .lfl m es
  | .xp k r p => .xp (mgK n k) r p
  | .xq k r p z i off => .xq (mgK n k) r p z i off
def V.mg (n : Nat) : V → V
  | .c x => .c (x.mg n)
  | .agg cs => .agg (cs.map (C.mg n))
  | .tup xs => .tup (xs.map fun y => (y.1, y.2.map (C.mg n)))
  | .any => .any
def Obj.mg (n : Nat) : Obj → Obj
  | .box cs => .box (cs.map (C.mg n))
  | o => o
section
variable {P : Program} {w : World} {σ : Nat → Nat} {own own0 : List Obj} {Ω : Store} {bo bo0 : List Value} {bΩ : Hs}
end
/-- What is asked where a function ends whose objects live on. -/
def escQ (P : Program) (rs : List ResultVar) (post : V → Store → Prop) (e : Exit) (s : St) : Prop :=
  match e with
  | .normal | .ret => (resV P rs s).1 ∧ match s.st with
    | own :: own0 :: Ω => post ((resV P rs s).2.mg own0.length) ((own0 ++ own.map (Obj.mg own0.length)) :: Ω)
    | _ => False
  | _ => False
section
variable {P : Program} {N : Nat} {s : St}
def escS (P : Program) (rs : List ResultVar) (post : V → Store → Prop) (s : St) (r : R) : Prop := r.1 ∧ match s.st with
  | own :: own0 :: Ω => post (r.2.mg own0.length) ((own0 ++ own.map (Obj.mg own0.length)) :: Ω)
  | _ => False
@[congr] theorem escS_congr {rs : List ResultVar} {post : V → Store → Prop} {s s' : St} {r r' : R} (h1 : s = s') (h2 : r = r') : escS P rs post s r = escS P rs post s' r' := by rw [h1, h2]
theorem escQ_ret {rs : List ResultVar} {post : V → Store → Prop} {tm : List (Nat × V)} {S : Store} : escQ P rs post .ret ⟨tm, S⟩ = escS P rs post ⟨tm, S⟩ (resV P rs ⟨tm, S⟩) := rfl
theorem escQ_normal {rs : List ResultVar} {post : V → Store → Prop} {tm : List (Nat × V)} {S : Store} : escQ P rs post .normal ⟨tm, S⟩ = escS P rs post ⟨tm, S⟩ (resV P rs ⟨tm, S⟩) := rfl
theorem escS_mk {rs : List ResultVar} {post : V → Store → Prop} {tm : List (Nat × V)} {own own0 : List Obj} {Ω : Store} {p : Prop} {v : V} :
    escS P rs post ⟨tm, own :: own0 :: Ω⟩ (p, v) = (p ∧ post (v.mg own0.length) ((own0 ++ own.map (Obj.mg own0.length)) :: Ω)) := rfl
theorem mgK_0 {n j : Nat} : mgK n (0, j) = (0, n + j) := rfl
theorem mgK_1 {n l j : Nat} : mgK n (1 + l, j) = (l, j) := by rw [Nat.add_comm]; rfl
end
attribute [go_sem ↓] escQ_ret escQ_normal
attribute [go_sem] escS_mk V.mg C.mg Obj.mg mgK_0 mgK_1
end Go.Ab

namespace Go.Ab
/-! ### the labels of a tree, from a number on, each slice before what lies in it -/
mutual
def cntD : D → Nat
  | .sl es => cntRs es + 1
  | .ol _ _ => 0
  | .b _ => 0
  | .i _ _ => 0
  | .s _ => 0
  | .o _ => 0
def cntR : List D → Nat
  | [] => 0
  | d :: ds => cntD d + cntR ds
def cntRs : List (List D) → Nat
  | [] => 0
  | r :: rs => cntR r + cntRs rs
end
mutual
def labD : D → Nat → D
  | .sl es, n => .ol n (labRs es (n + 1))
  | .ol m es, _ => .ol m es
  | .b x, _ => .b x
  | .i k x, _ => .i k x
  | .s l, _ => .s l
  | .o v, _ => .o v
def labR : List D → Nat → List D
  | [], _ => []
  | d :: ds, n => labD d n :: labR ds (n + cntD d)
def labRs : List (List D) → Nat → List (List D)
  | [], _ => []
  | r :: rs, n => labR r n :: labRs rs (n + cntR r)
end
mutual
/-- No label, nothing but data. -/
def plD : D → Bool
  | .sl es => plRs es
  | .ol _ _ => false
  | .b _ => true
  | .i _ _ => true
  | .s _ => true
  | .o _ => false
def plR : List D → Bool
  | [] => true
  | d :: ds => plD d && plR ds
def plRs : List (List D) → Bool
  | [] => true
  | r :: rs => plR r && plRs rs
end
theorem labR_length : ∀ r n, (labR r n).length = r.length
  | [], _ => rfl
  | d :: ds, n => by rw [labR, List.length_cons, labR_length ds, List.length_cons]
theorem labRs_length : ∀ rs n, (labRs rs n).length = rs.length
  | [], _ => rfl
  | r :: rs, n => by rw [labRs, List.length_cons, labRs_length rs, List.length_cons]
theorem plR_append : ∀ a b, plR (a ++ b) = (plR a && plR b)
  | [], b => by simp [plR]
  | d :: ds, b => by rw [List.cons_append, plR, plR, plR_append ds b, Bool.and_assoc]
theorem plRs_map {α : Type} {f : α → List D} : ∀ {xs : List α}, (∀ x ∈ xs, plR (f x) = true) → plRs (xs.map f) = true
  | [], _ => rfl
  | x :: xs, h => by
    rw [List.map_cons, plRs, h x (by simp), plRs_map fun y hy => h y (by simp [hy])]; rfl
section
variable {P : Program} {w : World} {σ σ' : Nat → Nat} {S : Store} {β : Hs} {N : Nat} {s : St}
/-! ### labels forgotten -/
mutual
theorem er_D : ∀ (d : D) (n : Nat) (v : Value), RepD w σ (labD d n) v → RepD w σ d v
  | .sl es, n, v, h => by
    rw [labD] at h
    have hl := labRs_length es (n + 1)
    have hrec := er_Rs es (n + 1)
    generalize labRs es (n + 1) = q at h hl hrec
    cases h with
    | onil n a cap =>
      have : es = [] := List.eq_nil_of_length_eq_zero (by simpa using hl.symm)
      subst this
      exact .nil a cap
    | ol n b off cap esz q vals c t hcap hlen hb hσ hfit hc hv =>
      obtain ⟨r1, r2⟩ := hrec vals hv
      rw [hl] at hcap hfit hc ⊢
      refine .sl b off cap esz es vals c t (0, 0) hcap (fun e he => ?_) hb (by omega) hc r2
      obtain ⟨e', h1, h2⟩ := r1 e he
      rw [← h2]; exact hlen e' h1
  | .ol m es, n, v, h => h
  | .b x, n, v, h => h
  | .i k x, n, v, h => h
  | .s l, n, v, h => h
  | .o u, n, v, h => h
theorem er_R : ∀ (r : List D) (n : Nat) (vals : Nat → Value), (∀ j d, (labR r n)[j]? = some d → RepD w σ d (vals j)) → ∀ (j : Nat) d, r[j]? = some d → RepD w σ d (vals j)
  | [], n, vals, h, j, d, hd => by simp at hd
  | a :: r, n, vals, h, j, d, hd => by
    cases j with
    | zero =>
      simp at hd; subst hd
      exact er_D a n _ (h 0 _ rfl)
    | succ j => exact er_R r (n + cntD a) (fun i => vals (i + 1)) (fun i d hi => h (i + 1) d (by rw [labR]; exact hi)) j d hd
theorem er_Rs : ∀ (rs : List (List D)) (n : Nat) (vals : Nat → Value), (∀ j d, (labRs rs n).flatten[j]? = some d → RepD w σ d (vals j)) →
    (∀ e ∈ rs, ∃ e' ∈ labRs rs n, e'.length = e.length) ∧ ∀ (j : Nat) d, rs.flatten[j]? = some d → RepD w σ d (vals j)
  | [], n, vals, h => ⟨fun e he => (by cases he), fun j d hd => (by simp at hd)⟩
  | r :: rs, n, vals, h => by
    rw [labRs, List.flatten_cons] at h
    have h1 := er_R r n vals fun j d hd => h j d (by rw [List.getElem?_append_left (List.getElem?_eq_some_iff.1 hd).1]; exact hd)
    obtain ⟨h2, h3⟩ := er_Rs rs (n + cntR r) (fun i => vals (r.length + i)) fun j d hd => h (r.length + j) d (by rw [List.getElem?_append_right (by rw [labR_length]; omega), labR_length, Nat.add_sub_cancel_left]; exact hd)
    refine ⟨fun e he => ?_, fun j d hd => ?_⟩
    · rcases List.mem_cons.1 he with e1 | he
      · subst e1; exact ⟨_, by rw [labRs]; exact List.mem_cons_self .., labR_length _ _⟩
      · obtain ⟨e', q1, q2⟩ := h2 e he
        exact ⟨e', by rw [labRs]; exact List.mem_cons_of_mem _ q1, q2⟩
    · rw [List.flatten_cons] at hd
      by_cases hj : j < r.length
      · rw [List.getElem?_append_left hj] at hd; exact h1 j d hd
      · rw [List.getElem?_append_right (by omega)] at hd
        have := h3 (j - r.length) d hd
        rwa [show r.length + (j - r.length) = j by omega] at this
end
/-- Values told as less, one by one. -/
inductive Lesses : List V → List V → Prop
  | nil : Lesses [] []
  | cons {x y : V} {xs ys : List V} : Less x y → Lesses xs ys → Lesses (x :: xs) (y :: ys)
theorem Lesses.length : ∀ {xs ys : List V}, Lesses xs ys → xs.length = ys.length
  | _, _, .nil => rfl
  | _, _, .cons _ h => by rw [List.length_cons, List.length_cons, Lesses.length h]
theorem Lesses.at : ∀ {xs ys : List V}, Lesses xs ys → ∀ (j : Nat) (x y : V), xs[j]? = some x → ys[j]? = some y → Less x y
  | _, _, .nil, j, x, y, h, _ => by simp at h
  | _, _, .cons a h, 0, x, y, h1, h2 => by simp at h1 h2; subst h1; subst h2; exact a
  | _, _, .cons a h, j + 1, x, y, h1, h2 => Lesses.at h j x y (by simpa using h1) (by simpa using h2)
theorem PCall.args {f : FuncId} {args args' : List V} {r : V} (h : PCall P f args' r) (hl : Lesses args args') : PCall P f args r := fun S => (h S).weaken hl.length fun j x y hx hy w σ β v hr => hl.at j x y hx hy w σ S β v hr
/-! ### where a function ends, its rows and tokens under labels -/
def mapL (row : Bool) (j n : Nat) (es : List (List D)) (tm : List (Nat × V)) : List (Nat × V) := tm.map fun x => (x.1, x.2.mapC (C.lab row j n es))
theorem look_mapL {row : Bool} {j n : Nat} {es : List (List D)} {tm : List (Nat × V)} {t : Nat} : look (mapL row j n es tm) t = (look tm t).mapC (C.lab row j n es) := look_map (f := V.mapC (C.lab row j n es)) rfl tm t
def labC (j n : Nat) (tm : List (Nat × V)) (own : List Obj) (Ω : Store) : Option Obj → St
  | some (.mrow _ es) => ⟨mapL true j n es tm, (own.map (Obj.mapC (C.lab true j n es))).set j .dead :: Ω⟩
  | some (.ltok m _ es) => ⟨mapL false j m es tm, (own.map (Obj.mapC (C.lab false j m es))).set j .dead :: Ω⟩
  | _ => ⟨tm, own :: Ω⟩
def labAt (j n : Nat) (s : St) : St :=
  match s.st with
  | own :: Ω => labC j n s.tm own Ω (own[j]?)
  | [] => s
def labUp : Nat → Nat → St → St
  | 0, _, s => s
  | k + 1, n, s => labUp k n (labAt k n s)
def labAll (n : Nat) (s : St) : St :=
  match s.st with
  | own :: _ => labUp own.length n s
  | [] => s
theorem labAt_ghost (j n : Nat) (s : St) : Ghost N s (labAt j n s) := by
  obtain ⟨tm, st⟩ := s
  cases st with
  | nil => exact Ghost.refl _ _
  | cons own Ω =>
    show Ghost N ⟨tm, own :: Ω⟩ (labC j n tm own Ω (own[j]?))
    cases ho : own[j]? with
    | none => exact Ghost.refl _ _
    | some o =>
      cases o with
      | mrow z es => exact fun a w σ β hR => lab_rep j n z es true ho hR
      | ltok m z es => exact fun a w σ β hR => lab_rep j m z es false ho hR
      | _ => exact Ghost.refl _ _
theorem labUp_ghost : ∀ (k n : Nat) (s : St), Ghost N s (labUp k n s)
  | 0, n, s => Ghost.refl _ _
  | k + 1, n, s => (labAt_ghost k n s).trans (labUp_ghost k n _)
theorem labAll_ghost (n : Nat) (s : St) : Ghost N s (labAll n s) := by
  unfold labAll
  split
  · exact labUp_ghost _ _ _
  · exact Ghost.refl _ _
theorem labAt_mk {j n : Nat} {tm : List (Nat × V)} {own : List Obj} {Ω : Store} : labAt j n ⟨tm, own :: Ω⟩ = labC j n tm own Ω (own[j]?) := rfl
theorem labAll_mk {n : Nat} {tm : List (Nat × V)} {own : List Obj} {Ω : Store} : labAll n ⟨tm, own :: Ω⟩ = labUp own.length n ⟨tm, own :: Ω⟩ := rfl
def retL (P : Program) (n : Nat) (rs : List ResultVar) (post : V → Store → Prop) (e : Exit) (s : St) : Prop := retQ P rs post e (labAll n s)
theorem retL_ret {n : Nat} {rs : List ResultVar} {post : V → Store → Prop} : retL P n rs post .ret s = retS P rs post (labAll n s) := rfl
theorem retL_normal {n : Nat} {rs : List ResultVar} {post : V → Store → Prop} : retL P n rs post .normal s = retS P rs post (labAll n s) := rfl
/-- A function whose result lies under labels: n that of its rows and of its literals. -/
theorem acall_cwL (n : Nat) {f : FuncId} {fn : Func} {c : Code} {args : List V} {post : V → Store → Prop} {rs : List ResultVar} (hmix : P.follows .mixedOrders = true) (hf : P.funcs[f]? = some fn) (hN : fn.ntmps = N)
    (hb : fn.body = some c) (hn : (fn.name == "runtime.NumGoroutine") = false) (hr : fn.results.toList = rs) (hl : Nat.ble args.length N = true) (hok : codeOk N c = true)
    (h : CW P N c (retL P n rs post) ⟨argTm (args.map (V.up 1)) 0, [.seed n] :: S⟩) : ACall P f args S post := by
  subst hN
  subst hr
  exact acall_enter hf hb hn (Nat.le_of_ble_eq_true hl) (aw_seed n (aw_end (labAll_ghost n) (cw_sound hmix c _ _ hok h)))
theorem lab_tsl1 {row : Bool} {j n l i : Nat} {es es' : List (List D)} : C.lab row j n es (.tsl (1 + l, i) es') = .tsl (1 + l, i) es' := by rw [Nat.add_comm]; rfl
theorem lab_tsl0 {row : Bool} {j n i : Nat} {es es' : List (List D)} : C.lab row j n es (.tsl (0, i) es') = if i = j ∧ row = false ∧ es'.length = es.length then .d (.ol n es) else .tsl (0, i) es' := rfl
theorem lab_msl1 {row : Bool} {j n l i : Nat} {es : List (List D)} : C.lab row j n es (.msl (1 + l, i)) = .msl (1 + l, i) := by rw [Nat.add_comm]; rfl
theorem lab_msl0 {row : Bool} {j n i : Nat} {es : List (List D)} : C.lab row j n es (.msl (0, i)) = if i = j ∧ row = true then .d (.ol n es) else .msl (0, i) := rfl
theorem lab_d {row : Bool} {j n : Nat} {es : List (List D)} {x : D} : C.lab row j n es (.d x) = .d x := rfl
theorem lab_any {row : Bool} {j n : Nat} {es : List (List D)} : C.lab row j n es .any = .any := rfl
theorem lab_fsl {row : Bool} {j n : Nat} {es es' : List (List D)} : C.lab row j n es (.fsl es') = .fsl es' := rfl
theorem lab_lfl {row : Bool} {j n m : Nat} {es es' : List (List D)} : C.lab row j n es (.lfl m es') = .lfl m es' := rfl
theorem lab_ptr {row : Bool} {j n off : Nat} {es : List (List D)} {k : Key} : C.lab row j n es (.ptr k off) = .ptr k off := rfl
theorem lab_fn {row : Bool} {j n f : Nat} {es : List (List D)} {caps : List (Key × Nat)} : C.lab row j n es (.fn f caps) = .fn f caps := rfl
theorem lab_rptr {row : Bool} {j n : Nat} {es : List (List D)} {cs : List D} : C.lab row j n es (.rptr cs) = .rptr cs := rfl
end
attribute [go_sem ↓] retL_ret retL_normal labAll_mk
attribute [go_sem] labUp labAt_mk labC look_mapL V.mapC Obj.mapC lab_tsl1 lab_tsl0 lab_msl1 lab_msl0 lab_d lab_any lab_fsl lab_lfl lab_ptr lab_fn lab_rptr
end Go.Ab

namespace Go.Ab
section
variable {P : Program} {w w' : World} {σ σ' : Nat → Nat} {S : Store} {β : Hs}
/-- The block is sealed, with a label from lo on and below hi. -/
def Sealed (w : World) (σ : Nat → Nat) (lo hi b : Nat) : Prop := ∃ c t fz m, w.heap[b]? = some (.cells c t fz) ∧ σ b = c.size + 1 + m ∧ lo ≤ m ∧ m < hi
theorem Sealed.mono {lo hi lo' hi' b : Nat} (h : Sealed w σ lo hi b) (h1 : lo' ≤ lo) (h2 : hi ≤ hi') : Sealed w σ lo' hi' b := by
  obtain ⟨c, t, fz, m, a1, a2, a3, a4⟩ := h
  exact ⟨c, t, fz, m, a1, a2, by omega, by omega⟩
theorem Sealed.apart {lo hi lo' hi' b : Nat} (h : Sealed w σ lo hi b) (h' : Sealed w σ lo' hi' b) (ho : hi ≤ lo') : False := by
  obtain ⟨c, t, fz, m, a1, a2, a3, a4⟩ := h
  obtain ⟨c', t', fz', m', b1, b2, b3, b4⟩ := h'
  rw [a1] at b1; cases b1
  omega
/-! ### a tree of headers out of its parts -/
abbrev Kids := List (List (Option Value))
def kidAt (rows : Kids) (i o : Nat) : Option Value := ((rows[i]?).bind fun r => r[o]?).bind id
def rowsV (rows : Kids) : Array Value := (rows.map fun r => Value.tuple (r.map fun u => u.getD (.bool false)).toArray).toArray
def mkT (v : Value) (rows : Kids) : Value := .tuple #[v, .tuple (rowsV rows)]
theorem hdr_mkT {v : Value} {rows : Kids} : hdr (mkT v rows) = some v := rfl
/-- A tree is a tuple. -/
def IsT (v : Value) : Prop := ∃ a, v = .tuple a
theorem kid_mkT {v : Value} {rows : Kids} (h : ∀ i o u, kidAt rows i o = some u → IsT u) (i o : Nat) : kid (mkT v rows) i o = kidAt rows i o := by
  have h' := h i o
  unfold kid mkT rowsV kidAt at *
  simp only [List.getElem?_toArray, List.getElem?_cons_succ, List.getElem?_cons_zero, List.getElem?_map]
  cases hr : rows[i]? with
  | none => rfl
  | some r =>
    rw [hr] at h'
    simp only [Option.map_some, List.getElem?_toArray, List.getElem?_map]
    cases hu : r[o]? with
    | none => simp [hu]
    | some u =>
      simp only [Option.bind_some, hu, id] at h'
      cases u with
      | none => simp [hu]
      | some u =>
        obtain ⟨a, rfl⟩ := h' u rfl
        simp [hu]
/-! ### a labelled datum, as a tree -/
/-- What a cell's tree is. -/
def CellT (w : World) (d : D) (v : Value) (u : Option Value) : Prop :=
  match d with
  | .sl es => ∃ T, u = some T ∧ IsT T ∧ hdr T = some v ∧ ExT w es T
  | d => u = none ∧ SD d v
theorem rows_lab {z : Nat} : ∀ {rs : List (List D)} {n : Nat}, (∀ r ∈ labRs rs n, r.length = z) → ∀ r ∈ rs, r.length = z
  | [], _, _, r, h => by cases h
  | a :: rs, n, ha, r, h => by
    rw [labRs] at ha
    rcases List.mem_cons.1 h with e | h
    · subst e; rw [← labR_length r n]; exact ha _ (by simp)
    · exact rows_lab (n := n + cntR a) (fun r hr => ha r (by simp [hr])) r h
/-- The trees of a row's cells: apart from each other, with labels in a range. -/
structure RowT (w : World) (σ : Nat → Nat) (r : List D) (n m : Nat) (vals : Nat → Value) (us : List (Option Value)) : Prop where
  len : us.length = r.length
  cell : ∀ (j : Nat) (d : D), r[j]? = some d → ∃ u, us[j]? = some u ∧ CellT w d (vals j) u
  own : ∀ (j : Nat) (u : Value), us[j]? = some (some u) → ∀ b, Owns u b → Sealed w σ n m b
  apart : ∀ (j j' : Nat) (u u' : Value) (b : Nat), j ≠ j' → us[j]? = some (some u) → us[j']? = some (some u') → Owns u b → Owns u' b → False
structure RowsT (w : World) (σ : Nat → Nat) (z : Nat) (rs : List (List D)) (n m : Nat) (vals : Nat → Value) (U : Kids) : Prop where
  cell : ∀ (i o : Nat) (d : D), cellAt rs i o = some d → ∃ u, ((U[i]?).bind fun r => r[o]?) = some u ∧ CellT w d (vals (i * z + o)) u
  kid : ∀ (i o : Nat) (u : Value), kidAt U i o = some u → ∃ es, cellAt rs i o = some (.sl es)
  own : ∀ (i o : Nat) (u : Value), kidAt U i o = some u → ∀ b, Owns u b → Sealed w σ n m b
  apart : ∀ (i o i' o' : Nat) (u u' : Value) (b : Nat), (i, o) ≠ (i', o') → kidAt U i o = some u → kidAt U i' o' = some u' → Owns u b → Owns u' b → False
theorem kidAt_zero {us : List (Option Value)} {U : Kids} {o : Nat} {u : Value} : kidAt (us :: U) 0 o = some u ↔ us[o]? = some (some u) := by
  show (us[o]?).bind id = some u ↔ _
  cases us[o]? with
  | none => simp
  | some x => simp
mutual
theorem lab_D : ∀ (d : D) (n : Nat) (v : Value), plD d = true → RepD w σ (labD d n) v → ∃ u, CellT w d v u ∧ ∀ T, u = some T → ∀ b, Owns T b → Sealed w σ n (n + cntD d) b
  | .sl es, n, v, hp, h => by
    rw [labD] at h
    have hl := labRs_length es (n + 1)
    have hrec := lab_Rs es (n + 1)
    have hrow := fun z => rows_lab (z := z) (rs := es) (n := n + 1)
    generalize labRs es (n + 1) = q at h hl hrec hrow
    have hempty : ∀ a cap, es = [] → v = .slice a 0 cap → ∃ u, CellT w (.sl es) v u ∧ ∀ T, u = some T → ∀ b, Owns T b → Sealed w σ n (n + cntD (.sl es)) b := by
      rintro a cap rfl rfl
      have hk : ∀ i o, kid (mkT (.slice a 0 cap) []) i o = none := fun i o => by rw [kid_mkT (fun i o u h => by simp [kidAt] at h)]; simp [kidAt]
      refine ⟨some (mkT (.slice a 0 cap) []), ⟨_, rfl, ⟨_, rfl⟩, rfl, .nil a cap _ rfl hk⟩, fun T hT b hb => ?_⟩
      cases hT
      exfalso
      cases hb with
      | here h1 h2 => rw [hdr_mkT] at h1; cases h1; omega
      | kid h1 h2 => rw [hk] at h1; cases h1
    cases h with
    | onil n a cap => exact hempty a cap (List.eq_nil_of_length_eq_zero (by simpa using hl.symm)) rfl
    | ol n b off cap z q vals c t hcap hlen hb hσ hfit hc hv =>
      by_cases hne : es = []
      · subst hne
        have hq0 : q.length = 0 := by simpa using hl
        exact hempty _ _ rfl (by rw [hq0])
      rw [hl] at hcap hfit hc ⊢
      obtain ⟨U, hU⟩ := hrec z vals (hrow z hlen) (by simpa [plD] using hp) hv
      have hrl := hrow z hlen
      have hT : ∀ i o u, kidAt U i o = some u → IsT u := fun i o u hu => by
        obtain ⟨es', he⟩ := hU.kid i o u hu
        obtain ⟨u', h1, h2⟩ := hU.cell i o _ he
        obtain ⟨T, h3, h4, _⟩ := h2
        unfold kidAt at hu
        rw [h1, h3] at hu
        cases hu; exact h4
      have hkid : ∀ i o, kid (mkT (.slice (some ⟨b, off, none⟩) es.length cap) U) i o = kidAt U i o := kid_mkT hT
      have hcell : ∀ i o es', cellAt es i o = some (.sl es') → ∃ T, kidAt U i o = some T ∧ hdr T = some (vals (i * z + o)) ∧ ExT w es' T := fun i o es' he => by
        obtain ⟨u', h1, T, h3, h4, h5, h6⟩ := hU.cell i o _ he
        refine ⟨T, ?_, h5, h6⟩
        unfold kidAt
        rw [h1, h3]; rfl
      have hself : ∀ x, Sealed w σ (n + 1) (n + 1 + cntRs es) x → x ≠ b := by
        rintro x ⟨c', t', fz', m, a1, a2, a3, a4⟩ rfl
        rw [hb] at a1; cases a1
        omega
      refine ⟨some (mkT (.slice (some ⟨b, off, none⟩) es.length cap) U), ⟨_, rfl, ⟨_, rfl⟩, rfl, ?_⟩, fun T hT' x hx => ?_⟩
      · refine .mk b off cap z es _ c t (fun i o => vals (i * z + o)) (fun i o => (kidAt U i o).getD undef) rfl hne hcap hrl hb hfit (fun i o d hd => ?_) (fun i o d hd => ?_) (fun i o es' he => ?_) (fun i o es' he => ?_) (fun i o u hu hb' => ?_) (fun i o i' o' u u' x hio hu hu' h1 h2 => ?_) (fun i o u hu => ?_)
        · obtain ⟨hi, ho⟩ := cell_row hd
          rw [hrl _ (List.getElem_mem hi)] at ho
          refine hc _ ?_
          have : (i + 1) * z ≤ es.length * z := Nat.mul_le_mul_right _ hi
          rw [Nat.add_mul, Nat.one_mul] at this
          omega
        · obtain ⟨u, h1, h2⟩ := hU.cell i o d hd
          cases d <;> first | exact .inl ⟨_, rfl⟩ | exact .inr h2.2
        · obtain ⟨T, h1, h2, h3⟩ := hcell i o es' he
          rw [hkid, h1]
          exact ⟨rfl, h2⟩
        · obtain ⟨T, h1, h2, h3⟩ := hcell i o es' he
          rw [h1]; exact h3
        · rw [hkid] at hu
          exact hself b (hU.own i o u hu b hb') rfl
        · rw [hkid] at hu hu'
          exact hU.apart i o i' o' u u' x hio hu hu' h1 h2
        · rw [hkid] at hu
          exact hU.kid i o u hu
      · cases hT'
        cases hx with
        | here h1 h2 => rw [hdr_mkT] at h1; cases h1; exact ⟨c, t, (0, 0), n, hb, hσ, Nat.le_refl _, by rw [cntD]; omega⟩
        | kid h1 h2 =>
          rw [hkid] at h1
          exact (hU.own _ _ _ h1 _ h2).mono (by omega) (by rw [cntD]; omega)
  | .ol m es, n, v, hp, h => by simp [plD] at hp
  | .b x, n, v, hp, h => by rw [labD] at h; cases h; exact ⟨none, ⟨rfl, rfl⟩, fun T h => by cases h⟩
  | .i k x, n, v, hp, h => by rw [labD] at h; cases h; exact ⟨none, ⟨rfl, rfl⟩, fun T h => by cases h⟩
  | .s l, n, v, hp, h => by rw [labD] at h; cases h; exact ⟨none, ⟨rfl, rfl⟩, fun T h => by cases h⟩
  | .o u, n, v, hp, h => by simp [plD] at hp
theorem lab_R : ∀ (r : List D) (n : Nat) (vals : Nat → Value), plR r = true → (∀ (j : Nat) (d : D), (labR r n)[j]? = some d → RepD w σ d (vals j)) → ∃ us, RowT w σ r n (n + cntR r) vals us
  | [], n, vals, hp, h => ⟨[], rfl, fun j d h => by simp at h, fun j u h => by simp at h, fun j j' u u' b _ h => by simp at h⟩
  | d :: r, n, vals, hp, h => by
    rw [plR, Bool.and_eq_true] at hp
    rw [labR] at h
    obtain ⟨u, h1, h2⟩ := lab_D d n (vals 0) hp.1 (h 0 _ rfl)
    obtain ⟨us, hus⟩ := lab_R r (n + cntD d) (fun j => vals (j + 1)) hp.2 fun j x hx => h (j + 1) x hx
    rw [cntR]
    have hown : ∀ (j : Nat) (T : Value), us[j]? = some (some T) → ∀ b, Owns T b → Sealed w σ (n + cntD d) (n + cntD d + cntR r) b := hus.own
    refine ⟨u :: us, by rw [List.length_cons, List.length_cons, hus.len], fun j x hx => ?_, fun j T hT b hb => ?_, fun j j' T T' b hj hT hT' hb hb' => ?_⟩
    · cases j with
      | zero => simp at hx; subst hx; exact ⟨u, rfl, h1⟩
      | succ j => exact hus.cell j x hx
    · cases j with
      | zero => simp at hT; exact (h2 T hT b hb).mono (Nat.le_refl _) (by omega)
      | succ j => exact (hown j T hT b hb).mono (by omega) (by omega)
    · cases j with
      | zero =>
        cases j' with
        | zero => exact hj rfl
        | succ j' => simp at hT; exact (h2 T hT b hb).apart (hown j' T' hT' b hb') (Nat.le_refl _)
      | succ j =>
        cases j' with
        | zero => simp at hT'; exact (h2 T' hT' b hb').apart (hown j T hT b hb) (Nat.le_refl _)
        | succ j' => exact hus.apart j j' T T' b (by omega) hT hT' hb hb'
theorem lab_Rs : ∀ (rs : List (List D)) (n z : Nat) (vals : Nat → Value), (∀ r ∈ rs, r.length = z) → plRs rs = true → (∀ (j : Nat) (d : D), (labRs rs n).flatten[j]? = some d → RepD w σ d (vals j)) → ∃ U, RowsT w σ z rs n (n + cntRs rs) vals U
  | [], n, z, vals, hz, hp, h => ⟨[], fun i o d h => by simp [cellAt] at h, fun i o u h => by simp [kidAt] at h, fun i o u h => by simp [kidAt] at h, fun i o i' o' u u' b _ h => by simp [kidAt] at h⟩
  | r :: rs, n, z, vals, hz, hp, h => by
    rw [plRs, Bool.and_eq_true] at hp
    rw [labRs, List.flatten_cons] at h
    have hrz : r.length = z := hz r (by simp)
    obtain ⟨us, hus⟩ := lab_R r n vals hp.1 fun j d hd => h j d (by rw [List.getElem?_append_left (List.getElem?_eq_some_iff.1 hd).1]; exact hd)
    obtain ⟨U, hU⟩ := lab_Rs rs (n + cntR r) z (fun j => vals (z + j)) (fun r hr => hz r (by simp [hr])) hp.2 fun j d hd => h (z + j) d (by
      rw [List.getElem?_append_right (by rw [labR_length]; omega), labR_length, hrz, Nat.add_sub_cancel_left]; exact hd)
    rw [cntRs]
    have hown : ∀ (i o : Nat) (T : Value), kidAt U i o = some T → ∀ b, Owns T b → Sealed w σ (n + cntR r) (n + cntR r + cntRs rs) b := hU.own
    refine ⟨us :: U, fun i o d hd => ?_, fun i o u hu => ?_, fun i o T hT b hb => ?_, fun i o i' o' T T' b hio hT hT' hb hb' => ?_⟩
    · cases i with
      | zero =>
        obtain ⟨u, h1, h2⟩ := hus.cell o d hd
        exact ⟨u, h1, by rw [Nat.zero_mul, Nat.zero_add]; exact h2⟩
      | succ i =>
        obtain ⟨u, h1, h2⟩ := hU.cell i o d hd
        exact ⟨u, h1, by rw [show (i + 1) * z + o = z + (i * z + o) by rw [Nat.add_mul]; omega]; exact h2⟩
    · cases i with
      | zero =>
        rw [kidAt_zero] at hu
        have ho : o < r.length := by rw [← hus.len]; exact (List.getElem?_eq_some_iff.1 hu).1
        obtain ⟨u', h1, h2⟩ := hus.cell o r[o] (List.getElem?_eq_getElem ho)
        rw [hu] at h1; cases h1
        have hc : cellAt (r :: rs) 0 o = some r[o] := List.getElem?_eq_getElem ho
        rw [hc]
        generalize r[o] = d at h2
        cases d <;> first | exact ⟨_, rfl⟩ | (cases h2.1)
      | succ i => exact hU.kid i o u hu
    · cases i with
      | zero => rw [kidAt_zero] at hT; exact (hus.own o T hT b hb).mono (Nat.le_refl _) (by omega)
      | succ i => exact (hown i o T hT b hb).mono (by omega) (by omega)
    · cases i with
      | zero =>
        rw [kidAt_zero] at hT
        cases i' with
        | zero => rw [kidAt_zero] at hT'; exact hus.apart o o' T T' b (fun e => hio (by rw [e])) hT hT' hb hb'
        | succ i' => exact (hus.own o T hT b hb).apart (hown i' o' T' hT' b hb') (Nat.le_refl _)
      | succ i =>
        cases i' with
        | zero => rw [kidAt_zero] at hT'; exact (hus.own o' T' hT' b hb').apart (hown i o T hT b hb) (Nat.le_refl _)
        | succ i' => exact hU.apart i o i' o' T T' b (fun e => hio (by cases e; rfl)) hT hT' hb hb'
end
end
end Go.Ab

namespace Go.Ab
section
variable {P : Program} {w w' : World} {σ σ' : Nat → Nat} {S : Store} {β : Hs}
def rootD : D → List (List D)
  | .sl es => es
  | _ => []
def cellX (k : Key) (j : Nat) : D → C
  | .sl _ => .xp k j []
  | d => .d d
/-- A row's cells, its slices as roots of a forest. -/
def rowX (k : Key) : Nat → List D → List C
  | _, [] => []
  | j, d :: ds => cellX k j d :: rowX k (j + 1) ds
theorem rowX_length {k : Key} : ∀ (j : Nat) (r : List D), (rowX k j r).length = r.length
  | _, [] => rfl
  | j, d :: ds => by rw [rowX, List.length_cons, rowX_length, List.length_cons]
theorem rowX_at {k : Key} : ∀ (r : List D) (j i : Nat), (rowX k j r)[i]? = (r[i]?).map (cellX k (j + i))
  | [], j, i => by simp [rowX]
  | d :: ds, j, 0 => rfl
  | d :: ds, j, i + 1 => by
    rw [rowX, List.getElem?_cons_succ, List.getElem?_cons_succ, rowX_at ds (j + 1) i, show j + 1 + i = j + (i + 1) by omega]
/-- What is data in a value. -/
def pureC : C → C
  | .d x => .d x
  | .fsl es => .d (.sl es)
  | .tsl _ es => .d (.sl es)
  | .lfl n es => .d (.ol n es)
  | .rptr cs => .rptr cs
  | _ => .any
def pureV : V → V
  | .c x => .c (pureC x)
  | .agg cs => .agg (cs.map pureC)
  | _ => .any
theorem pure_repC {c : C} {v : Value} (h : RepC w σ S β c v) (S' : Store) (β' : Hs) : RepC w σ S' β' (pureC c) v := by
  cases c with
  | d x => exact h
  | fsl es => exact h.1
  | tsl k es => exact h.1
  | lfl n es => exact h.1
  | rptr cs => exact h
  | _ => trivial
theorem pure_rep {x : V} {v : Value} (h : RepV w σ S β x v) (S' : Store) (β' : Hs) : RepV w σ S' β' (pureV x) v := by
  cases x with
  | c x => exact ⟨pure_repC h.1 _ _, h.2⟩
  | agg cs =>
    obtain ⟨a, ha, hl, hc⟩ := h
    refine ⟨a, ha, by rw [List.length_map]; exact hl, fun i x hx => ?_⟩
    rw [List.getElem?_map] at hx
    cases hi : cs[i]? with
    | none => rw [hi] at hx; cases hx
    | some y =>
      rw [hi] at hx; cases hx
      obtain ⟨u, q1, q2, q3⟩ := hc i y hi
      exact ⟨u, q1, pure_repC q2 _ _, q3⟩
  | _ => trivial
theorem repS_empty (hl : ∀ b, b < w.heap.size ∨ σ b = 0) : RepS w σ [] [] where
  obj := fun k o h => by rw [getO_nil] at h; cases h
  apart := fun k k' o o' h h' b h1 => by rw [getO_nil] at h1; cases h1
  shape := ⟨rfl, fun l fr h => by simp at h⟩
  live := hl
theorem no_own0 {β : Hs} {b : Nat} : ¬ Own [] β b := fun ⟨k, o, h, h1, _⟩ => by rw [getO_nil] at h1; cases h1
/-- How cells stand in a value. -/
def Holder (mk : List C → V) (m : Nat) : Prop := ∀ w σ S β cs v, cs.length = m → RepV w σ S β (mk cs) v → ∃ vs, RepCs w σ S β cs vs ∧ ∀ w' σ' S' β' cs', cs'.length = m → RepCs w' σ' S' β' cs' vs → RepV w' σ' S' β' (mk cs') v
theorem holder_agg {m : Nat} : Holder V.agg m := fun w σ S β cs v _ ⟨a, ha, hc⟩ => ⟨a.toList, hc, fun w' σ' S' β' cs' _ hc' => ⟨a, ha, hc'⟩⟩
def oneV : List C → V
  | [x] => .c x
  | _ => .any
theorem holder_one : Holder oneV 1 := fun w σ S β cs v hl hv => by
  match cs, hl with
  | [x], _ =>
    refine ⟨[v], ⟨rfl, fun j y hj => ?_⟩, fun w' σ' S' β' cs' hl' hc' => ?_⟩
    · cases j with
      | zero => cases hj; exact ⟨v, rfl, hv⟩
      | succ j => simp at hj
    · match cs', hl' with
      | [y], _ =>
        obtain ⟨u, h1, h2⟩ := hc'.2 0 y rfl
        cases h1; exact h2
/-- A plain cell, as one of several results. -/
def plainC : C → Bool
  | .d d => isSD d
  | _ => false
theorem plainC_rep {c : C} {v : Value} (h : plainC c = true) (hr : RepC w σ S β c v) (w' : World) (σ' : Nat → Nat) (S' : Store) (β' : Hs) : RepC w' σ' S' β' c v := by
  cases c with
  | d d => cases d <;> first | (cases h; done) | (cases hr; constructor)
  | _ => cases h
def emptyT : Value := mkT (.slice none 0 0) []
theorem kid_empty (i o : Nat) : kid emptyT i o = none := by
  unfold emptyT
  rw [kid_mkT (fun i o u h => by simp [kidAt] at h)]; simp [kidAt]
theorem owns_empty {b : Nat} : ¬ Owns emptyT b := fun h => by
  cases h with
  | here h1 h2 => cases h1
  | kid h1 h2 => rw [kid_empty] at h1; cases h1
theorem bound_of (σ : Nat → Nat) : ∀ n : Nat, ∃ m, ∀ b, b < n → σ b ≤ m
  | 0 => ⟨0, fun b h => by omega⟩
  | n + 1 => by
    obtain ⟨m, hm⟩ := bound_of σ n
    refine ⟨max m (σ n), fun b hb => ?_⟩
    by_cases e : b = n
    · subst e; omega
    · have := hm b (by omega); omega
open Classical in
/-- A labelled result, for all labels: the caller owns it. -/
theorem ACall.own {f : FuncId} {args : List V} {own0 : List Obj} {Ω : Store} {mk : List C → V} {r : List D} (hm : Holder mk r.length) (hp : plR r = true)
    (h : ∀ n, PCall P f (args.map pureV) (mk ((labR r n).map .d))) :
    ACall P f args (own0 :: Ω) (fun r' S' => r' = mk (rowX (0, own0.length) 0 r) ∧ S' = (own0 ++ [.xf (r.map rootD)]) :: Ω) := by
  refine ⟨(h 0 []).1, fun w σ β vs hS hargs => ?_⟩
  obtain ⟨n, hn⟩ := bound_of σ w.heap.size
  have hargs0 : RepVs w σ [] [] (args.map pureV) vs := by
    refine ⟨by rw [List.length_map]; exact hargs.1, fun j x hx => ?_⟩
    rw [List.getElem?_map] at hx
    cases ha : args[j]? with
    | none => rw [ha] at hx; cases hx
    | some y =>
      rw [ha] at hx; cases hx
      obtain ⟨v, h1, h2⟩ := hargs.2 j y ha
      exact ⟨v, h1, pure_rep h2 _ _⟩
  refine ((h n []).2 w σ [] vs (repS_empty hS.live) hargs0).mono fun e w' ⟨v, r', S', σ', β', he, hS', hk, hst, hv, hr', hS2⟩ => ?_
  subst hr'; subst hS2
  obtain ⟨us0, hcs, hback⟩ := hm w' σ' _ β' _ v (by rw [List.length_map, labR_length]) hv
  have hus0 : us0.length = r.length := by rw [← hcs.1, List.length_map, labR_length]
  obtain ⟨us, hus⟩ := lab_R r n (fun j => us0.getD j undef) hp (fun j d hd => by
    obtain ⟨u, h1, h2, _⟩ := hcs.2 j (.d d) (by rw [List.getElem?_map, hd]; rfl)
    simp only [List.getD_eq_getElem?_getD, h1, Option.getD_some]
    exact h2)
  let h0 : Value := .tuple (us.map fun u => u.getD emptyT).toArray
  have hroot : ∀ j, rootAt h0 j = (us[j]?).map fun u => u.getD emptyT := fun j => by simp [h0, rootAt]
  have hfresh : ∀ b, XOwns h0 b → w.heap.size ≤ b := by
    rintro b ⟨j, T, h1, h2⟩
    rw [hroot] at h1
    cases hu : us[j]? with
    | none => rw [hu] at h1; cases h1
    | some u =>
      rw [hu] at h1
      simp only [Option.map_some, Option.some.injEq] at h1
      cases u with
      | none => subst h1; exact absurd h2 owns_empty
      | some u =>
        simp at h1; subst h1
        obtain ⟨c, t, fz, m, a1, a2, a3, a4⟩ := hus.own j u hu b h2
        refine Nat.le_of_not_lt fun hlt => ?_
        have h1 := (hst.far b hlt no_own0).2
        have h2 := hn b hlt
        omega
  let σ2 : Nat → Nat := fun b => if XOwns h0 b then 0 else σ' b
  have hg : Grow w σ w' σ2 := ⟨hst.size, hst.os, hst.output, fun b hb => by
    obtain ⟨h1, h2⟩ := hst.far b hb no_own0
    exact ⟨h1, (if_neg fun hx => by have := hfresh b hx; omega).trans h2⟩, fun b => by
    rcases hS'.live b with hb | hb
    · exact .inl hb
    · right; show (if XOwns h0 b then 0 else σ' b) = 0; rw [hb]; split <;> rfl⟩
  cases β with
  | nil => have := hS.shape.1; simp at this
  | cons bo bΩ =>
  have hlen : bo.length = own0.length := by
    obtain ⟨gr, g1, g2⟩ := hS.shape.2 0 own0 rfl
    simp at g1; rw [g1]; exact g2
  obtain ⟨hS3, hk3, hst3⟩ := hS.push (o := .xf (r.map rootD)) (h := h0) hg hlen (by
    refine ⟨fun j es hj => ?_, fun j T hT => ?_, fun b hb => if_pos hb, fun j j' T T' x hjj hT hT' hx hx' => ?_⟩
    · rw [List.getElem?_map] at hj
      cases hd : r[j]? with
      | none => rw [hd] at hj; cases hj
      | some d =>
        rw [hd] at hj
        simp only [Option.map_some, Option.some.injEq] at hj
        subst hj
        obtain ⟨u, h1, h2⟩ := hus.cell j d hd
        rw [hroot, h1]
        have hsc : (∀ es, d ≠ .sl es) → ∃ T, Option.map (fun u => Option.getD u emptyT) (some u) = some T ∧ ExT w' (rootD d) T := fun hne => by
          have hu : u = none := by cases d <;> first | exact absurd rfl (hne _) | exact h2.1
          have hr0 : rootD d = [] := by cases d <;> first | exact absurd rfl (hne _) | rfl
          subst hu
          rw [hr0]
          exact ⟨emptyT, rfl, .nil none 0 _ rfl kid_empty⟩
        cases d with
        | sl es => obtain ⟨T, rfl, _, _, h6⟩ := h2; exact ⟨T, rfl, h6⟩
        | _ => exact hsc (fun es e => by cases e)
    · rw [List.length_map]
      rw [hroot] at hT
      cases hu : us[j]? with
      | none => rw [hu] at hT; cases hT
      | some u => rw [← hus.len]; exact (List.getElem?_eq_some_iff.1 hu).1
    · rw [hroot] at hT hT'
      cases hu : us[j]? with
      | none => rw [hu] at hT; cases hT
      | some u =>
        cases hu' : us[j']? with
        | none => rw [hu'] at hT'; cases hT'
        | some u' =>
          rw [hu] at hT; rw [hu'] at hT'
          simp only [Option.map_some, Option.some.injEq] at hT hT'
          cases u with
          | none => subst hT; exact owns_empty hx
          | some u =>
            cases u' with
            | none => subst hT'; exact owns_empty hx'
            | some u' => simp at hT hT'; subst hT; subst hT'; exact hus.apart j j' u u' x hjj hu hu' hx hx') (fun b hb => hfresh b hb)
  refine ⟨v, _, _, σ2, (bo ++ [h0]) :: bΩ, he, hS3, hk3, hst3, ?_, rfl, rfl⟩
  refine hback _ _ _ _ _ (by rw [rowX_length]) ⟨by rw [rowX_length, hus0], fun j x hx => ?_⟩
  rw [rowX_at, Nat.zero_add] at hx
  cases hd : r[j]? with
  | none => rw [hd] at hx; cases hx
  | some d =>
    rw [hd] at hx
    simp only [Option.map_some, Option.some.injEq] at hx
    obtain ⟨u, h1, h2⟩ := hus.cell j d hd
    have hjl : j < (labR r n).length := by rw [labR_length]; exact (List.getElem?_eq_some_iff.1 hd).1
    obtain ⟨v0, h3, _, h4⟩ := hcs.2 j (.d (labR r n)[j]) (by rw [List.getElem?_map, List.getElem?_eq_getElem hjl]; rfl)
    have hv0 : us0.getD j undef = v0 := by rw [List.getD_eq_getElem?_getD, h3]; rfl
    simp only [hv0] at h2
    refine ⟨v0, h3, ?_, h4⟩
    have hsc : (∀ es, d ≠ .sl es) → RepC w' σ2 ((own0 ++ [.xf (r.map rootD)]) :: Ω) ((bo ++ [h0]) :: bΩ) (.d d) v0 := fun hne => by
      have : SD d v0 := by cases d <;> first | exact absurd rfl (hne _) | exact h2.2
      exact rep_SD this
    cases d with
    | sl es =>
      subst hx
      obtain ⟨T, rfl, _, h5, _⟩ := h2
      refine ⟨_, getO_push_new _ _ _, fun rs _ => ⟨h0, by rw [← hlen, getO_push_new], ?_⟩⟩
      unfold hdrAt
      rw [hroot, h1]
      exact h5
    | _ => subst hx; exact hsc (fun es e => by cases e)
end
end Go.Ab

namespace Go.Ab
section
variable {P : Program} {w w' : World} {σ σ' : Nat → Nat} {S : Store} {β : Hs}
/-- What is said of a value when the blocks that are not sealed are counted anew. -/
def Stay (r : V) : Prop := ∀ w σ σ2 S β S2 β2 v, (∀ b c t fz, w.heap[b]? = some (.cells c t fz) → c.size < σ b → σ2 b = σ b) → RepV w σ S β r v → RepV w σ2 S2 β2 r v
mutual
theorem st_D {σ2 : Nat → Nat} (hs : ∀ b c t fz, w.heap[b]? = some (.cells c t fz) → c.size < σ b → σ2 b = σ b) : ∀ (d : D) (n : Nat) (v : Value), plD d = true → RepD w σ (labD d n) v → RepD w σ2 (labD d n) v
  | .sl es, n, v, hp, h => by
    rw [labD] at h ⊢
    have hrec := st_Rs hs es (n + 1)
    generalize labRs es (n + 1) = q at h hrec ⊢
    cases h with
    | onil n a cap => exact .onil n a cap
    | ol n b off cap z q vals c t hcap hlen hb hσ hfit hc hv => exact .ol n b off cap z q vals c t hcap hlen hb ((hs b c t _ hb (by omega)).trans hσ) hfit hc (hrec vals (by simpa [plD] using hp) hv)
  | .ol m es, n, v, hp, h => by simp [plD] at hp
  | .b x, n, v, hp, h => by rw [labD] at h ⊢; cases h; constructor
  | .i k x, n, v, hp, h => by rw [labD] at h ⊢; cases h; constructor
  | .s l, n, v, hp, h => by rw [labD] at h ⊢; cases h; constructor
  | .o u, n, v, hp, h => by simp [plD] at hp
theorem st_R {σ2 : Nat → Nat} (hs : ∀ b c t fz, w.heap[b]? = some (.cells c t fz) → c.size < σ b → σ2 b = σ b) : ∀ (r : List D) (n : Nat) (vals : Nat → Value), plR r = true → (∀ (j : Nat) (d : D), (labR r n)[j]? = some d → RepD w σ d (vals j)) →
    ∀ (j : Nat) (d : D), (labR r n)[j]? = some d → RepD w σ2 d (vals j)
  | [], n, vals, hp, h, j, d, hd => by simp [labR] at hd
  | a :: r, n, vals, hp, h, j, d, hd => by
    rw [plR, Bool.and_eq_true] at hp
    rw [labR] at h hd
    cases j with
    | zero =>
      simp at hd; subst hd
      exact st_D hs a n _ hp.1 (h 0 _ rfl)
    | succ j => exact st_R hs r (n + cntD a) (fun i => vals (i + 1)) hp.2 (fun i d hi => h (i + 1) d hi) j d hd
theorem st_Rs {σ2 : Nat → Nat} (hs : ∀ b c t fz, w.heap[b]? = some (.cells c t fz) → c.size < σ b → σ2 b = σ b) : ∀ (rs : List (List D)) (n : Nat) (vals : Nat → Value), plRs rs = true → (∀ (j : Nat) (d : D), (labRs rs n).flatten[j]? = some d → RepD w σ d (vals j)) →
    ∀ (j : Nat) (d : D), (labRs rs n).flatten[j]? = some d → RepD w σ2 d (vals j)
  | [], n, vals, hp, h, j, d, hd => by simp [labRs] at hd
  | r :: rs, n, vals, hp, h, j, d, hd => by
    rw [plRs, Bool.and_eq_true] at hp
    rw [labRs, List.flatten_cons] at h hd
    by_cases hj : j < (labR r n).length
    · rw [List.getElem?_append_left hj] at hd
      exact st_R hs r n vals hp.1 (fun j d hd => h j d (by rw [List.getElem?_append_left (List.getElem?_eq_some_iff.1 hd).1]; exact hd)) j d hd
    · rw [List.getElem?_append_right (by omega)] at hd
      have := st_Rs hs rs (n + cntR r) (fun i => vals ((labR r n).length + i)) hp.2 (fun j d hd => h _ d (by rw [List.getElem?_append_right (by omega), Nat.add_sub_cancel_left]; exact hd)) (j - (labR r n).length) d hd
      rwa [show (labR r n).length + (j - (labR r n).length) = j by omega] at this
end
theorem stay_plain {c : C} (h : plainC c = true) : Stay (.c c) := fun w σ σ2 S β S2 β2 v _ hv => ⟨plainC_rep h hv.1 _ _ _ _, hv.2⟩
/-- A forest's slice, read as data. -/
theorem ExT.data {es : List (List D)} {T v : Value} (h : ExT w es T) (hv : hdr T = some v) (hσ : ∀ b c t fz, Owns T b → w.heap[b]? = some (.cells c t fz) → c.size ≤ σ b) : RepD w σ (.sl es) v := by
  induction h generalizing v with
  | nil a cap T h hk => rw [h] at hv; cases hv; exact .nil a cap
  | mk b off cap z es T c t vals kids hh hne hcap hlen hb hfit hc hs hk hx hself hap hkid ih =>
    rw [hh] at hv; cases hv
    have hpos : 0 < es.length := List.length_pos_iff.2 hne
    have hfl := flat_len es z hlen
    have hidx : ∀ j, j < es.length * z → ∃ hi : j / z < es.length, j % z < z ∧ j / z * z + j % z = j := fun j hj => by
      have hz : 0 < z := by rcases Nat.eq_zero_or_pos z with h | h; · rw [h] at hj; simp at hj
                            · exact h
      exact ⟨(Nat.div_lt_iff_lt_mul hz).2 hj, Nat.mod_lt _ hz, by rw [Nat.mul_comm]; exact Nat.div_add_mod j z⟩
    have hcell : ∀ j d, es.flatten[j]? = some d → ∃ hi : j / z < es.length, cellAt es (j / z) (j % z) = some d ∧ j / z * z + j % z = j := fun j d hd => by
      have hj : j < es.length * z := by rw [← hfl]; exact (List.getElem?_eq_some_iff.1 hd).1
      obtain ⟨hi, hm, he⟩ := hidx j hj
      refine ⟨hi, ?_, he⟩
      have := flat_get es z hlen (j / z) (j % z) hi hm
      rw [he, hd] at this
      unfold cellAt
      rw [List.getElem?_eq_getElem hi]
      exact this.symm
    refine .sl b off cap z es (fun j => vals (j / z) (j % z)) c t (0, 0) hcap hlen hb (Nat.le_trans hfit (hσ b c t _ (.here hh hpos) hb)) (fun j hj => ?_) (fun j d hd => ?_)
    · obtain ⟨hi, hce, he⟩ := hcell j _ (List.getElem?_eq_getElem (by rw [hfl]; exact hj))
      have := hc _ _ _ hce
      rwa [he] at this
    · obtain ⟨hi, hce, he⟩ := hcell j d hd
      rcases hs _ _ _ hce with ⟨es', rfl⟩ | hsd
      · obtain ⟨k1, k2⟩ := hk _ _ _ hce
        exact ih _ _ _ hce k2 fun b' c' t' fz' ho hb' => hσ b' c' t' fz' (.kid k1 ho) hb'
      · exact rep_SD hsd
/-- What is lent, told as data; all else but data is forgotten. -/
def lendC (k : Key) (rs : List (List (List D))) : C → C
  | .xp k' r [] => if k' = k then (match rs[r]? with | some es => .d (.sl es) | none => .any) else .any
  | .d x => .d x
  | _ => .any
def lendV (k : Key) (rs : List (List (List D))) : V → V
  | .c x => .c (lendC k rs x)
  | .agg cs => .agg (cs.map (lendC k rs))
  | _ => .any
open Classical in
/-- A forest lent to a call that only reads. -/
theorem ACall.lend {f : FuncId} {args : List V} {k : Key} {rs : List (List (List D))} {r : V} (hk : getO S k = some (.xf rs)) (hr : Stay r) (h : PCall P f (args.map (lendV k rs)) r) : ACall P f args S (fun r' S' => r' = r ∧ S' = S) := by
  refine ⟨(h S).1, fun w σ β vs hS hargs => ?_⟩
  obtain ⟨hh, hb, hobj⟩ := hS.obj k _ hk
  obtain ⟨hX1, hX2, hX3, hX4⟩ := hobj
  let siz : Nat → Nat := fun b => match w.heap[b]? with
    | some (.cells c _ _) => c.size
    | _ => 0
  have hsiz : ∀ b c t fz, w.heap[b]? = some (.cells c t fz) → siz b = c.size := fun b c t fz e => by simp [siz, e]
  have hXlt : ∀ b, XOwns hh b → b < w.heap.size := fun b hb' => blk_some (o := .xf rs) (S := S) (β := β) ⟨hX1, hX2, hX3, hX4⟩ hb'
  let σ1 : Nat → Nat := fun b => if XOwns hh b then siz b else σ b
  have hn1 : Near w σ w σ1 := fun b c t fz e => by
    refine ⟨?_, fun hlt => ?_, c, e, rfl, fun _ _ => rfl⟩
    · show σ b ≤ if XOwns hh b then siz b else σ b
      split
      · rename_i hx; rw [hX3 b hx]; exact Nat.zero_le _
      · exact Nat.le_refl _
    · show (if XOwns hh b then siz b else σ b) = σ b
      rw [if_neg fun hx => by have := hX3 b hx; omega]
  have hS1 : RepS w σ1 [] [] := repS_empty fun b => by
    by_cases hx : XOwns hh b
    · exact .inl (hXlt b hx)
    · rcases hS.live b with h' | h'
      · exact .inl h'
      · right; show (if XOwns hh b then siz b else σ b) = 0; rw [if_neg hx]; exact h'
  have hlc : ∀ c v, RepC w σ S β c v → RepC w σ1 [] [] (lendC k rs c) v := by
    intro c v hc
    unfold lendC
    split
    · rename_i k' r'
      split
      · rename_i e
        subst e
        split
        · rename_i es hes
          obtain ⟨o, ho, h2⟩ := hc
          rw [hk] at ho; cases ho
          obtain ⟨h', e1, e2⟩ := h2 rs rfl
          rw [hb] at e1; cases e1
          obtain ⟨T, q1, q2⟩ := hX1 r' es hes
          unfold hdrAt at e2
          rw [q1] at e2
          refine q2.data e2 fun b c t fz ho hb' => ?_
          show c.size ≤ if XOwns hh b then siz b else σ b
          rw [if_pos ⟨r', T, q1, ho⟩, hsiz b c t fz hb']
          exact Nat.le_refl _
        · trivial
      · trivial
    · exact RepD.mono hn1 hc
    · trivial
  have hargs1 : RepVs w σ1 [] [] (args.map (lendV k rs)) vs := by
    refine ⟨by rw [List.length_map]; exact hargs.1, fun j x hx => ?_⟩
    rw [List.getElem?_map] at hx
    cases ha : args[j]? with
    | none => rw [ha] at hx; cases hx
    | some y =>
      rw [ha] at hx; cases hx
      obtain ⟨v, h1, h2⟩ := hargs.2 j y ha
      refine ⟨v, h1, ?_⟩
      cases y with
      | c x => exact ⟨hlc x v h2.1, h2.2⟩
      | agg cs =>
        obtain ⟨a, e, hl, hc⟩ := h2
        refine ⟨a, e, by rw [List.length_map]; exact hl, fun i x hx => ?_⟩
        rw [List.getElem?_map] at hx
        cases hi : cs[i]? with
        | none => rw [hi] at hx; cases hx
        | some y =>
          rw [hi] at hx; cases hx
          obtain ⟨u, q1, q2, q3⟩ := hc i y hi
          exact ⟨u, q1, hlc y u q2, q3⟩
      | _ => trivial
  refine ((h []).2 w σ1 [] vs hS1 hargs1).mono fun e w' ⟨v, r', S', σ', β', he, hS', hk', hst, hv, hr', hS2⟩ => ?_
  subst hr'; subst hS2
  let σ2 : Nat → Nat := fun b => if XOwns hh b then 0 else σ' b
  have hg : Grow w σ w' σ2 := ⟨hst.size, hst.os, hst.output, fun b hlt => by
    obtain ⟨h1, h2⟩ := hst.far b hlt no_own0
    refine ⟨h1, ?_⟩
    show (if XOwns hh b then 0 else σ' b) = σ b
    by_cases hx : XOwns hh b
    · rw [if_pos hx, hX3 b hx]
    · rw [if_neg hx, h2]
      exact if_neg hx, fun b => by
    rcases hS'.live b with h' | h'
    · exact .inl h'
    · right; show (if XOwns hh b then 0 else σ' b) = 0; rw [h']; split <;> rfl⟩
  refine ⟨v, _, _, σ2, β, he, hS.grow hg, Keep.refl _ _, Step.of_grow hg, ?_, rfl, rfl⟩
  refine hr w' σ' σ2 _ _ _ _ v (fun b c t fz e hlt => ?_) hv
  by_cases hx : XOwns hh b
  · obtain ⟨h1, h2⟩ := hst.far b (hXlt b hx) no_own0
    rw [h1] at e
    have : σ1 b = siz b := if_pos hx
    rw [h2, this, hsiz b c t fz e] at hlt
    omega
  · exact if_neg hx
end
end Go.Ab

namespace Go.Ab
section
variable {P : Program} {w w' : World} {σ σ' : Nat → Nat} {S : Store} {β : Hs}
open Classical in
/-- The world with a forest's blocks taken as read. -/
theorem lend_world {args : List V} {k : Key} {rs : List (List (List D))} (hk : getO S k = some (.xf rs)) {vs : List Value} (hS : RepS w σ S β) (hargs : RepVs w σ S β args vs) :
    ∃ (σ1 : Nat → Nat) (X : Nat → Prop), (∀ b, ¬ X b → σ1 b = σ b) ∧ (∀ b, X b → σ b = 0 ∧ b < w.heap.size) ∧ (∀ b c t fz, X b → w.heap[b]? = some (.cells c t fz) → σ1 b ≤ c.size) ∧ RepS w σ1 [] [] ∧ RepVs w σ1 [] [] (args.map (lendV k rs)) vs := by
  obtain ⟨hh, hb, hobj⟩ := hS.obj k _ hk
  obtain ⟨hX1, hX2, hX3, hX4⟩ := hobj
  let siz : Nat → Nat := fun b => match w.heap[b]? with
    | some (.cells c _ _) => c.size
    | _ => 0
  have hsiz : ∀ b c t fz, w.heap[b]? = some (.cells c t fz) → siz b = c.size := fun b c t fz e => by simp [siz, e]
  have hXlt : ∀ b, XOwns hh b → b < w.heap.size := fun b hb' => blk_some (o := .xf rs) (S := S) (β := β) ⟨hX1, hX2, hX3, hX4⟩ hb'
  let σ1 : Nat → Nat := fun b => if XOwns hh b then siz b else σ b
  have hn1 : Near w σ w σ1 := fun b c t fz e => by
    refine ⟨?_, fun hlt => ?_, c, e, rfl, fun _ _ => rfl⟩
    · show σ b ≤ if XOwns hh b then siz b else σ b
      split
      · rename_i hx; rw [hX3 b hx]; exact Nat.zero_le _
      · exact Nat.le_refl _
    · show (if XOwns hh b then siz b else σ b) = σ b
      rw [if_neg fun hx => by have := hX3 b hx; omega]
  have hS1 : RepS w σ1 [] [] := repS_empty fun b => by
    by_cases hx : XOwns hh b
    · exact .inl (hXlt b hx)
    · rcases hS.live b with h' | h'
      · exact .inl h'
      · right; show (if XOwns hh b then siz b else σ b) = 0; rw [if_neg hx]; exact h'
  have hlc : ∀ c v, RepC w σ S β c v → RepC w σ1 [] [] (lendC k rs c) v := by
    intro c v hc
    unfold lendC
    split
    · rename_i k' r'
      split
      · rename_i e
        subst e
        split
        · rename_i es hes
          obtain ⟨o, ho, h2⟩ := hc
          rw [hk] at ho; cases ho
          obtain ⟨h', e1, e2⟩ := h2 rs rfl
          rw [hb] at e1; cases e1
          obtain ⟨T, q1, q2⟩ := hX1 r' es hes
          unfold hdrAt at e2
          rw [q1] at e2
          refine q2.data e2 fun b c t fz ho hb' => ?_
          show c.size ≤ if XOwns hh b then siz b else σ b
          rw [if_pos ⟨r', T, q1, ho⟩, hsiz b c t fz hb']
          exact Nat.le_refl _
        · trivial
      · trivial
    · exact RepD.mono hn1 hc
    · trivial
  have hargs1 : RepVs w σ1 [] [] (args.map (lendV k rs)) vs := by
    refine ⟨by rw [List.length_map]; exact hargs.1, fun j x hx => ?_⟩
    rw [List.getElem?_map] at hx
    cases ha : args[j]? with
    | none => rw [ha] at hx; cases hx
    | some y =>
      rw [ha] at hx; cases hx
      obtain ⟨v, h1, h2⟩ := hargs.2 j y ha
      refine ⟨v, h1, ?_⟩
      cases y with
      | c x => exact ⟨hlc x v h2.1, h2.2⟩
      | agg cs =>
        obtain ⟨a, e, hl, hc⟩ := h2
        refine ⟨a, e, by rw [List.length_map]; exact hl, fun i x hx => ?_⟩
        rw [List.getElem?_map] at hx
        cases hi : cs[i]? with
        | none => rw [hi] at hx; cases hx
        | some y =>
          rw [hi] at hx; cases hx
          obtain ⟨u, q1, q2, q3⟩ := hc i y hi
          exact ⟨u, q1, hlc y u q2, q3⟩
      | _ => trivial
  exact ⟨σ1, fun b => XOwns hh b, fun b hx => if_neg hx, fun b hx => ⟨hX3 b hx, hXlt b hx⟩, fun b c t fz hx e => by
    show (if XOwns hh b then siz b else σ b) ≤ c.size
    rw [if_pos hx, hsiz b c t fz e]
    exact Nat.le_refl _, hS1, hargs1⟩
open Classical in
/-- A labelled result, for all labels, of a call that a forest is lent to: the caller owns it. -/
theorem ACall.ownL {f : FuncId} {args : List V} {own0 : List Obj} {Ω : Store} {mk : List C → V} {r : List D} {k : Key} {rs : List (List (List D))} (hk : getO (own0 :: Ω) k = some (.xf rs)) (hm : Holder mk r.length) (hp : plR r = true)
    (h : ∀ n, PCall P f (args.map (lendV k rs)) (mk ((labR r n).map .d))) :
    ACall P f args (own0 :: Ω) (fun r' S' => r' = mk (rowX (0, own0.length) 0 r) ∧ S' = (own0 ++ [.xf (r.map rootD)]) :: Ω) := by
  refine ⟨(h 0 []).1, fun w σ β vs hS hargs => ?_⟩
  obtain ⟨σ1, X, hl1, hl2, hl3, hS1, hargs1⟩ := lend_world hk hS hargs
  obtain ⟨n, hn⟩ := bound_of σ1 w.heap.size
  refine ((h n []).2 w σ1 [] vs hS1 hargs1).mono fun e w' ⟨v, r', S', σ', β', he, hS', hk, hst, hv, hr', hS2⟩ => ?_
  subst hr'; subst hS2
  obtain ⟨us0, hcs, hback⟩ := hm w' σ' _ β' _ v (by rw [List.length_map, labR_length]) hv
  have hus0 : us0.length = r.length := by rw [← hcs.1, List.length_map, labR_length]
  obtain ⟨us, hus⟩ := lab_R r n (fun j => us0.getD j undef) hp (fun j d hd => by
    obtain ⟨u, h1, h2, _⟩ := hcs.2 j (.d d) (by rw [List.getElem?_map, hd]; rfl)
    simp only [List.getD_eq_getElem?_getD, h1, Option.getD_some]
    exact h2)
  let h0 : Value := .tuple (us.map fun u => u.getD emptyT).toArray
  have hroot : ∀ j, rootAt h0 j = (us[j]?).map fun u => u.getD emptyT := fun j => by simp [h0, rootAt]
  have hfresh : ∀ b, XOwns h0 b → w.heap.size ≤ b := by
    rintro b ⟨j, T, h1, h2⟩
    rw [hroot] at h1
    cases hu : us[j]? with
    | none => rw [hu] at h1; cases h1
    | some u =>
      rw [hu] at h1
      simp only [Option.map_some, Option.some.injEq] at h1
      cases u with
      | none => subst h1; exact absurd h2 owns_empty
      | some u =>
        simp at h1; subst h1
        obtain ⟨c, t, fz, m, a1, a2, a3, a4⟩ := hus.own j u hu b h2
        refine Nat.le_of_not_lt fun hlt => ?_
        have h1 := (hst.far b hlt no_own0).2
        have h2 := hn b hlt
        omega
  let σ2 : Nat → Nat := fun b => if XOwns h0 b then 0 else if X b then 0 else σ' b
  have hg : Grow w σ w' σ2 := ⟨hst.size, hst.os, hst.output, fun b hb => by
    obtain ⟨h1, h2⟩ := hst.far b hb no_own0
    refine ⟨h1, (if_neg fun hx => by have := hfresh b hx; omega).trans ?_⟩
    by_cases hx : X b
    · rw [if_pos hx, (hl2 b hx).1]
    · rw [if_neg hx, h2, hl1 b hx], fun b => by
    rcases hS'.live b with hb | hb
    · exact .inl hb
    · right; show (if XOwns h0 b then 0 else if X b then 0 else σ' b) = 0; rw [hb]; split <;> first | rfl | (split <;> rfl)⟩
  cases β with
  | nil => have := hS.shape.1; simp at this
  | cons bo bΩ =>
  have hlen : bo.length = own0.length := by
    obtain ⟨gr, g1, g2⟩ := hS.shape.2 0 own0 rfl
    simp at g1; rw [g1]; exact g2
  obtain ⟨hS3, hk3, hst3⟩ := hS.push (o := .xf (r.map rootD)) (h := h0) hg hlen (by
    refine ⟨fun j es hj => ?_, fun j T hT => ?_, fun b hb => if_pos hb, fun j j' T T' x hjj hT hT' hx hx' => ?_⟩
    · rw [List.getElem?_map] at hj
      cases hd : r[j]? with
      | none => rw [hd] at hj; cases hj
      | some d =>
        rw [hd] at hj
        simp only [Option.map_some, Option.some.injEq] at hj
        subst hj
        obtain ⟨u, h1, h2⟩ := hus.cell j d hd
        rw [hroot, h1]
        have hsc : (∀ es, d ≠ .sl es) → ∃ T, Option.map (fun u => Option.getD u emptyT) (some u) = some T ∧ ExT w' (rootD d) T := fun hne => by
          have hu : u = none := by cases d <;> first | exact absurd rfl (hne _) | exact h2.1
          have hr0 : rootD d = [] := by cases d <;> first | exact absurd rfl (hne _) | rfl
          subst hu
          rw [hr0]
          exact ⟨emptyT, rfl, .nil none 0 _ rfl kid_empty⟩
        cases d with
        | sl es => obtain ⟨T, rfl, _, _, h6⟩ := h2; exact ⟨T, rfl, h6⟩
        | _ => exact hsc (fun es e => by cases e)
    · rw [List.length_map]
      rw [hroot] at hT
      cases hu : us[j]? with
      | none => rw [hu] at hT; cases hT
      | some u => rw [← hus.len]; exact (List.getElem?_eq_some_iff.1 hu).1
    · rw [hroot] at hT hT'
      cases hu : us[j]? with
      | none => rw [hu] at hT; cases hT
      | some u =>
        cases hu' : us[j']? with
        | none => rw [hu'] at hT'; cases hT'
        | some u' =>
          rw [hu] at hT; rw [hu'] at hT'
          simp only [Option.map_some, Option.some.injEq] at hT hT'
          cases u with
          | none => subst hT; exact owns_empty hx
          | some u =>
            cases u' with
            | none => subst hT'; exact owns_empty hx'
            | some u' => simp at hT hT'; subst hT; subst hT'; exact hus.apart j j' u u' x hjj hu hu' hx hx') (fun b hb => hfresh b hb)
  refine ⟨v, _, _, σ2, (bo ++ [h0]) :: bΩ, he, hS3, hk3, hst3, ?_, rfl, rfl⟩
  refine hback _ _ _ _ _ (by rw [rowX_length]) ⟨by rw [rowX_length, hus0], fun j x hx => ?_⟩
  rw [rowX_at, Nat.zero_add] at hx
  cases hd : r[j]? with
  | none => rw [hd] at hx; cases hx
  | some d =>
    rw [hd] at hx
    simp only [Option.map_some, Option.some.injEq] at hx
    obtain ⟨u, h1, h2⟩ := hus.cell j d hd
    have hjl : j < (labR r n).length := by rw [labR_length]; exact (List.getElem?_eq_some_iff.1 hd).1
    obtain ⟨v0, h3, _, h4⟩ := hcs.2 j (.d (labR r n)[j]) (by rw [List.getElem?_map, List.getElem?_eq_getElem hjl]; rfl)
    have hv0 : us0.getD j undef = v0 := by rw [List.getD_eq_getElem?_getD, h3]; rfl
    simp only [hv0] at h2
    refine ⟨v0, h3, ?_, h4⟩
    have hsc : (∀ es, d ≠ .sl es) → RepC w' σ2 ((own0 ++ [.xf (r.map rootD)]) :: Ω) ((bo ++ [h0]) :: bΩ) (.d d) v0 := fun hne => by
      have : SD d v0 := by cases d <;> first | exact absurd rfl (hne _) | exact h2.2
      exact rep_SD this
    cases d with
    | sl es =>
      subst hx
      obtain ⟨T, rfl, _, h5, _⟩ := h2
      refine ⟨_, getO_push_new _ _ _, fun rs _ => ⟨h0, by rw [← hlen, getO_push_new], ?_⟩⟩
      unfold hdrAt
      rw [hroot, h1]
      exact h5
    | _ => subst hx; exact hsc (fun es e => by cases e)
/-! ### a forest, written at a path -/
theorem atP_updP : ∀ {p : List (Nat × Nat)} {es old new : List (List D)}, atP es p = some old → atP (updP es p new) p = some new
  | [], _, _, _, _ => rfl
  | (i, o) :: p, es, old, new, h => by
    rw [atP] at h
    rw [updP]
    cases hc : cellAt es i o with
    | none => rw [hc] at h; cases h
    | some d =>
      rw [hc] at h
      cases d with
      | sl es' =>
        simp only at h ⊢
        have hi : i < es.length ∧ o < (es.getD i []).length := by
          unfold cellAt at hc
          cases he : es[i]? with
          | none => rw [he] at hc; cases hc
          | some r =>
            rw [he] at hc
            refine ⟨(List.getElem?_eq_some_iff.1 he).1, ?_⟩
            rw [List.getD_eq_getElem?_getD, he]
            exact (List.getElem?_eq_some_iff.1 hc).1
        have h2 : cellAt (es.set i ((es.getD i []).set o (.sl (updP es' p new)))) i o = some (.sl (updP es' p new)) := by
          unfold cellAt
          rw [List.getElem?_set_self hi.1, Option.bind_some, List.getElem?_set_self hi.2]
        rw [atP, h2]
        exact atP_updP h
      | _ => cases h
theorem updP_at {es es' new : List (List D)} {i o : Nat} {p : List (Nat × Nat)} (h : cellAt es i o = some (.sl es')) : updP es ((i, o) :: p) new = es.set i ((es.getD i []).set o (.sl (updP es' p new))) := by
  rw [updP, h]
theorem updP_updP : ∀ {p : List (Nat × Nat)} {es old a b : List (List D)}, atP es p = some old → updP (updP es p a) p b = updP es p b
  | [], _, _, _, _, _ => rfl
  | (i, o) :: p, es, old, a, b, h => by
    rw [atP] at h
    cases hc : cellAt es i o with
    | none => rw [hc] at h; cases h
    | some d =>
      rw [hc] at h
      cases d with
      | sl es' =>
        simp only at h ⊢
        have hi : i < es.length ∧ o < (es.getD i []).length := by
          unfold cellAt at hc
          cases he : es[i]? with
          | none => rw [he] at hc; cases hc
          | some r =>
            rw [he] at hc
            refine ⟨(List.getElem?_eq_some_iff.1 he).1, ?_⟩
            rw [List.getD_eq_getElem?_getD, he]
            exact (List.getElem?_eq_some_iff.1 hc).1
        have h2 : cellAt (es.set i ((es.getD i []).set o (.sl (updP es' p a)))) i o = some (.sl (updP es' p a)) := by
          unfold cellAt
          rw [List.getElem?_set_self hi.1, Option.bind_some, List.getElem?_set_self hi.2]
        rw [updP_at hc, updP_at hc, updP_at h2, updP_updP h, List.set_set]
        congr 1
        rw [List.getD_eq_getElem?_getD, List.getElem?_set_self hi.1, Option.getD_some, List.set_set]
      | _ => cases h
theorem atP_snoc : ∀ {p : List (Nat × Nat)} {es old es' : List (List D)} {i o : Nat}, atP es p = some old → cellAt old i o = some (.sl es') → atP es (p ++ [(i, o)]) = some es'
  | [], es, old, es', i, o, h, hc => by cases h; rw [List.nil_append, atP, hc]; rfl
  | (i', o') :: p, es, old, es', i, o, h, hc => by
    rw [List.cons_append, atP]
    rw [atP] at h
    cases hd : cellAt es i' o' with
    | none => rw [hd] at h; cases h
    | some d =>
      rw [hd] at h
      cases d with
      | sl e => exact atP_snoc h hc
      | _ => cases h
theorem updP_snoc : ∀ {p : List (Nat × Nat)} {es old es' new : List (List D)} {i o : Nat}, atP es p = some old → cellAt old i o = some (.sl es') → updP es (p ++ [(i, o)]) new = updP es p (old.set i ((old.getD i []).set o (.sl new)))
  | [], es, old, es', new, i, o, h, hc => by cases h; rw [List.nil_append, updP_at hc]; rfl
  | (i', o') :: p, es, old, es', new, i, o, h, hc => by
    rw [List.cons_append]
    rw [atP] at h
    cases hd : cellAt es i' o' with
    | none => rw [hd] at h; cases h
    | some d =>
      rw [hd] at h
      cases d with
      | sl e => simp only at h; rw [updP_at hd, updP_at hd, updP_snoc h hc]
      | _ => cases h
theorem atR_lt {rs : List (List (List D))} {r : Nat} {p : List (Nat × Nat)} {old : List (List D)} (h : atR rs r p = some old) : ∃ hr : r < rs.length, atP rs[r] p = some old := by
  unfold atR at h
  cases hr : rs[r]? with
  | none => rw [hr] at h; cases h
  | some es =>
    rw [hr] at h
    obtain ⟨h1, h2⟩ := List.getElem?_eq_some_iff.1 hr
    exact ⟨h1, by rw [h2]; exact h⟩
theorem atR_updR {rs : List (List (List D))} {r : Nat} {p : List (Nat × Nat)} {old new : List (List D)} (h : atR rs r p = some old) : atR (updR rs r p new) r p = some new := by
  obtain ⟨hr, h⟩ := atR_lt h
  unfold atR updR
  rw [List.getElem?_set_self hr, Option.bind_some, List.getD_eq_getElem?_getD, List.getElem?_eq_getElem hr, Option.getD_some]
  exact atP_updP h
theorem updR_updR {rs : List (List (List D))} {r : Nat} {p : List (Nat × Nat)} {old a b : List (List D)} (h : atR rs r p = some old) : updR (updR rs r p a) r p b = updR rs r p b := by
  obtain ⟨hr, h⟩ := atR_lt h
  unfold updR
  rw [List.set_set, List.getD_eq_getElem?_getD, List.getElem?_set_self hr, List.getD_eq_getElem?_getD, List.getElem?_eq_getElem hr, Option.getD_some, Option.getD_some, updP_updP h]
theorem updP_same : ∀ {p : List (Nat × Nat)} {es old : List (List D)}, atP es p = some old → updP es p old = es
  | [], _, _, h => by cases h; rfl
  | (i, o) :: p, es, old, h => by
    rw [atP] at h
    cases hc : cellAt es i o with
    | none => rw [hc] at h; cases h
    | some d =>
      rw [hc] at h
      cases d with
      | sl es' =>
        simp only at h
        rw [updP_at hc, updP_same h]
        unfold cellAt at hc
        cases he : es[i]? with
        | none => rw [he] at hc; cases hc
        | some r =>
          rw [he] at hc
          obtain ⟨h1, h2⟩ := List.getElem?_eq_some_iff.1 he
          obtain ⟨h3, h4⟩ := List.getElem?_eq_some_iff.1 hc
          rw [List.getD_eq_getElem?_getD, he, Option.getD_some, ← h4, List.set_getElem_self, ← h2, List.set_getElem_self]
      | _ => cases h
theorem updR_same {rs : List (List (List D))} {r : Nat} {p : List (Nat × Nat)} {old : List (List D)} (h : atR rs r p = some old) : updR rs r p old = rs := by
  obtain ⟨hr, h⟩ := atR_lt h
  unfold updR
  rw [List.getD_eq_getElem?_getD, List.getElem?_eq_getElem hr, Option.getD_some, updP_same h, List.set_getElem_self]
theorem atR_snoc {rs : List (List (List D))} {r i o : Nat} {p : List (Nat × Nat)} {old es' : List (List D)} (h : atR rs r p = some old) (hc : cellAt old i o = some (.sl es')) : atR rs r (p ++ [(i, o)]) = some es' := by
  obtain ⟨hr, h⟩ := atR_lt h
  unfold atR
  rw [List.getElem?_eq_getElem hr, Option.bind_some]
  exact atP_snoc h hc
theorem updR_snoc {rs : List (List (List D))} {r i o : Nat} {p : List (Nat × Nat)} {old es' new : List (List D)} (h : atR rs r p = some old) (hc : cellAt old i o = some (.sl es')) :
    updR rs r (p ++ [(i, o)]) new = updR rs r p (old.set i ((old.getD i []).set o (.sl new))) := by
  obtain ⟨hr, h⟩ := atR_lt h
  unfold updR
  rw [List.getD_eq_getElem?_getD, List.getElem?_eq_getElem hr, Option.getD_some, updP_snoc h hc]
theorem atR_ne {rs : List (List (List D))} {r r' : Nat} {p p' : List (Nat × Nat)} {new : List (List D)} (h : r ≠ r') : atR (updR rs r p new) r' p' = atR rs r' p' := by
  unfold atR updR
  rw [List.getElem?_set_ne h]
end
end Go.Ab

namespace Go.Ab
def mdig (n : Nat) (out : List UInt8) : List UInt8 := if h : n = 0 then out else mdig (n / 10) (UInt8.ofNat (48 + n % 10) :: out)
termination_by n
decreasing_by omega
def mtext (k : Int) : List UInt8 := if k ≤ 0 then [109, 48] else 109 :: mdig k.toNat []
theorem mdig_zero {out : List UInt8} : mdig 0 out = out := by rw [mdig]; simp
theorem mdig_pos {n : Nat} {out : List UInt8} (h : n ≠ 0) : mdig n out = mdig (n / 10) (UInt8.ofNat (48 + n % 10) :: out) := by rw [mdig]; simp [h]
-- How many marks.
mutual
def mcD : D → Nat
  | .sl es => mcRs es
  | .b _ => 1
  | .i _ _ => 1
  | .s _ => 1
  | .o _ => 0
  | .ol _ _ => 0
def mcR : List D → Nat
  | [] => 0
  | d :: ds => mcD d + mcR ds
def mcRs : List (List D) → Nat
  | [] => 0
  | r :: rs => mcR r + mcRs rs
end
-- The marks from a number on.
mutual
def mkD : D → Int → D
  | .sl es, k => .sl (mkRs es k)
  | .b _, k => .b (decide (k.tmod 3 = 0))
  | .i kd _, k => .i kd k
  | .s _, k => .s (mtext k)
  | .o v, _ => .o v
  | .ol n es, _ => .ol n es
def mkR : List D → Int → List D
  | [], _ => []
  | d :: ds, k => mkD d k :: mkR ds (k + mcD d)
def mkRs : List (List D) → Int → List (List D)
  | [], _ => []
  | r :: rs, k => mkR r k :: mkRs rs (k + mcR r)
end
-- Rows are not long.
mutual
def nwD : D → Bool
  | .sl es => nwRs es
  | .b _ => true
  | .i _ _ => true
  | .s _ => true
  | .o _ => true
  | .ol _ _ => true
def nwR : List D → Bool
  | [] => true
  | d :: ds => nwD d && nwR ds
def nwRs : List (List D) → Bool
  | [] => true
  | r :: rs => decide (r.length ≤ 32) && nwR r && nwRs rs
end
mutual
theorem mc_sz : ∀ d : D, nwD d = true → mcD d ≤ 32 * d.sz + 1
  | .sl es, h => by
    have := mcs_sz es (by simpa [nwD] using h)
    simp only [mcD, D.sz]; omega
  | .b _, _ => by simp [mcD]
  | .i _ _, _ => by simp [mcD]
  | .s _, _ => by simp [mcD]
  | .o _, _ => by simp [mcD]
  | .ol _ _, _ => by simp [mcD]
theorem mcr_sz : ∀ r : List D, nwR r = true → mcR r ≤ 32 * szRow r + r.length
  | [], _ => by simp [mcR]
  | d :: ds, h => by
    rw [nwR, Bool.and_eq_true] at h
    have h1 := mc_sz d h.1
    have h2 := mcr_sz ds h.2
    simp only [mcR, szRow, List.length_cons]; omega
theorem mcs_sz : ∀ rs : List (List D), nwRs rs = true → mcRs rs ≤ 32 * (rs.length + szRows rs)
  | [], _ => by simp [mcRs]
  | r :: rs, h => by
    rw [nwRs, Bool.and_eq_true, Bool.and_eq_true, decide_eq_true_eq] at h
    have h1 := mcr_sz r h.1.2
    have h2 := mcs_sz rs h.2
    simp only [mcRs, szRows, List.length_cons]; omega
end
theorem nwR_append : ∀ a b, nwR (a ++ b) = (nwR a && nwR b)
  | [], b => by simp [nwR]
  | d :: ds, b => by rw [List.cons_append, nwR, nwR, nwR_append ds b, Bool.and_assoc]
theorem nwRs_map {α : Type} {f : α → List D} : ∀ {xs : List α}, (∀ x ∈ xs, nwR (f x) = true ∧ (f x).length ≤ 32) → nwRs (xs.map f) = true
  | [], _ => rfl
  | x :: xs, h => by
    rw [List.map_cons, nwRs, (h x (by simp)).1, nwRs_map fun y hy => h y (by simp [hy]), decide_eq_true (h x (by simp)).2]; rfl
theorem mcRs_append : ∀ a b, mcRs (a ++ b) = mcRs a + mcRs b
  | [], b => by simp [mcRs]
  | d :: ds, b => by rw [List.cons_append, mcRs, mcRs, mcRs_append ds b]; omega
theorem mkRs_append : ∀ a b k, mkRs (a ++ b) k = mkRs a k ++ mkRs b (k + mcRs a)
  | [], b, k => by simp [mkRs, mcRs]
  | d :: ds, b, k => by rw [List.cons_append, mkRs, mkRs, mkRs_append ds b, mcRs]; simp only [List.cons_append, Int.natCast_add, Int.add_assoc]
theorem mkRs_length : ∀ rs k, (mkRs rs k).length = rs.length
  | [], _ => rfl
  | r :: rs, k => by rw [mkRs, List.length_cons, mkRs_length rs, List.length_cons]
theorem take_row {rows : List (List D)} {i : Nat} (hi : i < rows.length) : rows.take (i + 1) = rows.take i ++ [rows[i]] := List.take_succ_eq_append_getElem hi
theorem mcRs_take {rows : List (List D)} {i : Nat} (hi : i < rows.length) : mcRs (rows.take (i + 1)) = mcRs (rows.take i) + mcR rows[i] := by
  rw [take_row hi, mcRs_append]; simp [mcRs]
theorem mcRs_le {rows : List (List D)} {i : Nat} : mcRs (rows.take i) ≤ mcRs rows := by
  have := mcRs_append (rows.take i) (rows.drop i)
  rw [List.take_append_drop] at this
  omega
/-- A row marked up to the i-th. -/
def mkTo (rows : List (List D)) (k : Int) (i : Nat) : List (List D) := mkRs (rows.take i) k ++ rows.drop i
theorem mkTo_zero {rows : List (List D)} {k : Int} : mkTo rows k 0 = rows := by simp [mkTo, mkRs]
theorem mkTo_all {rows : List (List D)} {k : Int} {i : Nat} (h : rows.length ≤ i) : mkTo rows k i = mkRs rows k := by
  unfold mkTo; rw [List.take_of_length_le h, List.drop_of_length_le h, List.append_nil]
theorem mkTo_length {rows : List (List D)} {k : Int} {i : Nat} : (mkTo rows k i).length = rows.length := by
  unfold mkTo; rw [List.length_append, mkRs_length, List.length_take, List.length_drop]; omega
theorem mkTo_get {rows : List (List D)} {k : Int} {i : Nat} (hi : i < rows.length) : (mkTo rows k i).getD i [] = rows[i] := by
  unfold mkTo
  rw [List.getD_eq_getElem?_getD, List.getElem?_append_right (by rw [mkRs_length, List.length_take]; omega), mkRs_length, List.length_take, List.getElem?_drop]
  rw [show i + (i - min i rows.length) = i by omega, List.getElem?_eq_getElem hi]; rfl
theorem mkTo_set {rows : List (List D)} {k : Int} {i : Nat} (hi : i < rows.length) : (mkTo rows k i).set i (mkR rows[i] (k + mcRs (rows.take i))) = mkTo rows k (i + 1) := by
  unfold mkTo
  have hl : (mkRs (rows.take i) k).length = i := by rw [mkRs_length, List.length_take]; omega
  rw [List.set_append_right _ _ (by omega), hl, Nat.sub_self, List.drop_eq_getElem_cons hi, List.set_cons_zero, take_row hi, mkRs_append, List.append_assoc]
  rfl
/-- A row in the making: the ones before it are marked. -/
def mkAt (rows : List (List D)) (k : Int) (i : Nat) (row : List D) : List (List D) := (mkTo rows k i).set i row
theorem mkAt_length {rows : List (List D)} {k : Int} {i : Nat} {row : List D} : (mkAt rows k i row).length = rows.length := by unfold mkAt; rw [List.length_set, mkTo_length]
theorem mkAt_get {rows : List (List D)} {k : Int} {i : Nat} {row : List D} (hi : i < rows.length) : (mkAt rows k i row).getD i [] = row := by
  unfold mkAt
  rw [List.getD_eq_getElem?_getD, List.getElem?_set_self (by rw [mkTo_length]; exact hi)]; rfl
theorem mkAt_cell {rows : List (List D)} {k : Int} {i o : Nat} {row : List D} (hi : i < rows.length) : cellAt (mkAt rows k i row) i o = row[o]? := by
  unfold mkAt cellAt
  rw [List.getElem?_set_self (by rw [mkTo_length]; exact hi), Option.bind_some]
theorem mkAt_set {rows : List (List D)} {k : Int} {i : Nat} {row row' : List D} : (mkAt rows k i row).set i row' = mkAt rows k i row' := by unfold mkAt; rw [List.set_set]
theorem mkTo_at {rows : List (List D)} {k : Int} {i : Nat} (hi : i < rows.length) : mkTo rows k i = mkAt rows k i rows[i] := by
  have h := mkTo_get (k := k) hi
  have hl : i < (mkTo rows k i).length := by rw [mkTo_length]; exact hi
  rw [List.getD_eq_getElem?_getD, List.getElem?_eq_getElem hl, Option.getD_some] at h
  unfold mkAt
  rw [← h, List.set_getElem_self]
theorem mkAt_to {rows : List (List D)} {k : Int} {i : Nat} (hi : i < rows.length) : mkAt rows k i (mkR rows[i] (k + mcRs (rows.take i))) = mkTo rows k (i + 1) := mkTo_set hi
/-- A slice of the row in the making, and the forest with that slice marked. -/
theorem at_mkAt {rs : List (List (List D))} {r : Nat} {p : List (Nat × Nat)} {rows es : List (List D)} {k : Int} {i o : Nat} {row : List D} (hp : atR rs r p = some rows) (hi : i < rows.length) (h : row[o]? = some (.sl es)) :
    atR (updR rs r p (mkAt rows k i row)) r (p ++ [(i, o)]) = some es := atR_snoc (atR_updR hp) (by rw [mkAt_cell hi, h])
theorem upd_mkAt {rs : List (List (List D))} {r : Nat} {p : List (Nat × Nat)} {rows es new : List (List D)} {k : Int} {i o : Nat} {row : List D} (hp : atR rs r p = some rows) (hi : i < rows.length) (h : row[o]? = some (.sl es)) :
    updR (updR rs r p (mkAt rows k i row)) r (p ++ [(i, o)]) new = updR rs r p (mkAt rows k i (row.set o (.sl new))) := by
  rw [updR_snoc (atR_updR hp) (by rw [mkAt_cell hi, h]), updR_updR hp, mkAt_get hi, mkAt_set]
/-- A marked row. -/
theorem mkRs_get : ∀ {rows : List (List D)} {k : Int} {i : Nat} (hi : i < rows.length), (mkRs rows k).getD i [] = mkR rows[i] (k + mcRs (rows.take i))
  | r :: rows, k, 0, _ => by simp [mkRs, mcRs]
  | r :: rows, k, i + 1, hi => by
    have := mkRs_get (rows := rows) (k := k + mcR r) (i := i) (by simpa using hi)
    rw [mkRs, List.getD_cons_succ, this, List.getElem_cons_succ, List.take_succ_cons, mcRs, Int.natCast_add, Int.add_assoc]
theorem len_mc {α : Type} {f : α → List D} (h : ∀ x, 1 ≤ mcR (f x)) : ∀ xs : List α, xs.length ≤ mcRs (xs.map f)
  | [] => Nat.zero_le _
  | x :: xs => by
    have h1 := h x
    have h2 := len_mc h xs
    rw [List.map_cons, mcRs, List.length_cons]
    omega
/-- A slice of the row in the making is marked by a call. -/
theorem sub_mk {P : Program} {f : FuncId} {S : Store} {l j r i o : Nat} {p : List (Nat × Nat)} {rs : List (List (List D))} {rows es new : List (List D)} {row : List D} {k : Int} {args : List V} {R : V}
    (hS : getO S (l, j) = some (.xf rs)) (hp : atR rs r p = some rows) (hi : i < rows.length) (h : row[o]? = some (.sl es))
    (hA : ∀ (S' : Store) (rs' : List (List (List D))), getO S' (1 + l, j) = some (.xf rs') → atR rs' r (p ++ [(i, o)]) = some es → ACall P f args S' (fun res S'' => res = R ∧ S'' = setO S' (1 + l, j) (.xf (updR rs' r (p ++ [(i, o)]) new)))) :
    ACall P f args ([] :: setO S (l, j) (.xf (updR rs r p (mkAt rows k i row)))) (fun res S'' => res = R ∧ S'' = [] :: setO S (l, j) (.xf (updR rs r p (mkAt rows k i (row.set o (.sl new)))))) := by
  refine (hA _ _ (by rw [getO_up1]; exact getO_setO_eq _ _ _ _ hS) (at_mkAt (k := k) hp hi h)).mono fun res S'' ⟨h1, h2⟩ => ⟨h1, ?_⟩
  rw [h2, setO_up1, setO_twice, upd_mkAt hp hi h]
theorem labRs_at : ∀ {rows : List (List D)} {n i : Nat} (hi : i < rows.length), (labRs rows n)[i]? = some (labR rows[i] (n + cntRs (rows.take i)))
  | r :: rows, n, 0, _ => by simp [labRs, cntRs]
  | r :: rows, n, i + 1, hi => by
    have := labRs_at (rows := rows) (n := n + cntR r) (i := i) (by simpa using hi)
    rw [labRs, List.getElem?_cons_succ, this, List.getElem_cons_succ, List.take_succ_cons, cntRs, Nat.add_assoc]
theorem mapM_toD : ∀ row : List D, (row.map C.d).mapM toD = some row
  | [] => rfl
  | d :: row => by
    have := mapM_toD row
    rw [List.map_cons, List.mapM_cons, this]; rfl
theorem dec_neg {a : Int} (h : 0 ≤ a) : decide (a < 0) = false := decide_eq_false (by omega)
end Go.Ab
namespace Go.Proofs.YtnleocfkdidhoaaGreat
open Go Go.Ab
theorem markText_ok (k : Int) (hk : -9223372036854775808 ≤ k ∧ k ≤ 4611686018427387904) : PCall Tryz.prog 170 [.c (.d (.i .i64 k))] (.c (.d (.s (mtext k)))) := fun S => by
  refine acall_cw (rs := [.tmp 2]) Tryz.checked.mixed Tryz.func170 Tryz.ntmps170 rfl rfl rfl rfl rfl ?_
  simp -implicitDefEqProofs (disch := omega) only [go_sem]
  with_reducible refine split2 (fun hb => ?_) (fun hb => ?_) <;> have h := hb <;> (try simp only [wf_preprocess] at h) <;> simp -implicitDefEqProofs (disch := omega) only [go_sem, hb] <;> (repeat (with_reducible refine And.intro ?_ ?_; focus first | omega | rfl | assumption | exact ⟨_, rfl, rfl⟩ | (simp; omega) | (simp; done)))
  · unfold mtext; rw [if_pos h]
  have hpos : ¬ k ≤ 0 := h
  refine loop_at (ι := Int × List UInt8) Tryz.checked.mixed rfl [0, 3] (fun y => [.c (.d (.i .i64 y.1)), .c (.d (.s y.2))]) (fun _ => [] :: S)
    (fun y => 0 ≤ y.1 ∧ mdig y.1.toNat y.2 = mdig k.toNat [] ∧ y.1 ≤ k ∧ y.1.toNat * 2 ^ y.2.length ≤ 4611686018427387904 ∧ y.2.length ≤ 63) (fun y => y.1.toNat) (k, []) rfl rfl ⟨by simp only; omega, rfl, by simp only; omega, by simp only [List.length_nil]; omega, by simp⟩ ?_
  rintro ⟨n, out⟩ ⟨p1, p2, p3, p4, p5⟩
  simp only at p1 p2 p3 p4 p5
  simp -implicitDefEqProofs (disch := omega) only [go_sem]
  with_reducible refine split2 (fun hb => ?_) (fun hb => ?_) <;> have h := hb <;> (try simp only [wf_preprocess] at h) <;> simp -implicitDefEqProofs (disch := omega) only [go_sem, hb] <;> (repeat (with_reducible refine And.intro ?_ ?_; focus first | omega | rfl | assumption | exact ⟨_, rfl, rfl⟩ | (simp; omega) | (simp; done)))
  · have hn : n.toNat ≠ 0 := by omega
    have hm := Int.tmod_nonneg 10 p1
    have hm2 := Int.tmod_lt_of_pos n (show (0 : Int) < 10 by omega)
    have hm3 : n.tmod 10 = (n.toNat % 10 : Nat) := by
      rw [Int.tmod_eq_emod_of_nonneg p1]
      omega
    have hq : n.tdiv 10 = (n.toNat / 10 : Nat) := by
      rw [Int.tdiv_eq_ediv_of_nonneg p1]
      omega
    have hlen : out.length ≤ 62 := by
      refine Nat.le_of_not_lt fun hgt => ?_
      have h1 : 2 ^ 63 ≤ 2 ^ out.length := Nat.pow_le_pow_right (by omega) (by omega)
      have h2 : 1 * 2 ^ out.length ≤ n.toNat * 2 ^ out.length := Nat.mul_le_mul_right _ (by omega)
      omega
    simp -implicitDefEqProofs (disch := omega) only [go_sem]
    have hc : UInt8.ofNat (IntKind.u8.wrap (48 + n.tmod 10)).toNat = UInt8.ofNat (48 + n.toNat % 10) := by
      rw [wrap_u8 _ (by omega), hm3]
      congr 1
    refine inv_at (ι := Int × List UInt8) (n.tdiv 10, UInt8.ofNat (48 + n.toNat % 10) :: out) (by simp only; omega) (by rw [← hc]; rfl) rfl ?_
    have hq2 : (n.tdiv 10).toNat = n.toNat / 10 := by omega
    refine ⟨by simp only; omega, ?_, by simp only; omega, ?_, by simp only [List.length_cons]; omega⟩
    · simp only
      rw [hq2, ← mdig_pos hn, p2]
    · simp only [List.length_cons]
      rw [hq2, Nat.pow_succ]
      have : n.toNat / 10 * 2 ≤ n.toNat := by omega
      calc n.toNat / 10 * (2 ^ out.length * 2) = n.toNat / 10 * 2 * 2 ^ out.length := by rw [Nat.mul_comm (2 ^ out.length) 2, Nat.mul_assoc]
        _ ≤ n.toNat * 2 ^ out.length := Nat.mul_le_mul_right _ this
        _ ≤ _ := p4
  · have : n.toNat = 0 := by omega
    rw [this, mdig_zero] at p2
    unfold mtext
    rw [if_neg hpos, p2]
end Go.Proofs.YtnleocfkdidhoaaGreat

namespace Go.Ab
theorem pl_encS (xs : List (List UInt8)) : plRs (xs.map encS) = true := plRs_map fun _ _ => rfl
theorem nw_encS (xs : List (List UInt8)) : nwRs (xs.map encS) = true := nwRs_map fun _ _ => ⟨rfl, by simp [encS]⟩
mutual
theorem MType.plw : ∀ x : MType, plR x.enc = true ∧ nwR x.enc = true
  | .mk a0 a1 a2 => by simp only [MType.enc, plR, plD, nwR, nwD, plR_append, nwR_append, Bool.and_true, Bool.true_and, Bool.and_self, and_self, and_true, true_and, (MType.plws a2).1, (MType.plws a2).2]
theorem MType.plws : ∀ xs : List MType, plRs (MType.encs xs) = true ∧ nwRs (MType.encs xs) = true
  | [] => ⟨rfl, rfl⟩
  | x :: xs => by
    have h : decide ((MType.enc x).length ≤ 32) = true := by rw [MType.enc_length]; rfl
    simp only [MType.encs, plRs, nwRs, h, (MType.plw x).1, (MType.plw x).2, (MType.plws xs).1, (MType.plws xs).2, Bool.and_self, and_self]
end
theorem MType.plms (xs : List MType) : plRs (xs.map MType.enc) = true ∧ nwRs (xs.map MType.enc) = true := by rw [← MType.encs_map]; exact MType.plws xs
theorem MBinding.plw (x : MBinding) : plR x.enc = true ∧ nwR x.enc = true := by
  rw [MBinding.enc_eq]; simp only [List.cons_append, List.nil_append, plR, plD, nwR, nwD, plR_append, nwR_append, Bool.and_true, Bool.true_and, Bool.and_self, and_self, and_true, true_and, (MType.plw x.fType).1, (MType.plw x.fType).2]
theorem MBinding.plms (xs : List MBinding) : plRs (xs.map MBinding.enc) = true ∧ nwRs (xs.map MBinding.enc) = true := ⟨plRs_map fun x _ => x.plw.1, nwRs_map fun x _ => ⟨x.plw.2, by rw [MBinding.enc_length]; decide⟩⟩
theorem MBound.plw (x : MBound) : plR x.enc = true ∧ nwR x.enc = true := by
  rw [MBound.enc_eq]; simp only [List.cons_append, List.nil_append, plR, plD, nwR, nwD, plR_append, nwR_append, Bool.and_true, Bool.true_and, Bool.and_self, and_self, and_true, true_and, (MType.plw x.fType).1, (MType.plw x.fType).2]
theorem MBound.plms (xs : List MBound) : plRs (xs.map MBound.enc) = true ∧ nwRs (xs.map MBound.enc) = true := ⟨plRs_map fun x _ => x.plw.1, nwRs_map fun x _ => ⟨x.plw.2, by rw [MBound.enc_length]; decide⟩⟩
mutual
theorem MExpr.plw : ∀ x : MExpr, plR x.enc = true ∧ nwR x.enc = true
  | .mk a0 a1 a2 a3 a4 a5 a6 => by simp only [MExpr.enc, plR, plD, nwR, nwD, plR_append, nwR_append, Bool.and_true, Bool.true_and, Bool.and_self, and_self, and_true, true_and, (MType.plw a4).1, (MType.plw a4).2, (MExpr.plws a5).1, (MExpr.plws a5).2, (MArm.plws a6).1, (MArm.plws a6).2]
theorem MExpr.plws : ∀ xs : List MExpr, plRs (MExpr.encs xs) = true ∧ nwRs (MExpr.encs xs) = true
  | [] => ⟨rfl, rfl⟩
  | x :: xs => by
    have h : decide ((MExpr.enc x).length ≤ 32) = true := by rw [MExpr.enc_length]; rfl
    simp only [MExpr.encs, plRs, nwRs, h, (MExpr.plw x).1, (MExpr.plw x).2, (MExpr.plws xs).1, (MExpr.plws xs).2, Bool.and_self, and_self]
theorem MArm.plw : ∀ x : MArm, plR x.enc = true ∧ nwR x.enc = true
  | .mk a0 a1 a2 => by simp only [MArm.enc, plR, plD, nwR, nwD, plR_append, nwR_append, Bool.and_true, Bool.true_and, Bool.and_self, and_self, and_true, true_and, pl_encS a1, nw_encS a1, (MExpr.plw a2).1, (MExpr.plw a2).2]
theorem MArm.plws : ∀ xs : List MArm, plRs (MArm.encs xs) = true ∧ nwRs (MArm.encs xs) = true
  | [] => ⟨rfl, rfl⟩
  | x :: xs => by
    have h : decide ((MArm.enc x).length ≤ 32) = true := by rw [MArm.enc_length]; rfl
    simp only [MArm.encs, plRs, nwRs, h, (MArm.plw x).1, (MArm.plw x).2, (MArm.plws xs).1, (MArm.plws xs).2, Bool.and_self, and_self]
end
theorem MExpr.plms (xs : List MExpr) : plRs (xs.map MExpr.enc) = true ∧ nwRs (xs.map MExpr.enc) = true := by rw [← MExpr.encs_map]; exact MExpr.plws xs
theorem MArm.plms (xs : List MArm) : plRs (xs.map MArm.enc) = true ∧ nwRs (xs.map MArm.enc) = true := by rw [← MArm.encs_map]; exact MArm.plws xs
mutual
theorem MSExpr.plw : ∀ x : MSExpr, plR x.enc = true ∧ nwR x.enc = true
  | .mk a0 a1 => by simp only [MSExpr.enc, plR, plD, nwR, nwD, plR_append, nwR_append, Bool.and_true, Bool.true_and, Bool.and_self, and_self, and_true, true_and, (MSExpr.plws a1).1, (MSExpr.plws a1).2]
theorem MSExpr.plws : ∀ xs : List MSExpr, plRs (MSExpr.encs xs) = true ∧ nwRs (MSExpr.encs xs) = true
  | [] => ⟨rfl, rfl⟩
  | x :: xs => by
    have h : decide ((MSExpr.enc x).length ≤ 32) = true := by rw [MSExpr.enc_length]; rfl
    simp only [MSExpr.encs, plRs, nwRs, h, (MSExpr.plw x).1, (MSExpr.plw x).2, (MSExpr.plws xs).1, (MSExpr.plws xs).2, Bool.and_self, and_self]
end
theorem MSExpr.plms (xs : List MSExpr) : plRs (xs.map MSExpr.enc) = true ∧ nwRs (xs.map MSExpr.enc) = true := by rw [← MSExpr.encs_map]; exact MSExpr.plws xs
theorem MSignature.plw (x : MSignature) : plR x.enc = true ∧ nwR x.enc = true := by
  rw [MSignature.enc_eq]; simp only [List.cons_append, List.nil_append, plR, plD, nwR, nwD, plR_append, nwR_append, Bool.and_true, Bool.true_and, Bool.and_self, and_self, and_true, true_and, (MType.plms x.fParams).1, (MType.plms x.fParams).2, (MType.plw x.fResult).1, (MType.plw x.fResult).2, pl_encS x.fVars, nw_encS x.fVars, (MExpr.plw x.fBody).1, (MExpr.plw x.fBody).2]
theorem MSignature.plms (xs : List MSignature) : plRs (xs.map MSignature.enc) = true ∧ nwRs (xs.map MSignature.enc) = true := ⟨plRs_map fun x _ => x.plw.1, nwRs_map fun x _ => ⟨x.plw.2, by rw [MSignature.enc_length]; decide⟩⟩
theorem MTrait.plw (x : MTrait) : plR x.enc = true ∧ nwR x.enc = true := by
  rw [MTrait.enc_eq]; simp only [List.cons_append, List.nil_append, plR, plD, nwR, nwD, plR_append, nwR_append, Bool.and_true, Bool.true_and, Bool.and_self, and_self, and_true, true_and, pl_encS x.fSupertraits, nw_encS x.fSupertraits, (MSignature.plms x.fSignatures).1, (MSignature.plms x.fSignatures).2]
theorem MTrait.plms (xs : List MTrait) : plRs (xs.map MTrait.enc) = true ∧ nwRs (xs.map MTrait.enc) = true := ⟨plRs_map fun x _ => x.plw.1, nwRs_map fun x _ => ⟨x.plw.2, by rw [MTrait.enc_length]; decide⟩⟩
theorem MConstructor.plw (x : MConstructor) : plR x.enc = true ∧ nwR x.enc = true := by
  rw [MConstructor.enc_eq]; simp only [List.cons_append, List.nil_append, plR, plD, nwR, nwD, plR_append, nwR_append, Bool.and_true, Bool.true_and, Bool.and_self, and_self, and_true, true_and, (MType.plms x.fFields).1, (MType.plms x.fFields).2]
theorem MConstructor.plms (xs : List MConstructor) : plRs (xs.map MConstructor.enc) = true ∧ nwRs (xs.map MConstructor.enc) = true := ⟨plRs_map fun x _ => x.plw.1, nwRs_map fun x _ => ⟨x.plw.2, by rw [MConstructor.enc_length]; decide⟩⟩
theorem MDataType.plw (x : MDataType) : plR x.enc = true ∧ nwR x.enc = true := by
  rw [MDataType.enc_eq]; simp only [List.cons_append, List.nil_append, plR, plD, nwR, nwD, plR_append, nwR_append, Bool.and_true, Bool.true_and, Bool.and_self, and_self, and_true, true_and, pl_encS x.fVars, nw_encS x.fVars, (MConstructor.plms x.fConstructors).1, (MConstructor.plms x.fConstructors).2]
theorem MDataType.plms (xs : List MDataType) : plRs (xs.map MDataType.enc) = true ∧ nwRs (xs.map MDataType.enc) = true := ⟨plRs_map fun x _ => x.plw.1, nwRs_map fun x _ => ⟨x.plw.2, by rw [MDataType.enc_length]; decide⟩⟩
theorem MMethod.plw (x : MMethod) : plR x.enc = true ∧ nwR x.enc = true := by
  rw [MMethod.enc_eq]; simp only [List.cons_append, List.nil_append, plR, plD, nwR, nwD, plR_append, nwR_append, Bool.and_true, Bool.true_and, Bool.and_self, and_self, and_true, true_and, pl_encS x.fVars, nw_encS x.fVars, (MExpr.plw x.fBody).1, (MExpr.plw x.fBody).2]
theorem MMethod.plms (xs : List MMethod) : plRs (xs.map MMethod.enc) = true ∧ nwRs (xs.map MMethod.enc) = true := ⟨plRs_map fun x _ => x.plw.1, nwRs_map fun x _ => ⟨x.plw.2, by rw [MMethod.enc_length]; decide⟩⟩
theorem MInstance.plw (x : MInstance) : plR x.enc = true ∧ nwR x.enc = true := by
  rw [MInstance.enc_eq]; simp only [List.cons_append, List.nil_append, plR, plD, nwR, nwD, plR_append, nwR_append, Bool.and_true, Bool.true_and, Bool.and_self, and_self, and_true, true_and, pl_encS x.fVars, nw_encS x.fVars, (MType.plw x.fHead).1, (MType.plw x.fHead).2, (MBound.plms x.fWhere).1, (MBound.plms x.fWhere).2, (MType.plw x.fAssoc).1, (MType.plw x.fAssoc).2, (MMethod.plms x.fMethods).1, (MMethod.plms x.fMethods).2]
theorem MInstance.plms (xs : List MInstance) : plRs (xs.map MInstance.enc) = true ∧ nwRs (xs.map MInstance.enc) = true := ⟨plRs_map fun x _ => x.plw.1, nwRs_map fun x _ => ⟨x.plw.2, by rw [MInstance.enc_length]; decide⟩⟩
theorem MParam.plw (x : MParam) : plR x.enc = true ∧ nwR x.enc = true := by
  rw [MParam.enc_eq]; simp only [List.cons_append, List.nil_append, plR, plD, nwR, nwD, plR_append, nwR_append, Bool.and_true, Bool.true_and, Bool.and_self, and_self, and_true, true_and, (MType.plw x.fType).1, (MType.plw x.fType).2]
theorem MParam.plms (xs : List MParam) : plRs (xs.map MParam.enc) = true ∧ nwRs (xs.map MParam.enc) = true := ⟨plRs_map fun x _ => x.plw.1, nwRs_map fun x _ => ⟨x.plw.2, by rw [MParam.enc_length]; decide⟩⟩
theorem MFunction.plw (x : MFunction) : plR x.enc = true ∧ nwR x.enc = true := by
  rw [MFunction.enc_eq]; simp only [List.cons_append, List.nil_append, plR, plD, nwR, nwD, plR_append, nwR_append, Bool.and_true, Bool.true_and, Bool.and_self, and_self, and_true, true_and, pl_encS x.fVars, nw_encS x.fVars, (MBound.plms x.fWhere).1, (MBound.plms x.fWhere).2, (MParam.plms x.fParams).1, (MParam.plms x.fParams).2, (MType.plw x.fResult).1, (MType.plw x.fResult).2, (MExpr.plw x.fBody).1, (MExpr.plw x.fBody).2]
theorem MFunction.plms (xs : List MFunction) : plRs (xs.map MFunction.enc) = true ∧ nwRs (xs.map MFunction.enc) = true := ⟨plRs_map fun x _ => x.plw.1, nwRs_map fun x _ => ⟨x.plw.2, by rw [MFunction.enc_length]; decide⟩⟩
theorem MPackage.plw (x : MPackage) : plR x.enc = true ∧ nwR x.enc = true := by
  rw [MPackage.enc_eq]; simp only [List.cons_append, List.nil_append, plR, plD, nwR, nwD, plR_append, nwR_append, Bool.and_true, Bool.true_and, Bool.and_self, and_self, and_true, true_and, pl_encS x.fDeps, nw_encS x.fDeps, (MTrait.plms x.fTraits).1, (MTrait.plms x.fTraits).2, (MDataType.plms x.fDataTypes).1, (MDataType.plms x.fDataTypes).2, (MInstance.plms x.fInstances).1, (MInstance.plms x.fInstances).2, (MFunction.plms x.fFunctions).1, (MFunction.plms x.fFunctions).2]
theorem MPackage.plms (xs : List MPackage) : plRs (xs.map MPackage.enc) = true ∧ nwRs (xs.map MPackage.enc) = true := ⟨plRs_map fun x _ => x.plw.1, nwRs_map fun x _ => ⟨x.plw.2, by rw [MPackage.enc_length]; decide⟩⟩
theorem MProgram.plw (x : MProgram) : plR x.enc = true ∧ nwR x.enc = true := by
  rw [MProgram.enc_eq]; simp only [List.cons_append, List.nil_append, plR, plD, nwR, nwD, plR_append, nwR_append, Bool.and_true, Bool.true_and, Bool.and_self, and_self, and_true, true_and, (MPackage.plms x.fPackages).1, (MPackage.plms x.fPackages).2]
theorem MProgram.plms (xs : List MProgram) : plRs (xs.map MProgram.enc) = true ∧ nwRs (xs.map MProgram.enc) = true := ⟨plRs_map fun x _ => x.plw.1, nwRs_map fun x _ => ⟨x.plw.2, by rw [MProgram.enc_length]; decide⟩⟩
theorem MInstanceRef.plw (x : MInstanceRef) : plR x.enc = true ∧ nwR x.enc = true := by
  rw [MInstanceRef.enc_eq]; simp only [List.cons_append, List.nil_append, plR, plD, nwR, nwD, plR_append, nwR_append, Bool.and_true, Bool.true_and, Bool.and_self, and_self, and_true, true_and]
theorem MInstanceRef.plms (xs : List MInstanceRef) : plRs (xs.map MInstanceRef.enc) = true ∧ nwRs (xs.map MInstanceRef.enc) = true := ⟨plRs_map fun x _ => x.plw.1, nwRs_map fun x _ => ⟨x.plw.2, by rw [MInstanceRef.enc_length]; decide⟩⟩
end Go.Ab

namespace Go.Ab
section
variable {P : Program} {w w' : World} {σ σ' : Nat → Nat} {S : Store} {β : Hs}
end
end Go.Ab

namespace Go.Ab
def refsI (p : Nat) (n : Nat) : List MInstanceRef := (List.range n).map fun j : Nat => ⟨(p : Int), (j : Int)⟩
theorem szRows_app : ∀ a b : List (List D), szRows (a ++ b) = szRows a + szRows b
  | [], b => by simp [szRows]
  | r :: a, b => by rw [List.cons_append, szRows, szRows, szRows_app a b]; omega
def allI (ps : List MPackage) : Nat → List MInstanceRef
  | 0 => []
  | m + 1 => allI ps m ++ refsI m ((ps.getD m ⟨[], [], [], [], [], []⟩).fInstances.length)
theorem refsI_len (p n : Nat) : (refsI p n).length = n := by simp [refsI]
theorem refsI_snoc (p n : Nat) : refsI p n ++ [⟨p, n⟩] = refsI p (n + 1) := by simp [refsI, List.range_succ]
theorem allI_at {ps : List MPackage} {m : Nat} (h : m < ps.length) : allI ps (m + 1) = allI ps m ++ refsI m ps[m].fInstances.length := by
  rw [allI, List.getD_eq_getElem?_getD, List.getElem?_eq_getElem h]; rfl
theorem MPackage.inst_len (x : MPackage) : x.fInstances.length ≤ x.sz := by
  simp only [MPackage.sz, MPackage.enc_eq, szRow, D.sz, List.length_map]; omega
theorem allI_len {ps : List MPackage} : ∀ m, m ≤ ps.length → (allI ps m).length ≤ szRows ((ps.take m).map MPackage.enc)
  | 0, _ => Nat.zero_le _
  | m + 1, h => by
    have h1 := allI_len (ps := ps) m (by omega)
    have h2 := MPackage.inst_len ps[m]
    rw [allI_at (by omega), List.length_append, refsI_len, List.take_succ_eq_append_getElem (by omega), List.map_append, szRows_app, List.map_cons, List.map_nil, szRows, szRows, MPackage.sz_def]
    omega
theorem allI_le {ps : List MPackage} (m : Nat) (h : m ≤ ps.length) : (allI ps m).length ≤ szRows (ps.map MPackage.enc) := by
  have h1 := allI_len m h
  have h2 : szRows (ps.map MPackage.enc) = szRows ((ps.take m).map MPackage.enc) + szRows ((ps.drop m).map MPackage.enc) := by
    rw [← szRows_app, ← List.map_append, List.take_append_drop]
  omega
theorem snocR (xs : List MInstanceRef) (p n : Nat) : (xs ++ refsI p n).map MInstanceRef.enc ++ [[D.i .i64 p, D.i .i64 n]] = (xs ++ refsI p (n + 1)).map MInstanceRef.enc := by
  rw [← refsI_snoc, ← List.append_assoc, List.map_append (l₁ := xs ++ refsI p n)]; rfl
end Go.Ab
namespace Go.Proofs.YtnleocfkdidhoaaGreat
open Go Go.Ab
theorem implAll_ok (w : MProgram) (hsz : w.sz ≤ 4194304) : PCall Tryz.prog 26 [w.v] (.c (.d (.sl ((allI w.fPackages w.fPackages.length).map MInstanceRef.enc)))) := fun S => by
  have hb0 := MProgram.bounds hsz
  have hsr : szRows (w.fPackages.map MPackage.enc) ≤ 4194304 := by
    have : w.sz = w.fPackages.length + szRows (w.fPackages.map MPackage.enc) := by simp [MProgram.sz, MProgram.enc_eq, szRow, D.sz]
    omega
  refine acall_cw (rs := [.tmp 2]) Tryz.checked.mixed Tryz.func26 Tryz.ntmps26 rfl rfl rfl rfl rfl ?_
  simp -implicitDefEqProofs (disch := omega) only [go_sem]
  (repeat (with_reducible refine And.intro ?_ ?_; focus first | omega | rfl | assumption | exact ⟨_, rfl, rfl⟩ | (simp; omega) | (simp; done)))
  refine aw_tok 3 2 [] rfl (by simp) ?_
  refine loop_at (ι := Nat) Tryz.checked.mixed rfl [3, 9, 10, 11] (fun i => [.c (.tsl (0, 1) ((allI w.fPackages i).map MInstanceRef.enc)), .c (.d (.sl (w.fPackages.map MPackage.enc))), .c (.d (.i .i64 w.fPackages.length)), .c (.d (.i .i64 i))]) (fun i => [.box (w.enc.map .d), .tok 2 ((allI w.fPackages i).map MInstanceRef.enc)] :: S)
    (fun i => i ≤ w.fPackages.length) (fun i => w.fPackages.length - i) 0 ?_ ?_ (Nat.zero_le _) ?_
  · rfl
  · simp -implicitDefEqProofs (disch := omega) only [go_sem]
    rfl
  intro i hi
  have refs : ∀ a b, tmRefs 2 (zipTm [3, 9, 10, 11] [.c (.tsl (0, 1) a), .c (.d (.sl (w.fPackages.map MPackage.enc))), .c (.d (.i .i64 w.fPackages.length)), .c (.d (.i .i64 b))]) = true := fun a b => by simp [tmRefs, zipTm, V.refs, C.refs, refK]
  simp -implicitDefEqProofs (disch := omega) only [go_sem]
  with_reducible refine split2 (fun hb => ?_) (fun hb => ?_) <;> have h := hb <;> (try simp only [wf_preprocess] at h) <;> simp -implicitDefEqProofs (disch := omega) only [go_sem, hb] <;> (repeat (with_reducible refine And.intro ?_ ?_; focus first | omega | rfl | assumption | exact ⟨_, rfl, rfl⟩ | (simp; omega) | (simp; done)))
  · have hi' : i < w.fPackages.length := by omega
    have hne := allI_le (ps := w.fPackages) (i + 1) (by omega)
    rw [allI_at hi', List.length_append, refsI_len] at hne
    (repeat (with_reducible refine And.intro ?_ ?_; focus first | omega | rfl | assumption | exact ⟨_, rfl, rfl⟩ | (simp; omega) | (simp; done)))
    refine loop_at (ι := Nat) Tryz.checked.mixed rfl [3, 4, 9, 10, 11, 18, 19] (fun j => [.c (.tsl (0, 1) ((allI w.fPackages i ++ refsI i j).map MInstanceRef.enc)), .c (.d (.i .i64 i)), .c (.d (.sl (w.fPackages.map MPackage.enc))), .c (.d (.i .i64 w.fPackages.length)), .c (.d (.i .i64 i)), .c (.d (.i .i64 w.fPackages[i].fInstances.length)), .c (.d (.i .i64 j))])
      (fun j => [.box (w.enc.map .d), .tok 2 ((allI w.fPackages i ++ refsI i j).map MInstanceRef.enc), .box (w.fPackages[i].enc.map .d)] :: S)
      (fun j => j ≤ w.fPackages[i].fInstances.length) (fun j => w.fPackages[i].fInstances.length - j) 0 ?_ ?_ (Nat.zero_le _) ?_
    · rw [show refsI i 0 = [] from rfl, List.append_nil]; rfl
    · rw [show refsI i 0 = [] from rfl, List.append_nil]; simp -implicitDefEqProofs (disch := omega) only [go_sem]
    intro j hj
    have hjl := refsI_len i j
    simp -implicitDefEqProofs (disch := omega) only [go_sem]
    with_reducible refine split2 (fun hb => ?_) (fun hb => ?_) <;> have h := hb <;> (try simp only [wf_preprocess] at h) <;> simp -implicitDefEqProofs (disch := omega) only [go_sem, hb] <;> (repeat (with_reducible refine And.intro ?_ ?_; focus first | omega | rfl | assumption | exact ⟨_, rfl, rfl⟩ | (simp; omega) | (simp; done)))
    · have hj' : j < w.fPackages[i].fInstances.length := by omega
      (repeat (with_reducible refine And.intro ?_ ?_; focus first | omega | rfl | assumption | exact ⟨_, rfl, rfl⟩ | (simp; omega) | (simp; done)))
      rw [snocR]
      exact inv_at (j + 1) (by omega) rfl rfl (by omega)
    · have ej : j = w.fPackages[i].fInstances.length := by omega
      subst ej
      rw [← allI_at hi']
      exact inv_drop 2 (by decide) (i + 1) (by omega) rfl rfl (refs _ _) rfl (by omega)
  · have ei : i = w.fPackages.length := by omega
    rw [ei]
theorem specAll_ok (w : MProgram) (hsz : w.sz ≤ 4194304) : PCall Tryz.prog 25 [w.v] (.c (.d (.sl ((allI w.fPackages w.fPackages.length).map MInstanceRef.enc)))) := fun S => by
  have hb0 := MProgram.bounds hsz
  have hsr : szRows (w.fPackages.map MPackage.enc) ≤ 4194304 := by
    have : w.sz = w.fPackages.length + szRows (w.fPackages.map MPackage.enc) := by simp [MProgram.sz, MProgram.enc_eq, szRow, D.sz]
    omega
  refine acall_cw (rs := [.tmp 2]) Tryz.checked.mixed Tryz.func25 Tryz.ntmps25 rfl rfl rfl rfl rfl ?_
  simp -implicitDefEqProofs (disch := omega) only [go_sem]
  (repeat (with_reducible refine And.intro ?_ ?_; focus first | omega | rfl | assumption | exact ⟨_, rfl, rfl⟩ | (simp; omega) | (simp; done)))
  refine aw_tok 3 2 [] rfl (by simp) ?_
  refine loop_at (ι := Nat) Tryz.checked.mixed rfl [1, 3, 4] (fun i => [.c (.ptr (0, 0) 0), .c (.tsl (0, 1) ((allI w.fPackages i).map MInstanceRef.enc)), .c (.d (.i .i64 i))]) (fun i => [.box (w.enc.map .d), .tok 2 ((allI w.fPackages i).map MInstanceRef.enc)] :: S)
    (fun i => i ≤ w.fPackages.length) (fun i => w.fPackages.length - i) 0 ?_ ?_ (Nat.zero_le _) ?_
  · rfl
  · simp -implicitDefEqProofs (disch := omega) only [go_sem]
    rfl
  intro i hi
  simp -implicitDefEqProofs (disch := omega) only [go_sem]
  with_reducible refine split2 (fun hb => ?_) (fun hb => ?_) <;> have h := hb <;> (try simp only [wf_preprocess] at h) <;> simp -implicitDefEqProofs (disch := omega) only [go_sem, hb] <;> (repeat (with_reducible refine And.intro ?_ ?_; focus first | omega | rfl | assumption | exact ⟨_, rfl, rfl⟩ | (simp; omega) | (simp; done)))
  · have hi' : i < w.fPackages.length := by omega
    have hne := allI_le (ps := w.fPackages) (i + 1) (by omega)
    rw [allI_at hi', List.length_append, refsI_len] at hne
    refine loop_at (ι := Nat) Tryz.checked.mixed rfl [1, 3, 4, 5] (fun j => [.c (.ptr (0, 0) 0), .c (.tsl (0, 1) ((allI w.fPackages i ++ refsI i j).map MInstanceRef.enc)), .c (.d (.i .i64 i)), .c (.d (.i .i64 j))])
      (fun j => [.box (w.enc.map .d), .tok 2 ((allI w.fPackages i ++ refsI i j).map MInstanceRef.enc)] :: S)
      (fun j => j ≤ w.fPackages[i].fInstances.length) (fun j => w.fPackages[i].fInstances.length - j) 0 ?_ ?_ (Nat.zero_le _) ?_
    · rw [show refsI i 0 = [] from rfl, List.append_nil]; rfl
    · rw [show refsI i 0 = [] from rfl, List.append_nil]; simp -implicitDefEqProofs (disch := omega) only [go_sem]
    intro j hj
    have hjl := refsI_len i j
    simp -implicitDefEqProofs (disch := omega) only [go_sem]
    (repeat (with_reducible refine And.intro ?_ ?_; focus first | omega | rfl | assumption | exact ⟨_, rfl, rfl⟩ | (simp; omega) | (simp; done)))
    with_reducible refine split2 (fun hb => ?_) (fun hb => ?_) <;> have h := hb <;> (try simp only [wf_preprocess] at h) <;> simp -implicitDefEqProofs (disch := omega) only [go_sem, hb] <;> (repeat (with_reducible refine And.intro ?_ ?_; focus first | omega | rfl | assumption | exact ⟨_, rfl, rfl⟩ | (simp; omega) | (simp; done)))
    · have hj' : j < w.fPackages[i].fInstances.length := by omega
      (repeat (with_reducible refine And.intro ?_ ?_; focus first | omega | rfl | assumption | exact ⟨_, rfl, rfl⟩ | (simp; omega) | (simp; done)))
      rw [snocR]
      exact inv_at (j + 1) (by omega) rfl rfl (by omega)
    · have ej : j = w.fPackages[i].fInstances.length := by omega
      subst ej
      rw [← allI_at hi']
      exact inv_at (i + 1) (by omega) rfl rfl (by omega)
  · have ei : i = w.fPackages.length := by omega
    rw [ei]
end Go.Proofs.YtnleocfkdidhoaaGreat

namespace Go.Ab
theorem mc_InstanceRef : ∀ xs : List MInstanceRef, mcRs (xs.map MInstanceRef.enc) = 2 * xs.length
  | [] => rfl
  | x :: xs => by rw [List.map_cons, mcRs, mc_InstanceRef xs, List.length_cons]; simp [MInstanceRef.enc, mcR, mcD]; omega
theorem lab_InstanceRef : ∀ (xs : List MInstanceRef) (n : Nat), labRs (xs.map MInstanceRef.enc) n = xs.map MInstanceRef.enc
  | [], _ => rfl
  | x :: xs, n => by rw [List.map_cons, labRs, lab_InstanceRef xs]; rfl
theorem sz_InstanceRef : ∀ xs : List MInstanceRef, szRows (xs.map MInstanceRef.enc) = 0
  | [] => rfl
  | x :: xs => by rw [List.map_cons, szRows, sz_InstanceRef xs]; simp [MInstanceRef.enc, szRow, D.sz]
end Go.Ab
namespace Go.Proofs.YtnleocfkdidhoaaGreat
open Go Go.Ab
theorem implAll_lab (w : MProgram) (hsz : w.sz ≤ 4194304) (q : Nat) : PCall Tryz.prog 26 [w.v] (.c (.d (.ol q ((allI w.fPackages w.fPackages.length).map MInstanceRef.enc)))) := fun S => by
  have hb0 := MProgram.bounds hsz
  have hsr : szRows (w.fPackages.map MPackage.enc) ≤ 4194304 := by
    have : w.sz = w.fPackages.length + szRows (w.fPackages.map MPackage.enc) := by simp [MProgram.sz, MProgram.enc_eq, szRow, D.sz]
    omega
  refine acall_cwL (q) (rs := [.tmp 2]) Tryz.checked.mixed Tryz.func26 Tryz.ntmps26 rfl rfl rfl rfl rfl ?_
  simp -implicitDefEqProofs (disch := omega) only [go_sem]
  (repeat (with_reducible refine And.intro ?_ ?_; focus first | omega | rfl | assumption | exact ⟨_, rfl, rfl⟩ | (simp; omega) | (simp; done)))
  refine aw_ltok q 3 2 [] (.inl rfl) (by simp) ?_
  refine loop_at (ι := Nat) Tryz.checked.mixed rfl [3, 9, 10, 11] (fun i => [.c (.tsl (0, 2) ((allI w.fPackages i).map MInstanceRef.enc)), .c (.d (.sl (w.fPackages.map MPackage.enc))), .c (.d (.i .i64 w.fPackages.length)), .c (.d (.i .i64 i))]) (fun i => [.seed q, .box (w.enc.map .d), .ltok q 2 ((allI w.fPackages i).map MInstanceRef.enc)] :: S)
    (fun i => i ≤ w.fPackages.length) (fun i => w.fPackages.length - i) 0 ?_ ?_ (Nat.zero_le _) ?_
  · rfl
  · simp -implicitDefEqProofs (disch := omega) only [go_sem]
    rfl
  intro i hi
  have refs : ∀ a b, tmRefs 3 (zipTm [3, 9, 10, 11] [.c (.tsl (0, 2) a), .c (.d (.sl (w.fPackages.map MPackage.enc))), .c (.d (.i .i64 w.fPackages.length)), .c (.d (.i .i64 b))]) = true := fun a b => by simp [tmRefs, zipTm, V.refs, C.refs, refK]
  simp -implicitDefEqProofs (disch := omega) only [go_sem]
  with_reducible refine split2 (fun hb => ?_) (fun hb => ?_) <;> have h := hb <;> (try simp only [wf_preprocess] at h) <;> simp -implicitDefEqProofs (disch := omega) only [go_sem, hb] <;> (repeat (with_reducible refine And.intro ?_ ?_; focus first | omega | rfl | assumption | exact ⟨_, rfl, rfl⟩ | (simp; omega) | (simp; done)))
  · have hi' : i < w.fPackages.length := by omega
    have hne := allI_le (ps := w.fPackages) (i + 1) (by omega)
    rw [allI_at hi', List.length_append, refsI_len] at hne
    (repeat (with_reducible refine And.intro ?_ ?_; focus first | omega | rfl | assumption | exact ⟨_, rfl, rfl⟩ | (simp; omega) | (simp; done)))
    refine loop_at (ι := Nat) Tryz.checked.mixed rfl [3, 4, 9, 10, 11, 18, 19] (fun j => [.c (.tsl (0, 2) ((allI w.fPackages i ++ refsI i j).map MInstanceRef.enc)), .c (.d (.i .i64 i)), .c (.d (.sl (w.fPackages.map MPackage.enc))), .c (.d (.i .i64 w.fPackages.length)), .c (.d (.i .i64 i)), .c (.d (.i .i64 w.fPackages[i].fInstances.length)), .c (.d (.i .i64 j))])
      (fun j => [.seed q, .box (w.enc.map .d), .ltok q 2 ((allI w.fPackages i ++ refsI i j).map MInstanceRef.enc), .box (w.fPackages[i].enc.map .d)] :: S)
      (fun j => j ≤ w.fPackages[i].fInstances.length) (fun j => w.fPackages[i].fInstances.length - j) 0 ?_ ?_ (Nat.zero_le _) ?_
    · rw [show refsI i 0 = [] from rfl, List.append_nil]; rfl
    · rw [show refsI i 0 = [] from rfl, List.append_nil]; simp -implicitDefEqProofs (disch := omega) only [go_sem]
    intro j hj
    have hjl := refsI_len i j
    simp -implicitDefEqProofs (disch := omega) only [go_sem]
    with_reducible refine split2 (fun hb => ?_) (fun hb => ?_) <;> have h := hb <;> (try simp only [wf_preprocess] at h) <;> simp -implicitDefEqProofs (disch := omega) only [go_sem, hb] <;> (repeat (with_reducible refine And.intro ?_ ?_; focus first | omega | rfl | assumption | exact ⟨_, rfl, rfl⟩ | (simp; omega) | (simp; done)))
    · have hj' : j < w.fPackages[i].fInstances.length := by omega
      (repeat (with_reducible refine And.intro ?_ ?_; focus first | omega | rfl | assumption | exact ⟨_, rfl, rfl⟩ | (simp; omega) | (simp; done)))
      rw [snocR]
      exact inv_at (j + 1) (by omega) rfl rfl (by omega)
    · have ej : j = w.fPackages[i].fInstances.length := by omega
      subst ej
      rw [← allI_at hi']
      exact inv_drop 3 (by decide) (i + 1) (by omega) rfl rfl (refs _ _) rfl (by omega)
  · have ei : i = w.fPackages.length := by omega
    rw [ei]
end Go.Proofs.YtnleocfkdidhoaaGreat

namespace Go.Proofs.YtnleocfkdidhoaaGreat
open Go Go.Ab
theorem eqInstanceRef_ok (x : MInstanceRef) : ∀ y : MInstanceRef, x.sz ≤ 1048576 → PCall Tryz.prog 95 [x.v, y.v] (.c (.d (.b (dec (x = y))))) := by
  intro y hsz S
  simp only [MInstanceRef.sz, MInstanceRef.enc_eq, szRow, szRow_append, D.sz, List.length_map] at hsz
  refine acall_cw (rs := [.tmp 4]) Tryz.checked.mixed Tryz.func95 Tryz.ntmps95 rfl rfl rfl rfl rfl ?_
  simp -implicitDefEqProofs (disch := omega) only [go_sem]
  with_reducible refine split2 (fun hb => ?_) (fun hb => ?_) <;> have h := hb <;> (try simp only [wf_preprocess] at h) <;> simp -implicitDefEqProofs (disch := omega) only [go_sem, hb] <;> (repeat (with_reducible refine And.intro ?_ ?_; focus first | omega | rfl | assumption | exact ⟨_, rfl, rfl⟩ | (simp; omega) | (simp; done)))
  · exact bool_eq (dec_false (fun e => h (by rw [e]))).symm
  have ePackage := h
  clear h
  with_reducible refine split2 (fun hb => ?_) (fun hb => ?_) <;> have h := hb <;> (try simp only [wf_preprocess] at h) <;> simp -implicitDefEqProofs (disch := omega) only [go_sem, hb] <;> (repeat (with_reducible refine And.intro ?_ ?_; focus first | omega | rfl | assumption | exact ⟨_, rfl, rfl⟩ | (simp; omega) | (simp; done)))
  · exact bool_eq (dec_false (fun e => h (by rw [e]))).symm
  have eAt := h
  clear h
  exact bool_eq (dec_true (MInstanceRef.ext' ePackage eAt)).symm
theorem eqInstanceRefS_ok (xs : List MInstanceRef) : ∀ ys : List MInstanceRef, xs.length + szRows (xs.map MInstanceRef.enc) ≤ 1048576 → PCall Tryz.prog 27 [.c (.d (.sl (xs.map MInstanceRef.enc))), .c (.d (.sl (ys.map MInstanceRef.enc)))] (.c (.d (.b (dec (xs = ys))))) := by
  intro ys hsz S
  refine acall_cw (rs := [.tmp 4]) Tryz.checked.mixed Tryz.func27 Tryz.ntmps27 rfl rfl rfl rfl rfl ?_
  simp -implicitDefEqProofs (disch := omega) only [go_sem]
  with_reducible refine split2 (fun hb => ?_) (fun hb => ?_) <;> have h := hb <;> (try simp only [wf_preprocess] at h) <;> simp -implicitDefEqProofs (disch := omega) only [go_sem, hb] <;> (repeat (with_reducible refine And.intro ?_ ?_; focus first | omega | rfl | assumption | exact ⟨_, rfl, rfl⟩ | (simp; omega) | (simp; done)))
  · exact bool_eq (dec_false (fun e => h (by rw [e]))).symm
  have hl : xs.length = ys.length := by omega
  refine loop_at (ι := Nat) Tryz.checked.mixed rfl [0, 1, 5] (fun y => [.c (.d (.sl (xs.map MInstanceRef.enc))), .c (.d (.sl (ys.map MInstanceRef.enc))), .c (.d (.i .i64 y))]) (fun y => [] :: S)
    (fun i => i ≤ xs.length ∧ ∀ j, j < i → xs[j]? = ys[j]?) (fun y => xs.length - y) 0 rfl rfl ⟨Nat.zero_le _, fun j h => by omega⟩ ?_
  rintro i ⟨p1, p2⟩
  simp -implicitDefEqProofs (disch := omega) only [go_sem]
  with_reducible refine split2 (fun hb => ?_) (fun hb => ?_) <;> have h := hb <;> (try simp only [wf_preprocess] at h) <;> simp -implicitDefEqProofs (disch := omega) only [go_sem, hb] <;> (repeat (with_reducible refine And.intro ?_ ?_; focus first | omega | rfl | assumption | exact ⟨_, rfl, rfl⟩ | (simp; omega) | (simp; done)))
  · have hi : i < xs.length := by omega
    have hi' : i < ys.length := by omega
    have hx : xs[i].sz ≤ szRows (xs.map MInstanceRef.enc) := szRows_mem (List.mem_map_of_mem (List.getElem_mem hi))
    (repeat (with_reducible refine And.intro ?_ ?_; focus first | omega | rfl | assumption | exact ⟨_, rfl, rfl⟩ | (simp; omega) | (simp; done)))
    refine call_w (eqInstanceRef_ok xs[i] ys[i] (by omega)) ?_
    simp -implicitDefEqProofs (disch := omega) only [go_sem]
    with_reducible refine split2 (fun hb => ?_) (fun hb => ?_) <;> have h := hb <;> (try simp only [wf_preprocess] at h) <;> simp -implicitDefEqProofs (disch := omega) only [go_sem, hb] <;> (repeat (with_reducible refine And.intro ?_ ?_; focus first | omega | rfl | assumption | exact ⟨_, rfl, rfl⟩ | (simp; omega) | (simp; done)))
    · exact bool_eq (dec_false (fun e => h (by simp only [e]))).symm
    refine inv_at (i + 1) (by omega) rfl rfl ⟨by omega, fun j hj => ?_⟩
    by_cases e : j = i
    · subst e
      rw [List.getElem?_eq_getElem hi, List.getElem?_eq_getElem hi', h]
    · exact p2 j (by omega)
  · have hi : i = xs.length := by omega
    refine bool_eq (dec_true (List.ext_getElem? fun j => ?_)).symm
    by_cases hj : j < i
    · exact p2 j hj
    · rw [List.getElem?_eq_none (by omega), List.getElem?_eq_none (by omega)]
end Go.Proofs.YtnleocfkdidhoaaGreat

namespace Go.Proofs.YtnleocfkdidhoaaGreat
open Go Go.Ab
theorem toStringS_lab (xs : List (List UInt8)) : ∀ n : Nat, xs.length + szRows (xs.map encS) ≤ 1048576 → PCall Tryz.prog 73 [.c (.d (.sl (xs.map encS)))] (.c (.d (labD (.sl (xs.map encS)) n))) := by
  intro n hsz
  obtain ⟨T, hT⟩ : ∃ T, T = labRs (xs.map encS) (n + 1) := ⟨_, rfl⟩
  have hTl : T.length = xs.length := by rw [hT, labRs_length, List.length_map]
  show PCall Tryz.prog 73 [.c (.d (.sl (xs.map encS)))] (.c (.d (.ol n (labRs (xs.map encS) (n + 1))))) 
  rw [← hT]
  intro S
  refine acall_cwL (n) (rs := [.tmp 2]) Tryz.checked.mixed Tryz.func73 Tryz.ntmps73 rfl rfl rfl rfl rfl ?_
  simp -implicitDefEqProofs (disch := omega) only [go_sem]
  (repeat (with_reducible refine And.intro ?_ ?_; focus first | omega | rfl | assumption | exact ⟨_, rfl, rfl⟩ | (simp; omega) | (simp; done)))
  refine loop_at (ι := Nat × List (List D)) Tryz.checked.mixed rfl [0, 3, 4] (fun y => [.c (.d (.sl (xs.map encS))), .c (.msl (0, 1)), .c (.d (.i .i64 y.1))]) (fun y => [.seed n, .mrow 1 y.2] :: S)
    (fun y => y.1 ≤ xs.length ∧ Filled 1 y.1 y.2 T) (fun y => xs.length - y.1) (0, _) rfl rfl ⟨Nat.zero_le _, Filled.start (by simp [hTl]) rfl⟩ ?_
  rintro ⟨i, R⟩ ⟨p1, p2⟩
  simp only at p1 p2
  simp -implicitDefEqProofs (disch := omega) only [go_sem]
  with_reducible refine split2 (fun hb => ?_) (fun hb => ?_) <;> have h := hb <;> (try simp only [wf_preprocess] at h) <;> simp -implicitDefEqProofs (disch := omega) only [go_sem, hb] <;> (repeat (with_reducible refine And.intro ?_ ?_; focus first | omega | rfl | assumption | exact ⟨_, rfl, rfl⟩ | (simp; omega) | (simp; done)))
  · have hi : i < xs.length := by omega
    have hir : i < (xs.map encS).length := by rw [List.length_map]; exact hi
    have hR := p2.1
    rw [hTl] at hR
    have hTi : T[i]? = some (labR (encS xs[i]) (n + 1 + cntRs ((xs.map encS).take i))) := by
      rw [hT, labRs_at hir, List.getElem_map]
    simp only [encS, labR, labD] at hTi
    (repeat (with_reducible refine And.intro ?_ ?_; focus first | omega | rfl | assumption | exact ⟨_, rfl, rfl⟩ | (simp; omega) | (simp; done)))
    refine inv_at (i + 1, _) (by simp only; omega) rfl rfl ⟨by simp only; omega, p2.step hTi rfl⟩
  · have hi : i = xs.length := by omega
    rw [p2.done (by omega)]
end Go.Proofs.YtnleocfkdidhoaaGreat

namespace Go.Proofs.YtnleocfkdidhoaaGreat
open Go Go.Ab
end Go.Proofs.YtnleocfkdidhoaaGreat

namespace Go.Proofs.YtnleocfkdidhoaaGreat
open Go Go.Ab
theorem toType_labs : ∀ N : Nat, (∀ x : MType, SizeOf.sizeOf x < N → ∀ n : Nat, x.sz ≤ 1048576 → PCall Tryz.prog 53 [x.v] (.agg ((labR x.enc n).map .d))) ∧
    (∀ xs : List MType, SizeOf.sizeOf xs < N → ∀ n : Nat, xs.length + szRows (xs.map MType.enc) ≤ 1048576 → PCall Tryz.prog 130 [.c (.d (.sl (xs.map MType.enc)))] (.c (.d (labD (.sl (xs.map MType.enc)) n))))
  | 0 => ⟨fun x h => by omega, fun x h => by omega⟩
  | N + 1 => by
    obtain ⟨ihType, ihSType⟩ := toType_labs N
    refine ⟨fun x hn n hsz => ?_, fun xs hn n hsz => ?_⟩
    · intro S
      have lArgs := MType.lt_Args x
      simp only [MType.sz, MType.enc_eq, szRow, szRow_append, D.sz, List.length_map] at hsz
      refine acall_cw (rs := [.cell 2 41]) Tryz.checked.mixed Tryz.func53 Tryz.ntmps53 rfl rfl rfl rfl rfl ?_
      simp only [MType.enc_eq, encS, encI, List.cons_append, List.nil_append, labR, labD, cntR, cntD, List.map_cons, List.map_nil, Nat.add_zero]
      simp -implicitDefEqProofs (disch := omega) only [go_sem]
      refine call_w (ihSType x.fArgs (by omega) (n) (by omega)) ?_
      simp -implicitDefEqProofs (disch := omega) only [go_sem, labD]
      all_goals (first | rfl | (simp only [Nat.add_assoc]; done))
    · obtain ⟨T, hT⟩ : ∃ T, T = labRs (xs.map MType.enc) (n + 1) := ⟨_, rfl⟩
      have hTl : T.length = xs.length := by rw [hT, labRs_length, List.length_map]
      show PCall Tryz.prog 130 [.c (.d (.sl (xs.map MType.enc)))] (.c (.d (.ol n (labRs (xs.map MType.enc) (n + 1))))) 
      rw [← hT]
      intro S
      refine acall_cwL (n) (rs := [.tmp 2]) Tryz.checked.mixed Tryz.func130 Tryz.ntmps130 rfl rfl rfl rfl rfl ?_
      simp -implicitDefEqProofs (disch := omega) only [go_sem]
      (repeat (with_reducible refine And.intro ?_ ?_; focus first | omega | rfl | assumption | exact ⟨_, rfl, rfl⟩ | (simp; omega) | (simp; done)))
      refine loop_at (ι := Nat × List (List D)) Tryz.checked.mixed rfl [0, 3, 4] (fun y => [.c (.d (.sl (xs.map MType.enc))), .c (.msl (0, 1)), .c (.d (.i .i64 y.1))]) (fun y => [.seed n, .mrow 3 y.2] :: S)
        (fun y => y.1 ≤ xs.length ∧ Filled 3 y.1 y.2 T) (fun y => xs.length - y.1) (0, _) rfl rfl ⟨Nat.zero_le _, Filled.start (by simp [hTl]) rfl⟩ ?_
      rintro ⟨i, R⟩ ⟨p1, p2⟩
      simp only at p1 p2
      simp -implicitDefEqProofs (disch := omega) only [go_sem]
      with_reducible refine split2 (fun hb => ?_) (fun hb => ?_) <;> have h := hb <;> (try simp only [wf_preprocess] at h) <;> simp -implicitDefEqProofs (disch := omega) only [go_sem, hb] <;> (repeat (with_reducible refine And.intro ?_ ?_; focus first | omega | rfl | assumption | exact ⟨_, rfl, rfl⟩ | (simp; omega) | (simp; done)))
      · have hi : i < xs.length := by omega
        have hir : i < (xs.map MType.enc).length := by rw [List.length_map]; exact hi
        have hR := p2.1
        rw [hTl] at hR
        have hTi : T[i]? = some (labR (MType.enc xs[i]) (n + 1 + cntRs ((xs.map MType.enc).take i))) := by
          rw [hT, labRs_at hir, List.getElem_map]
        have hx : xs[i].sz ≤ szRows (xs.map MType.enc) := szRows_mem (List.mem_map_of_mem (List.getElem_mem hi))
        (repeat (with_reducible refine And.intro ?_ ?_; focus first | omega | rfl | assumption | exact ⟨_, rfl, rfl⟩ | (simp; omega) | (simp; done)))
        refine call_w (ihType xs[i] (by have := List.sizeOf_lt_of_mem (List.getElem_mem hi); omega) (n + 1 + cntRs ((xs.map MType.enc).take i)) (by omega)) ?_
        obtain ⟨row, hrow⟩ : ∃ row, row = labR (MType.enc xs[i]) (n + 1 + cntRs ((xs.map MType.enc).take i)) := ⟨_, rfl⟩
        have hrl : row.length = 3 := by rw [hrow, labR_length, MType.enc_length]
        rw [← hrow] at hTi ⊢
        simp -implicitDefEqProofs (disch := omega) only [go_sem, hrl, mapM_toD]
        (repeat (with_reducible refine And.intro ?_ ?_; focus first | omega | rfl | assumption | exact ⟨_, rfl, rfl⟩ | (simp; omega) | (simp; done)))
        refine inv_at (i + 1, _) (by simp only; omega) rfl rfl ⟨by simp only; omega, p2.step hTi hrl⟩
      · have hi : i = xs.length := by omega
        rw [p2.done (by omega)]
theorem toType_lab (x : MType) : ∀ n : Nat, x.sz ≤ 1048576 → PCall Tryz.prog 53 [x.v] (.agg ((labR x.enc n).map .d)) := (toType_labs _).1 x (Nat.lt_succ_self _)
theorem toTypeS_lab (xs : List MType) : ∀ n : Nat, xs.length + szRows (xs.map MType.enc) ≤ 1048576 → PCall Tryz.prog 130 [.c (.d (.sl (xs.map MType.enc)))] (.c (.d (labD (.sl (xs.map MType.enc)) n))) := (toType_labs _).2 xs (Nat.lt_succ_self _)
end Go.Proofs.YtnleocfkdidhoaaGreat

namespace Go.Proofs.YtnleocfkdidhoaaGreat
open Go Go.Ab
end Go.Proofs.YtnleocfkdidhoaaGreat

namespace Go.Proofs.YtnleocfkdidhoaaGreat
open Go Go.Ab
theorem toBound_lab (x : MBound) : ∀ n : Nat, x.sz ≤ 1048576 → PCall Tryz.prog 266 [x.v] (.agg ((labR x.enc n).map .d)) := by
  intro n hsz S
  simp only [MBound.sz, MBound.enc_eq, szRow, szRow_append, D.sz, List.length_map, MType.sz_def] at hsz
  refine acall_cw (rs := [.cell 2 246]) Tryz.checked.mixed Tryz.func266 Tryz.ntmps266 rfl rfl rfl rfl rfl ?_
  simp only [MBound.enc_eq, MType.enc_eq, encS, encI, List.cons_append, List.nil_append, labR, labD, cntR, cntD, List.map_cons, List.map_nil, Nat.add_zero]
  simp -implicitDefEqProofs (disch := omega) only [go_sem]
  refine call_w (toType_lab x.fType (n) (by omega)) ?_
  simp -implicitDefEqProofs (disch := omega) only [go_sem, MType.enc_eq, encS, encI, List.cons_append, List.nil_append, labR, labD, cntR, cntD, List.map_cons, List.map_nil, Nat.add_zero]
  all_goals (first | rfl | (simp only [Nat.add_assoc]; done))
theorem toBoundS_lab (xs : List MBound) : ∀ n : Nat, xs.length + szRows (xs.map MBound.enc) ≤ 1048576 → PCall Tryz.prog 221 [.c (.d (.sl (xs.map MBound.enc)))] (.c (.d (labD (.sl (xs.map MBound.enc)) n))) := by
  intro n hsz
  obtain ⟨T, hT⟩ : ∃ T, T = labRs (xs.map MBound.enc) (n + 1) := ⟨_, rfl⟩
  have hTl : T.length = xs.length := by rw [hT, labRs_length, List.length_map]
  show PCall Tryz.prog 221 [.c (.d (.sl (xs.map MBound.enc)))] (.c (.d (.ol n (labRs (xs.map MBound.enc) (n + 1))))) 
  rw [← hT]
  intro S
  refine acall_cwL (n) (rs := [.tmp 2]) Tryz.checked.mixed Tryz.func221 Tryz.ntmps221 rfl rfl rfl rfl rfl ?_
  simp -implicitDefEqProofs (disch := omega) only [go_sem]
  (repeat (with_reducible refine And.intro ?_ ?_; focus first | omega | rfl | assumption | exact ⟨_, rfl, rfl⟩ | (simp; omega) | (simp; done)))
  refine loop_at (ι := Nat × List (List D)) Tryz.checked.mixed rfl [0, 3, 4] (fun y => [.c (.d (.sl (xs.map MBound.enc))), .c (.msl (0, 1)), .c (.d (.i .i64 y.1))]) (fun y => [.seed n, .mrow 4 y.2] :: S)
    (fun y => y.1 ≤ xs.length ∧ Filled 4 y.1 y.2 T) (fun y => xs.length - y.1) (0, _) rfl rfl ⟨Nat.zero_le _, Filled.start (by simp [hTl]) rfl⟩ ?_
  rintro ⟨i, R⟩ ⟨p1, p2⟩
  simp only at p1 p2
  simp -implicitDefEqProofs (disch := omega) only [go_sem]
  with_reducible refine split2 (fun hb => ?_) (fun hb => ?_) <;> have h := hb <;> (try simp only [wf_preprocess] at h) <;> simp -implicitDefEqProofs (disch := omega) only [go_sem, hb] <;> (repeat (with_reducible refine And.intro ?_ ?_; focus first | omega | rfl | assumption | exact ⟨_, rfl, rfl⟩ | (simp; omega) | (simp; done)))
  · have hi : i < xs.length := by omega
    have hir : i < (xs.map MBound.enc).length := by rw [List.length_map]; exact hi
    have hR := p2.1
    rw [hTl] at hR
    have hTi : T[i]? = some (labR (MBound.enc xs[i]) (n + 1 + cntRs ((xs.map MBound.enc).take i))) := by
      rw [hT, labRs_at hir, List.getElem_map]
    have hx : xs[i].sz ≤ szRows (xs.map MBound.enc) := szRows_mem (List.mem_map_of_mem (List.getElem_mem hi))
    (repeat (with_reducible refine And.intro ?_ ?_; focus first | omega | rfl | assumption | exact ⟨_, rfl, rfl⟩ | (simp; omega) | (simp; done)))
    refine call_w (toBound_lab xs[i] (n + 1 + cntRs ((xs.map MBound.enc).take i)) (by omega)) ?_
    obtain ⟨row, hrow⟩ : ∃ row, row = labR (MBound.enc xs[i]) (n + 1 + cntRs ((xs.map MBound.enc).take i)) := ⟨_, rfl⟩
    have hrl : row.length = 4 := by rw [hrow, labR_length, MBound.enc_length]
    rw [← hrow] at hTi ⊢
    simp -implicitDefEqProofs (disch := omega) only [go_sem, hrl, mapM_toD]
    (repeat (with_reducible refine And.intro ?_ ?_; focus first | omega | rfl | assumption | exact ⟨_, rfl, rfl⟩ | (simp; omega) | (simp; done)))
    refine inv_at (i + 1, _) (by simp only; omega) rfl rfl ⟨by simp only; omega, p2.step hTi hrl⟩
  · have hi : i = xs.length := by omega
    rw [p2.done (by omega)]
end Go.Proofs.YtnleocfkdidhoaaGreat

namespace Go.Proofs.YtnleocfkdidhoaaGreat
open Go Go.Ab
theorem toExpr_labs : ∀ N : Nat, (∀ x : MExpr, SizeOf.sizeOf x < N → ∀ n : Nat, x.sz ≤ 1048576 → PCall Tryz.prog 14 [x.v] (.agg ((labR x.enc n).map .d))) ∧
    (∀ xs : List MExpr, SizeOf.sizeOf xs < N → ∀ n : Nat, xs.length + szRows (xs.map MExpr.enc) ≤ 1048576 → PCall Tryz.prog 54 [.c (.d (.sl (xs.map MExpr.enc)))] (.c (.d (labD (.sl (xs.map MExpr.enc)) n)))) ∧
    (∀ x : MArm, SizeOf.sizeOf x < N → ∀ n : Nat, x.sz ≤ 1048576 → PCall Tryz.prog 131 [x.v] (.agg ((labR x.enc n).map .d))) ∧
    (∀ xs : List MArm, SizeOf.sizeOf xs < N → ∀ n : Nat, xs.length + szRows (xs.map MArm.enc) ≤ 1048576 → PCall Tryz.prog 55 [.c (.d (.sl (xs.map MArm.enc)))] (.c (.d (labD (.sl (xs.map MArm.enc)) n))))
  | 0 => ⟨fun x h => by omega, fun x h => by omega, fun x h => by omega, fun x h => by omega⟩
  | N + 1 => by
    obtain ⟨ihExpr, ihSExpr, ihArm, ihSArm⟩ := toExpr_labs N
    refine ⟨fun x hn n hsz => ?_, fun xs hn n hsz => ?_, fun x hn n hsz => ?_, fun xs hn n hsz => ?_⟩
    · intro S
      have lArgs := MExpr.lt_Args x
      have lArms := MExpr.lt_Arms x
      simp only [MExpr.sz, MExpr.enc_eq, szRow, szRow_append, D.sz, List.length_map, MType.sz_def] at hsz
      refine acall_cw (rs := [.cell 2 45]) Tryz.checked.mixed Tryz.func14 Tryz.ntmps14 rfl rfl rfl rfl rfl ?_
      simp only [MExpr.enc_eq, MType.enc_eq, encS, encI, List.cons_append, List.nil_append, labR, labD, cntR, cntD, List.map_cons, List.map_nil, Nat.add_zero]
      simp -implicitDefEqProofs (disch := omega) only [go_sem]
      refine call_w (toType_lab x.fType (n) (by omega)) ?_
      simp -implicitDefEqProofs (disch := omega) only [go_sem, MType.enc_eq, encS, encI, List.cons_append, List.nil_append, labR, labD, cntR, cntD, List.map_cons, List.map_nil, Nat.add_zero]
      refine call_w (ihSExpr x.fArgs (by omega) (n + (cntRs (x.fType.fArgs.map MType.enc) + 1)) (by omega)) ?_
      simp -implicitDefEqProofs (disch := omega) only [go_sem, labD]
      refine call_w (ihSArm x.fArms (by omega) (n + (cntRs (x.fType.fArgs.map MType.enc) + 1) + (cntRs (x.fArgs.map MExpr.enc) + 1)) (by omega)) ?_
      simp -implicitDefEqProofs (disch := omega) only [go_sem, labD]
      all_goals (first | rfl | (simp only [Nat.add_assoc]; done))
    · obtain ⟨T, hT⟩ : ∃ T, T = labRs (xs.map MExpr.enc) (n + 1) := ⟨_, rfl⟩
      have hTl : T.length = xs.length := by rw [hT, labRs_length, List.length_map]
      show PCall Tryz.prog 54 [.c (.d (.sl (xs.map MExpr.enc)))] (.c (.d (.ol n (labRs (xs.map MExpr.enc) (n + 1))))) 
      rw [← hT]
      intro S
      refine acall_cwL (n) (rs := [.tmp 2]) Tryz.checked.mixed Tryz.func54 Tryz.ntmps54 rfl rfl rfl rfl rfl ?_
      simp -implicitDefEqProofs (disch := omega) only [go_sem]
      (repeat (with_reducible refine And.intro ?_ ?_; focus first | omega | rfl | assumption | exact ⟨_, rfl, rfl⟩ | (simp; omega) | (simp; done)))
      refine loop_at (ι := Nat × List (List D)) Tryz.checked.mixed rfl [0, 3, 4] (fun y => [.c (.d (.sl (xs.map MExpr.enc))), .c (.msl (0, 1)), .c (.d (.i .i64 y.1))]) (fun y => [.seed n, .mrow 9 y.2] :: S)
        (fun y => y.1 ≤ xs.length ∧ Filled 9 y.1 y.2 T) (fun y => xs.length - y.1) (0, _) rfl rfl ⟨Nat.zero_le _, Filled.start (by simp [hTl]) rfl⟩ ?_
      rintro ⟨i, R⟩ ⟨p1, p2⟩
      simp only at p1 p2
      simp -implicitDefEqProofs (disch := omega) only [go_sem]
      with_reducible refine split2 (fun hb => ?_) (fun hb => ?_) <;> have h := hb <;> (try simp only [wf_preprocess] at h) <;> simp -implicitDefEqProofs (disch := omega) only [go_sem, hb] <;> (repeat (with_reducible refine And.intro ?_ ?_; focus first | omega | rfl | assumption | exact ⟨_, rfl, rfl⟩ | (simp; omega) | (simp; done)))
      · have hi : i < xs.length := by omega
        have hir : i < (xs.map MExpr.enc).length := by rw [List.length_map]; exact hi
        have hR := p2.1
        rw [hTl] at hR
        have hTi : T[i]? = some (labR (MExpr.enc xs[i]) (n + 1 + cntRs ((xs.map MExpr.enc).take i))) := by
          rw [hT, labRs_at hir, List.getElem_map]
        have hx : xs[i].sz ≤ szRows (xs.map MExpr.enc) := szRows_mem (List.mem_map_of_mem (List.getElem_mem hi))
        (repeat (with_reducible refine And.intro ?_ ?_; focus first | omega | rfl | assumption | exact ⟨_, rfl, rfl⟩ | (simp; omega) | (simp; done)))
        refine call_w (ihExpr xs[i] (by have := List.sizeOf_lt_of_mem (List.getElem_mem hi); omega) (n + 1 + cntRs ((xs.map MExpr.enc).take i)) (by omega)) ?_
        obtain ⟨row, hrow⟩ : ∃ row, row = labR (MExpr.enc xs[i]) (n + 1 + cntRs ((xs.map MExpr.enc).take i)) := ⟨_, rfl⟩
        have hrl : row.length = 9 := by rw [hrow, labR_length, MExpr.enc_length]
        rw [← hrow] at hTi ⊢
        simp -implicitDefEqProofs (disch := omega) only [go_sem, hrl, mapM_toD]
        (repeat (with_reducible refine And.intro ?_ ?_; focus first | omega | rfl | assumption | exact ⟨_, rfl, rfl⟩ | (simp; omega) | (simp; done)))
        refine inv_at (i + 1, _) (by simp only; omega) rfl rfl ⟨by simp only; omega, p2.step hTi hrl⟩
      · have hi : i = xs.length := by omega
        rw [p2.done (by omega)]
    · intro S
      have lBody := MArm.lt_Body x
      simp only [MArm.sz, MArm.enc_eq, szRow, szRow_append, D.sz, List.length_map, MExpr.sz_def] at hsz
      refine acall_cw (rs := [.cell 2 106]) Tryz.checked.mixed Tryz.func131 Tryz.ntmps131 rfl rfl rfl rfl rfl ?_
      simp only [MArm.enc_eq, MExpr.enc_eq, MType.enc_eq, encS, encI, List.cons_append, List.nil_append, labR, labD, cntR, cntD, List.map_cons, List.map_nil, Nat.add_zero]
      simp -implicitDefEqProofs (disch := omega) only [go_sem]
      refine call_w (toStringS_lab x.fVars (n) (by omega)) ?_
      simp -implicitDefEqProofs (disch := omega) only [go_sem, labD]
      refine call_w (ihExpr x.fBody (by omega) (n + (cntRs (x.fVars.map encS) + 1)) (by omega)) ?_
      simp -implicitDefEqProofs (disch := omega) only [go_sem, MExpr.enc_eq, MType.enc_eq, encS, encI, List.cons_append, List.nil_append, labR, labD, cntR, cntD, List.map_cons, List.map_nil, Nat.add_zero]
      all_goals (first | rfl | (simp only [Nat.add_assoc]; done))
    · obtain ⟨T, hT⟩ : ∃ T, T = labRs (xs.map MArm.enc) (n + 1) := ⟨_, rfl⟩
      have hTl : T.length = xs.length := by rw [hT, labRs_length, List.length_map]
      show PCall Tryz.prog 55 [.c (.d (.sl (xs.map MArm.enc)))] (.c (.d (.ol n (labRs (xs.map MArm.enc) (n + 1))))) 
      rw [← hT]
      intro S
      refine acall_cwL (n) (rs := [.tmp 2]) Tryz.checked.mixed Tryz.func55 Tryz.ntmps55 rfl rfl rfl rfl rfl ?_
      simp -implicitDefEqProofs (disch := omega) only [go_sem]
      (repeat (with_reducible refine And.intro ?_ ?_; focus first | omega | rfl | assumption | exact ⟨_, rfl, rfl⟩ | (simp; omega) | (simp; done)))
      refine loop_at (ι := Nat × List (List D)) Tryz.checked.mixed rfl [0, 3, 4] (fun y => [.c (.d (.sl (xs.map MArm.enc))), .c (.msl (0, 1)), .c (.d (.i .i64 y.1))]) (fun y => [.seed n, .mrow 11 y.2] :: S)
        (fun y => y.1 ≤ xs.length ∧ Filled 11 y.1 y.2 T) (fun y => xs.length - y.1) (0, _) rfl rfl ⟨Nat.zero_le _, Filled.start (by simp [hTl]) rfl⟩ ?_
      rintro ⟨i, R⟩ ⟨p1, p2⟩
      simp only at p1 p2
      simp -implicitDefEqProofs (disch := omega) only [go_sem]
      with_reducible refine split2 (fun hb => ?_) (fun hb => ?_) <;> have h := hb <;> (try simp only [wf_preprocess] at h) <;> simp -implicitDefEqProofs (disch := omega) only [go_sem, hb] <;> (repeat (with_reducible refine And.intro ?_ ?_; focus first | omega | rfl | assumption | exact ⟨_, rfl, rfl⟩ | (simp; omega) | (simp; done)))
      · have hi : i < xs.length := by omega
        have hir : i < (xs.map MArm.enc).length := by rw [List.length_map]; exact hi
        have hR := p2.1
        rw [hTl] at hR
        have hTi : T[i]? = some (labR (MArm.enc xs[i]) (n + 1 + cntRs ((xs.map MArm.enc).take i))) := by
          rw [hT, labRs_at hir, List.getElem_map]
        have hx : xs[i].sz ≤ szRows (xs.map MArm.enc) := szRows_mem (List.mem_map_of_mem (List.getElem_mem hi))
        (repeat (with_reducible refine And.intro ?_ ?_; focus first | omega | rfl | assumption | exact ⟨_, rfl, rfl⟩ | (simp; omega) | (simp; done)))
        refine call_w (ihArm xs[i] (by have := List.sizeOf_lt_of_mem (List.getElem_mem hi); omega) (n + 1 + cntRs ((xs.map MArm.enc).take i)) (by omega)) ?_
        obtain ⟨row, hrow⟩ : ∃ row, row = labR (MArm.enc xs[i]) (n + 1 + cntRs ((xs.map MArm.enc).take i)) := ⟨_, rfl⟩
        have hrl : row.length = 11 := by rw [hrow, labR_length, MArm.enc_length]
        rw [← hrow] at hTi ⊢
        simp -implicitDefEqProofs (disch := omega) only [go_sem, hrl, mapM_toD]
        (repeat (with_reducible refine And.intro ?_ ?_; focus first | omega | rfl | assumption | exact ⟨_, rfl, rfl⟩ | (simp; omega) | (simp; done)))
        refine inv_at (i + 1, _) (by simp only; omega) rfl rfl ⟨by simp only; omega, p2.step hTi hrl⟩
      · have hi : i = xs.length := by omega
        rw [p2.done (by omega)]
theorem toExpr_lab (x : MExpr) : ∀ n : Nat, x.sz ≤ 1048576 → PCall Tryz.prog 14 [x.v] (.agg ((labR x.enc n).map .d)) := (toExpr_labs _).1 x (Nat.lt_succ_self _)
end Go.Proofs.YtnleocfkdidhoaaGreat

namespace Go.Proofs.YtnleocfkdidhoaaGreat
open Go Go.Ab
end Go.Proofs.YtnleocfkdidhoaaGreat

namespace Go.Proofs.YtnleocfkdidhoaaGreat
open Go Go.Ab
theorem toSignature_lab (x : MSignature) : ∀ n : Nat, x.sz ≤ 1048576 → PCall Tryz.prog 264 [x.v] (.agg ((labR x.enc n).map .d)) := by
  intro n hsz S
  simp only [MSignature.sz, MSignature.enc_eq, szRow, szRow_append, D.sz, List.length_map, MExpr.sz_def, MType.sz_def] at hsz
  refine acall_cw (rs := [.cell 2 180]) Tryz.checked.mixed Tryz.func264 Tryz.ntmps264 rfl rfl rfl rfl rfl ?_
  simp only [MExpr.enc_eq, MSignature.enc_eq, MType.enc_eq, encS, encI, List.cons_append, List.nil_append, labR, labD, cntR, cntD, List.map_cons, List.map_nil, Nat.add_zero]
  simp -implicitDefEqProofs (disch := omega) only [go_sem]
  refine call_w (toTypeS_lab x.fParams (n) (by omega)) ?_
  simp -implicitDefEqProofs (disch := omega) only [go_sem, labD]
  refine call_w (toType_lab x.fResult (n + (cntRs (x.fParams.map MType.enc) + 1)) (by omega)) ?_
  simp -implicitDefEqProofs (disch := omega) only [go_sem, MType.enc_eq, encS, encI, List.cons_append, List.nil_append, labR, labD, cntR, cntD, List.map_cons, List.map_nil, Nat.add_zero]
  refine call_w (toStringS_lab x.fVars (n + (cntRs (x.fParams.map MType.enc) + 1) + (cntRs (x.fResult.fArgs.map MType.enc) + 1)) (by omega)) ?_
  simp -implicitDefEqProofs (disch := omega) only [go_sem, labD]
  refine call_w (toExpr_lab x.fBody (n + (cntRs (x.fParams.map MType.enc) + 1) + (cntRs (x.fResult.fArgs.map MType.enc) + 1) + (cntRs (x.fVars.map encS) + 1)) (by omega)) ?_
  simp -implicitDefEqProofs (disch := omega) only [go_sem, MExpr.enc_eq, MType.enc_eq, encS, encI, List.cons_append, List.nil_append, labR, labD, cntR, cntD, List.map_cons, List.map_nil, Nat.add_zero]
  all_goals (first | rfl | (simp only [Nat.add_assoc]; done))
theorem toSignatureS_lab (xs : List MSignature) : ∀ n : Nat, xs.length + szRows (xs.map MSignature.enc) ≤ 1048576 → PCall Tryz.prog 219 [.c (.d (.sl (xs.map MSignature.enc)))] (.c (.d (labD (.sl (xs.map MSignature.enc)) n))) := by
  intro n hsz
  obtain ⟨T, hT⟩ : ∃ T, T = labRs (xs.map MSignature.enc) (n + 1) := ⟨_, rfl⟩
  have hTl : T.length = xs.length := by rw [hT, labRs_length, List.length_map]
  show PCall Tryz.prog 219 [.c (.d (.sl (xs.map MSignature.enc)))] (.c (.d (.ol n (labRs (xs.map MSignature.enc) (n + 1))))) 
  rw [← hT]
  intro S
  refine acall_cwL (n) (rs := [.tmp 2]) Tryz.checked.mixed Tryz.func219 Tryz.ntmps219 rfl rfl rfl rfl rfl ?_
  simp -implicitDefEqProofs (disch := omega) only [go_sem]
  (repeat (with_reducible refine And.intro ?_ ?_; focus first | omega | rfl | assumption | exact ⟨_, rfl, rfl⟩ | (simp; omega) | (simp; done)))
  refine loop_at (ι := Nat × List (List D)) Tryz.checked.mixed rfl [0, 3, 4] (fun y => [.c (.d (.sl (xs.map MSignature.enc))), .c (.msl (0, 1)), .c (.d (.i .i64 y.1))]) (fun y => [.seed n, .mrow 16 y.2] :: S)
    (fun y => y.1 ≤ xs.length ∧ Filled 16 y.1 y.2 T) (fun y => xs.length - y.1) (0, _) rfl rfl ⟨Nat.zero_le _, Filled.start (by simp [hTl]) rfl⟩ ?_
  rintro ⟨i, R⟩ ⟨p1, p2⟩
  simp only at p1 p2
  simp -implicitDefEqProofs (disch := omega) only [go_sem]
  with_reducible refine split2 (fun hb => ?_) (fun hb => ?_) <;> have h := hb <;> (try simp only [wf_preprocess] at h) <;> simp -implicitDefEqProofs (disch := omega) only [go_sem, hb] <;> (repeat (with_reducible refine And.intro ?_ ?_; focus first | omega | rfl | assumption | exact ⟨_, rfl, rfl⟩ | (simp; omega) | (simp; done)))
  · have hi : i < xs.length := by omega
    have hir : i < (xs.map MSignature.enc).length := by rw [List.length_map]; exact hi
    have hR := p2.1
    rw [hTl] at hR
    have hTi : T[i]? = some (labR (MSignature.enc xs[i]) (n + 1 + cntRs ((xs.map MSignature.enc).take i))) := by
      rw [hT, labRs_at hir, List.getElem_map]
    have hx : xs[i].sz ≤ szRows (xs.map MSignature.enc) := szRows_mem (List.mem_map_of_mem (List.getElem_mem hi))
    (repeat (with_reducible refine And.intro ?_ ?_; focus first | omega | rfl | assumption | exact ⟨_, rfl, rfl⟩ | (simp; omega) | (simp; done)))
    refine call_w (toSignature_lab xs[i] (n + 1 + cntRs ((xs.map MSignature.enc).take i)) (by omega)) ?_
    obtain ⟨row, hrow⟩ : ∃ row, row = labR (MSignature.enc xs[i]) (n + 1 + cntRs ((xs.map MSignature.enc).take i)) := ⟨_, rfl⟩
    have hrl : row.length = 16 := by rw [hrow, labR_length, MSignature.enc_length]
    rw [← hrow] at hTi ⊢
    simp -implicitDefEqProofs (disch := omega) only [go_sem, hrl, mapM_toD]
    (repeat (with_reducible refine And.intro ?_ ?_; focus first | omega | rfl | assumption | exact ⟨_, rfl, rfl⟩ | (simp; omega) | (simp; done)))
    refine inv_at (i + 1, _) (by simp only; omega) rfl rfl ⟨by simp only; omega, p2.step hTi hrl⟩
  · have hi : i = xs.length := by omega
    rw [p2.done (by omega)]
end Go.Proofs.YtnleocfkdidhoaaGreat

namespace Go.Proofs.YtnleocfkdidhoaaGreat
open Go Go.Ab
theorem toTrait_lab (x : MTrait) : ∀ n : Nat, x.sz ≤ 1048576 → PCall Tryz.prog 145 [x.v] (.agg ((labR x.enc n).map .d)) := by
  intro n hsz S
  simp only [MTrait.sz, MTrait.enc_eq, szRow, szRow_append, D.sz, List.length_map] at hsz
  refine acall_cw (rs := [.cell 2 139]) Tryz.checked.mixed Tryz.func145 Tryz.ntmps145 rfl rfl rfl rfl rfl ?_
  simp only [MTrait.enc_eq, encS, encI, List.cons_append, List.nil_append, labR, labD, cntR, cntD, List.map_cons, List.map_nil, Nat.add_zero]
  simp -implicitDefEqProofs (disch := omega) only [go_sem]
  refine call_w (toStringS_lab x.fSupertraits (n) (by omega)) ?_
  simp -implicitDefEqProofs (disch := omega) only [go_sem, labD]
  refine call_w (toSignatureS_lab x.fSignatures (n + (cntRs (x.fSupertraits.map encS) + 1)) (by omega)) ?_
  simp -implicitDefEqProofs (disch := omega) only [go_sem, labD]
  all_goals (first | rfl | (simp only [Nat.add_assoc]; done))
theorem toTraitS_lab (xs : List MTrait) : ∀ n : Nat, xs.length + szRows (xs.map MTrait.enc) ≤ 1048576 → PCall Tryz.prog 74 [.c (.d (.sl (xs.map MTrait.enc)))] (.c (.d (labD (.sl (xs.map MTrait.enc)) n))) := by
  intro n hsz
  obtain ⟨T, hT⟩ : ∃ T, T = labRs (xs.map MTrait.enc) (n + 1) := ⟨_, rfl⟩
  have hTl : T.length = xs.length := by rw [hT, labRs_length, List.length_map]
  show PCall Tryz.prog 74 [.c (.d (.sl (xs.map MTrait.enc)))] (.c (.d (.ol n (labRs (xs.map MTrait.enc) (n + 1))))) 
  rw [← hT]
  intro S
  refine acall_cwL (n) (rs := [.tmp 2]) Tryz.checked.mixed Tryz.func74 Tryz.ntmps74 rfl rfl rfl rfl rfl ?_
  simp -implicitDefEqProofs (disch := omega) only [go_sem]
  (repeat (with_reducible refine And.intro ?_ ?_; focus first | omega | rfl | assumption | exact ⟨_, rfl, rfl⟩ | (simp; omega) | (simp; done)))
  refine loop_at (ι := Nat × List (List D)) Tryz.checked.mixed rfl [0, 3, 4] (fun y => [.c (.d (.sl (xs.map MTrait.enc))), .c (.msl (0, 1)), .c (.d (.i .i64 y.1))]) (fun y => [.seed n, .mrow 5 y.2] :: S)
    (fun y => y.1 ≤ xs.length ∧ Filled 5 y.1 y.2 T) (fun y => xs.length - y.1) (0, _) rfl rfl ⟨Nat.zero_le _, Filled.start (by simp [hTl]) rfl⟩ ?_
  rintro ⟨i, R⟩ ⟨p1, p2⟩
  simp only at p1 p2
  simp -implicitDefEqProofs (disch := omega) only [go_sem]
  with_reducible refine split2 (fun hb => ?_) (fun hb => ?_) <;> have h := hb <;> (try simp only [wf_preprocess] at h) <;> simp -implicitDefEqProofs (disch := omega) only [go_sem, hb] <;> (repeat (with_reducible refine And.intro ?_ ?_; focus first | omega | rfl | assumption | exact ⟨_, rfl, rfl⟩ | (simp; omega) | (simp; done)))
  · have hi : i < xs.length := by omega
    have hir : i < (xs.map MTrait.enc).length := by rw [List.length_map]; exact hi
    have hR := p2.1
    rw [hTl] at hR
    have hTi : T[i]? = some (labR (MTrait.enc xs[i]) (n + 1 + cntRs ((xs.map MTrait.enc).take i))) := by
      rw [hT, labRs_at hir, List.getElem_map]
    have hx : xs[i].sz ≤ szRows (xs.map MTrait.enc) := szRows_mem (List.mem_map_of_mem (List.getElem_mem hi))
    (repeat (with_reducible refine And.intro ?_ ?_; focus first | omega | rfl | assumption | exact ⟨_, rfl, rfl⟩ | (simp; omega) | (simp; done)))
    refine call_w (toTrait_lab xs[i] (n + 1 + cntRs ((xs.map MTrait.enc).take i)) (by omega)) ?_
    obtain ⟨row, hrow⟩ : ∃ row, row = labR (MTrait.enc xs[i]) (n + 1 + cntRs ((xs.map MTrait.enc).take i)) := ⟨_, rfl⟩
    have hrl : row.length = 5 := by rw [hrow, labR_length, MTrait.enc_length]
    rw [← hrow] at hTi ⊢
    simp -implicitDefEqProofs (disch := omega) only [go_sem, hrl, mapM_toD]
    (repeat (with_reducible refine And.intro ?_ ?_; focus first | omega | rfl | assumption | exact ⟨_, rfl, rfl⟩ | (simp; omega) | (simp; done)))
    refine inv_at (i + 1, _) (by simp only; omega) rfl rfl ⟨by simp only; omega, p2.step hTi hrl⟩
  · have hi : i = xs.length := by omega
    rw [p2.done (by omega)]
end Go.Proofs.YtnleocfkdidhoaaGreat

namespace Go.Proofs.YtnleocfkdidhoaaGreat
open Go Go.Ab
theorem toConstructor_lab (x : MConstructor) : ∀ n : Nat, x.sz ≤ 1048576 → PCall Tryz.prog 265 [x.v] (.agg ((labR x.enc n).map .d)) := by
  intro n hsz S
  simp only [MConstructor.sz, MConstructor.enc_eq, szRow, szRow_append, D.sz, List.length_map] at hsz
  refine acall_cw (rs := [.cell 2 185]) Tryz.checked.mixed Tryz.func265 Tryz.ntmps265 rfl rfl rfl rfl rfl ?_
  simp only [MConstructor.enc_eq, encS, encI, List.cons_append, List.nil_append, labR, labD, cntR, cntD, List.map_cons, List.map_nil, Nat.add_zero]
  simp -implicitDefEqProofs (disch := omega) only [go_sem]
  refine call_w (toTypeS_lab x.fFields (n) (by omega)) ?_
  simp -implicitDefEqProofs (disch := omega) only [go_sem, labD]
  all_goals (first | rfl | (simp only [Nat.add_assoc]; done))
theorem toConstructorS_lab (xs : List MConstructor) : ∀ n : Nat, xs.length + szRows (xs.map MConstructor.enc) ≤ 1048576 → PCall Tryz.prog 220 [.c (.d (.sl (xs.map MConstructor.enc)))] (.c (.d (labD (.sl (xs.map MConstructor.enc)) n))) := by
  intro n hsz
  obtain ⟨T, hT⟩ : ∃ T, T = labRs (xs.map MConstructor.enc) (n + 1) := ⟨_, rfl⟩
  have hTl : T.length = xs.length := by rw [hT, labRs_length, List.length_map]
  show PCall Tryz.prog 220 [.c (.d (.sl (xs.map MConstructor.enc)))] (.c (.d (.ol n (labRs (xs.map MConstructor.enc) (n + 1))))) 
  rw [← hT]
  intro S
  refine acall_cwL (n) (rs := [.tmp 2]) Tryz.checked.mixed Tryz.func220 Tryz.ntmps220 rfl rfl rfl rfl rfl ?_
  simp -implicitDefEqProofs (disch := omega) only [go_sem]
  (repeat (with_reducible refine And.intro ?_ ?_; focus first | omega | rfl | assumption | exact ⟨_, rfl, rfl⟩ | (simp; omega) | (simp; done)))
  refine loop_at (ι := Nat × List (List D)) Tryz.checked.mixed rfl [0, 3, 4] (fun y => [.c (.d (.sl (xs.map MConstructor.enc))), .c (.msl (0, 1)), .c (.d (.i .i64 y.1))]) (fun y => [.seed n, .mrow 2 y.2] :: S)
    (fun y => y.1 ≤ xs.length ∧ Filled 2 y.1 y.2 T) (fun y => xs.length - y.1) (0, _) rfl rfl ⟨Nat.zero_le _, Filled.start (by simp [hTl]) rfl⟩ ?_
  rintro ⟨i, R⟩ ⟨p1, p2⟩
  simp only at p1 p2
  simp -implicitDefEqProofs (disch := omega) only [go_sem]
  with_reducible refine split2 (fun hb => ?_) (fun hb => ?_) <;> have h := hb <;> (try simp only [wf_preprocess] at h) <;> simp -implicitDefEqProofs (disch := omega) only [go_sem, hb] <;> (repeat (with_reducible refine And.intro ?_ ?_; focus first | omega | rfl | assumption | exact ⟨_, rfl, rfl⟩ | (simp; omega) | (simp; done)))
  · have hi : i < xs.length := by omega
    have hir : i < (xs.map MConstructor.enc).length := by rw [List.length_map]; exact hi
    have hR := p2.1
    rw [hTl] at hR
    have hTi : T[i]? = some (labR (MConstructor.enc xs[i]) (n + 1 + cntRs ((xs.map MConstructor.enc).take i))) := by
      rw [hT, labRs_at hir, List.getElem_map]
    have hx : xs[i].sz ≤ szRows (xs.map MConstructor.enc) := szRows_mem (List.mem_map_of_mem (List.getElem_mem hi))
    (repeat (with_reducible refine And.intro ?_ ?_; focus first | omega | rfl | assumption | exact ⟨_, rfl, rfl⟩ | (simp; omega) | (simp; done)))
    refine call_w (toConstructor_lab xs[i] (n + 1 + cntRs ((xs.map MConstructor.enc).take i)) (by omega)) ?_
    obtain ⟨row, hrow⟩ : ∃ row, row = labR (MConstructor.enc xs[i]) (n + 1 + cntRs ((xs.map MConstructor.enc).take i)) := ⟨_, rfl⟩
    have hrl : row.length = 2 := by rw [hrow, labR_length, MConstructor.enc_length]
    rw [← hrow] at hTi ⊢
    simp -implicitDefEqProofs (disch := omega) only [go_sem, hrl, mapM_toD]
    (repeat (with_reducible refine And.intro ?_ ?_; focus first | omega | rfl | assumption | exact ⟨_, rfl, rfl⟩ | (simp; omega) | (simp; done)))
    refine inv_at (i + 1, _) (by simp only; omega) rfl rfl ⟨by simp only; omega, p2.step hTi hrl⟩
  · have hi : i = xs.length := by omega
    rw [p2.done (by omega)]
end Go.Proofs.YtnleocfkdidhoaaGreat

namespace Go.Proofs.YtnleocfkdidhoaaGreat
open Go Go.Ab
theorem toDataType_lab (x : MDataType) : ∀ n : Nat, x.sz ≤ 1048576 → PCall Tryz.prog 146 [x.v] (.agg ((labR x.enc n).map .d)) := by
  intro n hsz S
  simp only [MDataType.sz, MDataType.enc_eq, szRow, szRow_append, D.sz, List.length_map] at hsz
  refine acall_cw (rs := [.cell 2 82]) Tryz.checked.mixed Tryz.func146 Tryz.ntmps146 rfl rfl rfl rfl rfl ?_
  simp only [MDataType.enc_eq, encS, encI, List.cons_append, List.nil_append, labR, labD, cntR, cntD, List.map_cons, List.map_nil, Nat.add_zero]
  simp -implicitDefEqProofs (disch := omega) only [go_sem]
  refine call_w (toStringS_lab x.fVars (n) (by omega)) ?_
  simp -implicitDefEqProofs (disch := omega) only [go_sem, labD]
  refine call_w (toConstructorS_lab x.fConstructors (n + (cntRs (x.fVars.map encS) + 1)) (by omega)) ?_
  simp -implicitDefEqProofs (disch := omega) only [go_sem, labD]
  all_goals (first | rfl | (simp only [Nat.add_assoc]; done))
theorem toDataTypeS_lab (xs : List MDataType) : ∀ n : Nat, xs.length + szRows (xs.map MDataType.enc) ≤ 1048576 → PCall Tryz.prog 75 [.c (.d (.sl (xs.map MDataType.enc)))] (.c (.d (labD (.sl (xs.map MDataType.enc)) n))) := by
  intro n hsz
  obtain ⟨T, hT⟩ : ∃ T, T = labRs (xs.map MDataType.enc) (n + 1) := ⟨_, rfl⟩
  have hTl : T.length = xs.length := by rw [hT, labRs_length, List.length_map]
  show PCall Tryz.prog 75 [.c (.d (.sl (xs.map MDataType.enc)))] (.c (.d (.ol n (labRs (xs.map MDataType.enc) (n + 1))))) 
  rw [← hT]
  intro S
  refine acall_cwL (n) (rs := [.tmp 2]) Tryz.checked.mixed Tryz.func75 Tryz.ntmps75 rfl rfl rfl rfl rfl ?_
  simp -implicitDefEqProofs (disch := omega) only [go_sem]
  (repeat (with_reducible refine And.intro ?_ ?_; focus first | omega | rfl | assumption | exact ⟨_, rfl, rfl⟩ | (simp; omega) | (simp; done)))
  refine loop_at (ι := Nat × List (List D)) Tryz.checked.mixed rfl [0, 3, 4] (fun y => [.c (.d (.sl (xs.map MDataType.enc))), .c (.msl (0, 1)), .c (.d (.i .i64 y.1))]) (fun y => [.seed n, .mrow 3 y.2] :: S)
    (fun y => y.1 ≤ xs.length ∧ Filled 3 y.1 y.2 T) (fun y => xs.length - y.1) (0, _) rfl rfl ⟨Nat.zero_le _, Filled.start (by simp [hTl]) rfl⟩ ?_
  rintro ⟨i, R⟩ ⟨p1, p2⟩
  simp only at p1 p2
  simp -implicitDefEqProofs (disch := omega) only [go_sem]
  with_reducible refine split2 (fun hb => ?_) (fun hb => ?_) <;> have h := hb <;> (try simp only [wf_preprocess] at h) <;> simp -implicitDefEqProofs (disch := omega) only [go_sem, hb] <;> (repeat (with_reducible refine And.intro ?_ ?_; focus first | omega | rfl | assumption | exact ⟨_, rfl, rfl⟩ | (simp; omega) | (simp; done)))
  · have hi : i < xs.length := by omega
    have hir : i < (xs.map MDataType.enc).length := by rw [List.length_map]; exact hi
    have hR := p2.1
    rw [hTl] at hR
    have hTi : T[i]? = some (labR (MDataType.enc xs[i]) (n + 1 + cntRs ((xs.map MDataType.enc).take i))) := by
      rw [hT, labRs_at hir, List.getElem_map]
    have hx : xs[i].sz ≤ szRows (xs.map MDataType.enc) := szRows_mem (List.mem_map_of_mem (List.getElem_mem hi))
    (repeat (with_reducible refine And.intro ?_ ?_; focus first | omega | rfl | assumption | exact ⟨_, rfl, rfl⟩ | (simp; omega) | (simp; done)))
    refine call_w (toDataType_lab xs[i] (n + 1 + cntRs ((xs.map MDataType.enc).take i)) (by omega)) ?_
    obtain ⟨row, hrow⟩ : ∃ row, row = labR (MDataType.enc xs[i]) (n + 1 + cntRs ((xs.map MDataType.enc).take i)) := ⟨_, rfl⟩
    have hrl : row.length = 3 := by rw [hrow, labR_length, MDataType.enc_length]
    rw [← hrow] at hTi ⊢
    simp -implicitDefEqProofs (disch := omega) only [go_sem, hrl, mapM_toD]
    (repeat (with_reducible refine And.intro ?_ ?_; focus first | omega | rfl | assumption | exact ⟨_, rfl, rfl⟩ | (simp; omega) | (simp; done)))
    refine inv_at (i + 1, _) (by simp only; omega) rfl rfl ⟨by simp only; omega, p2.step hTi hrl⟩
  · have hi : i = xs.length := by omega
    rw [p2.done (by omega)]
end Go.Proofs.YtnleocfkdidhoaaGreat

namespace Go.Proofs.YtnleocfkdidhoaaGreat
open Go Go.Ab
theorem toMethod_lab (x : MMethod) : ∀ n : Nat, x.sz ≤ 1048576 → PCall Tryz.prog 267 [x.v] (.agg ((labR x.enc n).map .d)) := by
  intro n hsz S
  simp only [MMethod.sz, MMethod.enc_eq, szRow, szRow_append, D.sz, List.length_map, MExpr.sz_def] at hsz
  refine acall_cw (rs := [.cell 2 225]) Tryz.checked.mixed Tryz.func267 Tryz.ntmps267 rfl rfl rfl rfl rfl ?_
  simp only [MExpr.enc_eq, MMethod.enc_eq, MType.enc_eq, encS, encI, List.cons_append, List.nil_append, labR, labD, cntR, cntD, List.map_cons, List.map_nil, Nat.add_zero]
  simp -implicitDefEqProofs (disch := omega) only [go_sem]
  refine call_w (toStringS_lab x.fVars (n) (by omega)) ?_
  simp -implicitDefEqProofs (disch := omega) only [go_sem, labD]
  refine call_w (toExpr_lab x.fBody (n + (cntRs (x.fVars.map encS) + 1)) (by omega)) ?_
  simp -implicitDefEqProofs (disch := omega) only [go_sem, MExpr.enc_eq, MType.enc_eq, encS, encI, List.cons_append, List.nil_append, labR, labD, cntR, cntD, List.map_cons, List.map_nil, Nat.add_zero]
  all_goals (first | rfl | (simp only [Nat.add_assoc]; done))
theorem toMethodS_lab (xs : List MMethod) : ∀ n : Nat, xs.length + szRows (xs.map MMethod.enc) ≤ 1048576 → PCall Tryz.prog 222 [.c (.d (.sl (xs.map MMethod.enc)))] (.c (.d (labD (.sl (xs.map MMethod.enc)) n))) := by
  intro n hsz
  obtain ⟨T, hT⟩ : ∃ T, T = labRs (xs.map MMethod.enc) (n + 1) := ⟨_, rfl⟩
  have hTl : T.length = xs.length := by rw [hT, labRs_length, List.length_map]
  show PCall Tryz.prog 222 [.c (.d (.sl (xs.map MMethod.enc)))] (.c (.d (.ol n (labRs (xs.map MMethod.enc) (n + 1))))) 
  rw [← hT]
  intro S
  refine acall_cwL (n) (rs := [.tmp 2]) Tryz.checked.mixed Tryz.func222 Tryz.ntmps222 rfl rfl rfl rfl rfl ?_
  simp -implicitDefEqProofs (disch := omega) only [go_sem]
  (repeat (with_reducible refine And.intro ?_ ?_; focus first | omega | rfl | assumption | exact ⟨_, rfl, rfl⟩ | (simp; omega) | (simp; done)))
  refine loop_at (ι := Nat × List (List D)) Tryz.checked.mixed rfl [0, 3, 4] (fun y => [.c (.d (.sl (xs.map MMethod.enc))), .c (.msl (0, 1)), .c (.d (.i .i64 y.1))]) (fun y => [.seed n, .mrow 11 y.2] :: S)
    (fun y => y.1 ≤ xs.length ∧ Filled 11 y.1 y.2 T) (fun y => xs.length - y.1) (0, _) rfl rfl ⟨Nat.zero_le _, Filled.start (by simp [hTl]) rfl⟩ ?_
  rintro ⟨i, R⟩ ⟨p1, p2⟩
  simp only at p1 p2
  simp -implicitDefEqProofs (disch := omega) only [go_sem]
  with_reducible refine split2 (fun hb => ?_) (fun hb => ?_) <;> have h := hb <;> (try simp only [wf_preprocess] at h) <;> simp -implicitDefEqProofs (disch := omega) only [go_sem, hb] <;> (repeat (with_reducible refine And.intro ?_ ?_; focus first | omega | rfl | assumption | exact ⟨_, rfl, rfl⟩ | (simp; omega) | (simp; done)))
  · have hi : i < xs.length := by omega
    have hir : i < (xs.map MMethod.enc).length := by rw [List.length_map]; exact hi
    have hR := p2.1
    rw [hTl] at hR
    have hTi : T[i]? = some (labR (MMethod.enc xs[i]) (n + 1 + cntRs ((xs.map MMethod.enc).take i))) := by
      rw [hT, labRs_at hir, List.getElem_map]
    have hx : xs[i].sz ≤ szRows (xs.map MMethod.enc) := szRows_mem (List.mem_map_of_mem (List.getElem_mem hi))
    (repeat (with_reducible refine And.intro ?_ ?_; focus first | omega | rfl | assumption | exact ⟨_, rfl, rfl⟩ | (simp; omega) | (simp; done)))
    refine call_w (toMethod_lab xs[i] (n + 1 + cntRs ((xs.map MMethod.enc).take i)) (by omega)) ?_
    obtain ⟨row, hrow⟩ : ∃ row, row = labR (MMethod.enc xs[i]) (n + 1 + cntRs ((xs.map MMethod.enc).take i)) := ⟨_, rfl⟩
    have hrl : row.length = 11 := by rw [hrow, labR_length, MMethod.enc_length]
    rw [← hrow] at hTi ⊢
    simp -implicitDefEqProofs (disch := omega) only [go_sem, hrl, mapM_toD]
    (repeat (with_reducible refine And.intro ?_ ?_; focus first | omega | rfl | assumption | exact ⟨_, rfl, rfl⟩ | (simp; omega) | (simp; done)))
    refine inv_at (i + 1, _) (by simp only; omega) rfl rfl ⟨by simp only; omega, p2.step hTi hrl⟩
  · have hi : i = xs.length := by omega
    rw [p2.done (by omega)]
end Go.Proofs.YtnleocfkdidhoaaGreat

namespace Go.Proofs.YtnleocfkdidhoaaGreat
open Go Go.Ab
theorem toInstance_lab (x : MInstance) : ∀ n : Nat, x.sz ≤ 1048576 → PCall Tryz.prog 147 [x.v] (.agg ((labR x.enc n).map .d)) := by
  intro n hsz S
  simp only [MInstance.sz, MInstance.enc_eq, szRow, szRow_append, D.sz, List.length_map, MType.sz_def] at hsz
  refine acall_cw (rs := [.cell 2 93]) Tryz.checked.mixed Tryz.func147 Tryz.ntmps147 rfl rfl rfl rfl rfl ?_
  simp only [MInstance.enc_eq, MType.enc_eq, encS, encI, List.cons_append, List.nil_append, labR, labD, cntR, cntD, List.map_cons, List.map_nil, Nat.add_zero]
  simp -implicitDefEqProofs (disch := omega) only [go_sem]
  refine call_w (toStringS_lab x.fVars (n) (by omega)) ?_
  simp -implicitDefEqProofs (disch := omega) only [go_sem, labD]
  refine call_w (toType_lab x.fHead (n + (cntRs (x.fVars.map encS) + 1)) (by omega)) ?_
  simp -implicitDefEqProofs (disch := omega) only [go_sem, MType.enc_eq, encS, encI, List.cons_append, List.nil_append, labR, labD, cntR, cntD, List.map_cons, List.map_nil, Nat.add_zero]
  refine call_w (toBoundS_lab x.fWhere (n + (cntRs (x.fVars.map encS) + 1) + (cntRs (x.fHead.fArgs.map MType.enc) + 1)) (by omega)) ?_
  simp -implicitDefEqProofs (disch := omega) only [go_sem, labD]
  refine call_w (toType_lab x.fAssoc (n + (cntRs (x.fVars.map encS) + 1) + (cntRs (x.fHead.fArgs.map MType.enc) + 1) + (cntRs (x.fWhere.map MBound.enc) + 1)) (by omega)) ?_
  simp -implicitDefEqProofs (disch := omega) only [go_sem, MType.enc_eq, encS, encI, List.cons_append, List.nil_append, labR, labD, cntR, cntD, List.map_cons, List.map_nil, Nat.add_zero]
  refine call_w (toMethodS_lab x.fMethods (n + (cntRs (x.fVars.map encS) + 1) + (cntRs (x.fHead.fArgs.map MType.enc) + 1) + (cntRs (x.fWhere.map MBound.enc) + 1) + (cntRs (x.fAssoc.fArgs.map MType.enc) + 1)) (by omega)) ?_
  simp -implicitDefEqProofs (disch := omega) only [go_sem, labD]
  all_goals (first | rfl | (simp only [Nat.add_assoc]; done))
theorem toInstanceS_lab (xs : List MInstance) : ∀ n : Nat, xs.length + szRows (xs.map MInstance.enc) ≤ 1048576 → PCall Tryz.prog 76 [.c (.d (.sl (xs.map MInstance.enc)))] (.c (.d (labD (.sl (xs.map MInstance.enc)) n))) := by
  intro n hsz
  obtain ⟨T, hT⟩ : ∃ T, T = labRs (xs.map MInstance.enc) (n + 1) := ⟨_, rfl⟩
  have hTl : T.length = xs.length := by rw [hT, labRs_length, List.length_map]
  show PCall Tryz.prog 76 [.c (.d (.sl (xs.map MInstance.enc)))] (.c (.d (.ol n (labRs (xs.map MInstance.enc) (n + 1))))) 
  rw [← hT]
  intro S
  refine acall_cwL (n) (rs := [.tmp 2]) Tryz.checked.mixed Tryz.func76 Tryz.ntmps76 rfl rfl rfl rfl rfl ?_
  simp -implicitDefEqProofs (disch := omega) only [go_sem]
  (repeat (with_reducible refine And.intro ?_ ?_; focus first | omega | rfl | assumption | exact ⟨_, rfl, rfl⟩ | (simp; omega) | (simp; done)))
  refine loop_at (ι := Nat × List (List D)) Tryz.checked.mixed rfl [0, 3, 4] (fun y => [.c (.d (.sl (xs.map MInstance.enc))), .c (.msl (0, 1)), .c (.d (.i .i64 y.1))]) (fun y => [.seed n, .mrow 12 y.2] :: S)
    (fun y => y.1 ≤ xs.length ∧ Filled 12 y.1 y.2 T) (fun y => xs.length - y.1) (0, _) rfl rfl ⟨Nat.zero_le _, Filled.start (by simp [hTl]) rfl⟩ ?_
  rintro ⟨i, R⟩ ⟨p1, p2⟩
  simp only at p1 p2
  simp -implicitDefEqProofs (disch := omega) only [go_sem]
  with_reducible refine split2 (fun hb => ?_) (fun hb => ?_) <;> have h := hb <;> (try simp only [wf_preprocess] at h) <;> simp -implicitDefEqProofs (disch := omega) only [go_sem, hb] <;> (repeat (with_reducible refine And.intro ?_ ?_; focus first | omega | rfl | assumption | exact ⟨_, rfl, rfl⟩ | (simp; omega) | (simp; done)))
  · have hi : i < xs.length := by omega
    have hir : i < (xs.map MInstance.enc).length := by rw [List.length_map]; exact hi
    have hR := p2.1
    rw [hTl] at hR
    have hTi : T[i]? = some (labR (MInstance.enc xs[i]) (n + 1 + cntRs ((xs.map MInstance.enc).take i))) := by
      rw [hT, labRs_at hir, List.getElem_map]
    have hx : xs[i].sz ≤ szRows (xs.map MInstance.enc) := szRows_mem (List.mem_map_of_mem (List.getElem_mem hi))
    (repeat (with_reducible refine And.intro ?_ ?_; focus first | omega | rfl | assumption | exact ⟨_, rfl, rfl⟩ | (simp; omega) | (simp; done)))
    refine call_w (toInstance_lab xs[i] (n + 1 + cntRs ((xs.map MInstance.enc).take i)) (by omega)) ?_
    obtain ⟨row, hrow⟩ : ∃ row, row = labR (MInstance.enc xs[i]) (n + 1 + cntRs ((xs.map MInstance.enc).take i)) := ⟨_, rfl⟩
    have hrl : row.length = 12 := by rw [hrow, labR_length, MInstance.enc_length]
    rw [← hrow] at hTi ⊢
    simp -implicitDefEqProofs (disch := omega) only [go_sem, hrl, mapM_toD]
    (repeat (with_reducible refine And.intro ?_ ?_; focus first | omega | rfl | assumption | exact ⟨_, rfl, rfl⟩ | (simp; omega) | (simp; done)))
    refine inv_at (i + 1, _) (by simp only; omega) rfl rfl ⟨by simp only; omega, p2.step hTi hrl⟩
  · have hi : i = xs.length := by omega
    rw [p2.done (by omega)]
end Go.Proofs.YtnleocfkdidhoaaGreat

namespace Go.Proofs.YtnleocfkdidhoaaGreat
open Go Go.Ab
theorem toParam_lab (x : MParam) : ∀ n : Nat, x.sz ≤ 1048576 → PCall Tryz.prog 268 [x.v] (.agg ((labR x.enc n).map .d)) := by
  intro n hsz S
  simp only [MParam.sz, MParam.enc_eq, szRow, szRow_append, D.sz, List.length_map, MType.sz_def] at hsz
  refine acall_cw (rs := [.cell 2 267]) Tryz.checked.mixed Tryz.func268 Tryz.ntmps268 rfl rfl rfl rfl rfl ?_
  simp only [MParam.enc_eq, MType.enc_eq, encS, encI, List.cons_append, List.nil_append, labR, labD, cntR, cntD, List.map_cons, List.map_nil, Nat.add_zero]
  simp -implicitDefEqProofs (disch := omega) only [go_sem]
  refine call_w (toType_lab x.fType (n) (by omega)) ?_
  simp -implicitDefEqProofs (disch := omega) only [go_sem, MType.enc_eq, encS, encI, List.cons_append, List.nil_append, labR, labD, cntR, cntD, List.map_cons, List.map_nil, Nat.add_zero]
  all_goals (first | rfl | (simp only [Nat.add_assoc]; done))
theorem toParamS_lab (xs : List MParam) : ∀ n : Nat, xs.length + szRows (xs.map MParam.enc) ≤ 1048576 → PCall Tryz.prog 223 [.c (.d (.sl (xs.map MParam.enc)))] (.c (.d (labD (.sl (xs.map MParam.enc)) n))) := by
  intro n hsz
  obtain ⟨T, hT⟩ : ∃ T, T = labRs (xs.map MParam.enc) (n + 1) := ⟨_, rfl⟩
  have hTl : T.length = xs.length := by rw [hT, labRs_length, List.length_map]
  show PCall Tryz.prog 223 [.c (.d (.sl (xs.map MParam.enc)))] (.c (.d (.ol n (labRs (xs.map MParam.enc) (n + 1))))) 
  rw [← hT]
  intro S
  refine acall_cwL (n) (rs := [.tmp 2]) Tryz.checked.mixed Tryz.func223 Tryz.ntmps223 rfl rfl rfl rfl rfl ?_
  simp -implicitDefEqProofs (disch := omega) only [go_sem]
  (repeat (with_reducible refine And.intro ?_ ?_; focus first | omega | rfl | assumption | exact ⟨_, rfl, rfl⟩ | (simp; omega) | (simp; done)))
  refine loop_at (ι := Nat × List (List D)) Tryz.checked.mixed rfl [0, 3, 4] (fun y => [.c (.d (.sl (xs.map MParam.enc))), .c (.msl (0, 1)), .c (.d (.i .i64 y.1))]) (fun y => [.seed n, .mrow 4 y.2] :: S)
    (fun y => y.1 ≤ xs.length ∧ Filled 4 y.1 y.2 T) (fun y => xs.length - y.1) (0, _) rfl rfl ⟨Nat.zero_le _, Filled.start (by simp [hTl]) rfl⟩ ?_
  rintro ⟨i, R⟩ ⟨p1, p2⟩
  simp only at p1 p2
  simp -implicitDefEqProofs (disch := omega) only [go_sem]
  with_reducible refine split2 (fun hb => ?_) (fun hb => ?_) <;> have h := hb <;> (try simp only [wf_preprocess] at h) <;> simp -implicitDefEqProofs (disch := omega) only [go_sem, hb] <;> (repeat (with_reducible refine And.intro ?_ ?_; focus first | omega | rfl | assumption | exact ⟨_, rfl, rfl⟩ | (simp; omega) | (simp; done)))
  · have hi : i < xs.length := by omega
    have hir : i < (xs.map MParam.enc).length := by rw [List.length_map]; exact hi
    have hR := p2.1
    rw [hTl] at hR
    have hTi : T[i]? = some (labR (MParam.enc xs[i]) (n + 1 + cntRs ((xs.map MParam.enc).take i))) := by
      rw [hT, labRs_at hir, List.getElem_map]
    have hx : xs[i].sz ≤ szRows (xs.map MParam.enc) := szRows_mem (List.mem_map_of_mem (List.getElem_mem hi))
    (repeat (with_reducible refine And.intro ?_ ?_; focus first | omega | rfl | assumption | exact ⟨_, rfl, rfl⟩ | (simp; omega) | (simp; done)))
    refine call_w (toParam_lab xs[i] (n + 1 + cntRs ((xs.map MParam.enc).take i)) (by omega)) ?_
    obtain ⟨row, hrow⟩ : ∃ row, row = labR (MParam.enc xs[i]) (n + 1 + cntRs ((xs.map MParam.enc).take i)) := ⟨_, rfl⟩
    have hrl : row.length = 4 := by rw [hrow, labR_length, MParam.enc_length]
    rw [← hrow] at hTi ⊢
    simp -implicitDefEqProofs (disch := omega) only [go_sem, hrl, mapM_toD]
    (repeat (with_reducible refine And.intro ?_ ?_; focus first | omega | rfl | assumption | exact ⟨_, rfl, rfl⟩ | (simp; omega) | (simp; done)))
    refine inv_at (i + 1, _) (by simp only; omega) rfl rfl ⟨by simp only; omega, p2.step hTi hrl⟩
  · have hi : i = xs.length := by omega
    rw [p2.done (by omega)]
end Go.Proofs.YtnleocfkdidhoaaGreat

namespace Go.Proofs.YtnleocfkdidhoaaGreat
open Go Go.Ab
theorem toFunction_lab (x : MFunction) : ∀ n : Nat, x.sz ≤ 1048576 → PCall Tryz.prog 148 [x.v] (.agg ((labR x.enc n).map .d)) := by
  intro n hsz S
  simp only [MFunction.sz, MFunction.enc_eq, szRow, szRow_append, D.sz, List.length_map, MExpr.sz_def, MType.sz_def] at hsz
  refine acall_cw (rs := [.cell 2 145]) Tryz.checked.mixed Tryz.func148 Tryz.ntmps148 rfl rfl rfl rfl rfl ?_
  simp only [MExpr.enc_eq, MFunction.enc_eq, MType.enc_eq, encS, encI, List.cons_append, List.nil_append, labR, labD, cntR, cntD, List.map_cons, List.map_nil, Nat.add_zero]
  simp -implicitDefEqProofs (disch := omega) only [go_sem]
  refine call_w (toStringS_lab x.fVars (n) (by omega)) ?_
  simp -implicitDefEqProofs (disch := omega) only [go_sem, labD]
  refine call_w (toBoundS_lab x.fWhere (n + (cntRs (x.fVars.map encS) + 1)) (by omega)) ?_
  simp -implicitDefEqProofs (disch := omega) only [go_sem, labD]
  refine call_w (toParamS_lab x.fParams (n + (cntRs (x.fVars.map encS) + 1) + (cntRs (x.fWhere.map MBound.enc) + 1)) (by omega)) ?_
  simp -implicitDefEqProofs (disch := omega) only [go_sem, labD]
  refine call_w (toType_lab x.fResult (n + (cntRs (x.fVars.map encS) + 1) + (cntRs (x.fWhere.map MBound.enc) + 1) + (cntRs (x.fParams.map MParam.enc) + 1)) (by omega)) ?_
  simp -implicitDefEqProofs (disch := omega) only [go_sem, MType.enc_eq, encS, encI, List.cons_append, List.nil_append, labR, labD, cntR, cntD, List.map_cons, List.map_nil, Nat.add_zero]
  refine call_w (toExpr_lab x.fBody (n + (cntRs (x.fVars.map encS) + 1) + (cntRs (x.fWhere.map MBound.enc) + 1) + (cntRs (x.fParams.map MParam.enc) + 1) + (cntRs (x.fResult.fArgs.map MType.enc) + 1)) (by omega)) ?_
  simp -implicitDefEqProofs (disch := omega) only [go_sem, MExpr.enc_eq, MType.enc_eq, encS, encI, List.cons_append, List.nil_append, labR, labD, cntR, cntD, List.map_cons, List.map_nil, Nat.add_zero]
  all_goals (first | rfl | (simp only [Nat.add_assoc]; done))
theorem toFunctionS_lab (xs : List MFunction) : ∀ n : Nat, xs.length + szRows (xs.map MFunction.enc) ≤ 1048576 → PCall Tryz.prog 77 [.c (.d (.sl (xs.map MFunction.enc)))] (.c (.d (labD (.sl (xs.map MFunction.enc)) n))) := by
  intro n hsz
  obtain ⟨T, hT⟩ : ∃ T, T = labRs (xs.map MFunction.enc) (n + 1) := ⟨_, rfl⟩
  have hTl : T.length = xs.length := by rw [hT, labRs_length, List.length_map]
  show PCall Tryz.prog 77 [.c (.d (.sl (xs.map MFunction.enc)))] (.c (.d (.ol n (labRs (xs.map MFunction.enc) (n + 1))))) 
  rw [← hT]
  intro S
  refine acall_cwL (n) (rs := [.tmp 2]) Tryz.checked.mixed Tryz.func77 Tryz.ntmps77 rfl rfl rfl rfl rfl ?_
  simp -implicitDefEqProofs (disch := omega) only [go_sem]
  (repeat (with_reducible refine And.intro ?_ ?_; focus first | omega | rfl | assumption | exact ⟨_, rfl, rfl⟩ | (simp; omega) | (simp; done)))
  refine loop_at (ι := Nat × List (List D)) Tryz.checked.mixed rfl [0, 3, 4] (fun y => [.c (.d (.sl (xs.map MFunction.enc))), .c (.msl (0, 1)), .c (.d (.i .i64 y.1))]) (fun y => [.seed n, .mrow 16 y.2] :: S)
    (fun y => y.1 ≤ xs.length ∧ Filled 16 y.1 y.2 T) (fun y => xs.length - y.1) (0, _) rfl rfl ⟨Nat.zero_le _, Filled.start (by simp [hTl]) rfl⟩ ?_
  rintro ⟨i, R⟩ ⟨p1, p2⟩
  simp only at p1 p2
  simp -implicitDefEqProofs (disch := omega) only [go_sem]
  with_reducible refine split2 (fun hb => ?_) (fun hb => ?_) <;> have h := hb <;> (try simp only [wf_preprocess] at h) <;> simp -implicitDefEqProofs (disch := omega) only [go_sem, hb] <;> (repeat (with_reducible refine And.intro ?_ ?_; focus first | omega | rfl | assumption | exact ⟨_, rfl, rfl⟩ | (simp; omega) | (simp; done)))
  · have hi : i < xs.length := by omega
    have hir : i < (xs.map MFunction.enc).length := by rw [List.length_map]; exact hi
    have hR := p2.1
    rw [hTl] at hR
    have hTi : T[i]? = some (labR (MFunction.enc xs[i]) (n + 1 + cntRs ((xs.map MFunction.enc).take i))) := by
      rw [hT, labRs_at hir, List.getElem_map]
    have hx : xs[i].sz ≤ szRows (xs.map MFunction.enc) := szRows_mem (List.mem_map_of_mem (List.getElem_mem hi))
    (repeat (with_reducible refine And.intro ?_ ?_; focus first | omega | rfl | assumption | exact ⟨_, rfl, rfl⟩ | (simp; omega) | (simp; done)))
    refine call_w (toFunction_lab xs[i] (n + 1 + cntRs ((xs.map MFunction.enc).take i)) (by omega)) ?_
    obtain ⟨row, hrow⟩ : ∃ row, row = labR (MFunction.enc xs[i]) (n + 1 + cntRs ((xs.map MFunction.enc).take i)) := ⟨_, rfl⟩
    have hrl : row.length = 16 := by rw [hrow, labR_length, MFunction.enc_length]
    rw [← hrow] at hTi ⊢
    simp -implicitDefEqProofs (disch := omega) only [go_sem, hrl, mapM_toD]
    (repeat (with_reducible refine And.intro ?_ ?_; focus first | omega | rfl | assumption | exact ⟨_, rfl, rfl⟩ | (simp; omega) | (simp; done)))
    refine inv_at (i + 1, _) (by simp only; omega) rfl rfl ⟨by simp only; omega, p2.step hTi hrl⟩
  · have hi : i = xs.length := by omega
    rw [p2.done (by omega)]
end Go.Proofs.YtnleocfkdidhoaaGreat

namespace Go.Proofs.YtnleocfkdidhoaaGreat
open Go Go.Ab
theorem toPackage_lab (x : MPackage) : ∀ n : Nat, x.sz ≤ 1048576 → PCall Tryz.prog 20 [x.v] (.agg ((labR x.enc n).map .d)) := by
  intro n hsz S
  simp only [MPackage.sz, MPackage.enc_eq, szRow, szRow_append, D.sz, List.length_map] at hsz
  refine acall_cw (rs := [.cell 2 64]) Tryz.checked.mixed Tryz.func20 Tryz.ntmps20 rfl rfl rfl rfl rfl ?_
  simp only [MPackage.enc_eq, encS, encI, List.cons_append, List.nil_append, labR, labD, cntR, cntD, List.map_cons, List.map_nil, Nat.add_zero]
  simp -implicitDefEqProofs (disch := omega) only [go_sem]
  refine call_w (toStringS_lab x.fDeps (n) (by omega)) ?_
  simp -implicitDefEqProofs (disch := omega) only [go_sem, labD]
  refine call_w (toTraitS_lab x.fTraits (n + (cntRs (x.fDeps.map encS) + 1)) (by omega)) ?_
  simp -implicitDefEqProofs (disch := omega) only [go_sem, labD]
  refine call_w (toDataTypeS_lab x.fDataTypes (n + (cntRs (x.fDeps.map encS) + 1) + (cntRs (x.fTraits.map MTrait.enc) + 1)) (by omega)) ?_
  simp -implicitDefEqProofs (disch := omega) only [go_sem, labD]
  refine call_w (toInstanceS_lab x.fInstances (n + (cntRs (x.fDeps.map encS) + 1) + (cntRs (x.fTraits.map MTrait.enc) + 1) + (cntRs (x.fDataTypes.map MDataType.enc) + 1)) (by omega)) ?_
  simp -implicitDefEqProofs (disch := omega) only [go_sem, labD]
  refine call_w (toFunctionS_lab x.fFunctions (n + (cntRs (x.fDeps.map encS) + 1) + (cntRs (x.fTraits.map MTrait.enc) + 1) + (cntRs (x.fDataTypes.map MDataType.enc) + 1) + (cntRs (x.fInstances.map MInstance.enc) + 1)) (by omega)) ?_
  simp -implicitDefEqProofs (disch := omega) only [go_sem, labD]
  all_goals (first | rfl | (simp only [Nat.add_assoc]; done))
theorem toPackageS_lab (xs : List MPackage) : ∀ n : Nat, xs.length + szRows (xs.map MPackage.enc) ≤ 1048576 → PCall Tryz.prog 52 [.c (.d (.sl (xs.map MPackage.enc)))] (.c (.d (labD (.sl (xs.map MPackage.enc)) n))) := by
  intro n hsz
  obtain ⟨T, hT⟩ : ∃ T, T = labRs (xs.map MPackage.enc) (n + 1) := ⟨_, rfl⟩
  have hTl : T.length = xs.length := by rw [hT, labRs_length, List.length_map]
  show PCall Tryz.prog 52 [.c (.d (.sl (xs.map MPackage.enc)))] (.c (.d (.ol n (labRs (xs.map MPackage.enc) (n + 1))))) 
  rw [← hT]
  intro S
  refine acall_cwL (n) (rs := [.tmp 2]) Tryz.checked.mixed Tryz.func52 Tryz.ntmps52 rfl rfl rfl rfl rfl ?_
  simp -implicitDefEqProofs (disch := omega) only [go_sem]
  (repeat (with_reducible refine And.intro ?_ ?_; focus first | omega | rfl | assumption | exact ⟨_, rfl, rfl⟩ | (simp; omega) | (simp; done)))
  refine loop_at (ι := Nat × List (List D)) Tryz.checked.mixed rfl [0, 3, 4] (fun y => [.c (.d (.sl (xs.map MPackage.enc))), .c (.msl (0, 1)), .c (.d (.i .i64 y.1))]) (fun y => [.seed n, .mrow 6 y.2] :: S)
    (fun y => y.1 ≤ xs.length ∧ Filled 6 y.1 y.2 T) (fun y => xs.length - y.1) (0, _) rfl rfl ⟨Nat.zero_le _, Filled.start (by simp [hTl]) rfl⟩ ?_
  rintro ⟨i, R⟩ ⟨p1, p2⟩
  simp only at p1 p2
  simp -implicitDefEqProofs (disch := omega) only [go_sem]
  with_reducible refine split2 (fun hb => ?_) (fun hb => ?_) <;> have h := hb <;> (try simp only [wf_preprocess] at h) <;> simp -implicitDefEqProofs (disch := omega) only [go_sem, hb] <;> (repeat (with_reducible refine And.intro ?_ ?_; focus first | omega | rfl | assumption | exact ⟨_, rfl, rfl⟩ | (simp; omega) | (simp; done)))
  · have hi : i < xs.length := by omega
    have hir : i < (xs.map MPackage.enc).length := by rw [List.length_map]; exact hi
    have hR := p2.1
    rw [hTl] at hR
    have hTi : T[i]? = some (labR (MPackage.enc xs[i]) (n + 1 + cntRs ((xs.map MPackage.enc).take i))) := by
      rw [hT, labRs_at hir, List.getElem_map]
    have hx : xs[i].sz ≤ szRows (xs.map MPackage.enc) := szRows_mem (List.mem_map_of_mem (List.getElem_mem hi))
    (repeat (with_reducible refine And.intro ?_ ?_; focus first | omega | rfl | assumption | exact ⟨_, rfl, rfl⟩ | (simp; omega) | (simp; done)))
    refine call_w (toPackage_lab xs[i] (n + 1 + cntRs ((xs.map MPackage.enc).take i)) (by omega)) ?_
    obtain ⟨row, hrow⟩ : ∃ row, row = labR (MPackage.enc xs[i]) (n + 1 + cntRs ((xs.map MPackage.enc).take i)) := ⟨_, rfl⟩
    have hrl : row.length = 6 := by rw [hrow, labR_length, MPackage.enc_length]
    rw [← hrow] at hTi ⊢
    simp -implicitDefEqProofs (disch := omega) only [go_sem, hrl, mapM_toD]
    (repeat (with_reducible refine And.intro ?_ ?_; focus first | omega | rfl | assumption | exact ⟨_, rfl, rfl⟩ | (simp; omega) | (simp; done)))
    refine inv_at (i + 1, _) (by simp only; omega) rfl rfl ⟨by simp only; omega, p2.step hTi hrl⟩
  · have hi : i = xs.length := by omega
    rw [p2.done (by omega)]
end Go.Proofs.YtnleocfkdidhoaaGreat

namespace Go.Proofs.YtnleocfkdidhoaaGreat
open Go Go.Ab
theorem toProgram_lab (x : MProgram) : ∀ n : Nat, x.sz ≤ 1048576 → PCall Tryz.prog 13 [x.v] (.agg ((labR x.enc n).map .d)) := by
  intro n hsz S
  simp only [MProgram.sz, MProgram.enc_eq, szRow, szRow_append, D.sz, List.length_map] at hsz
  refine acall_cw (rs := [.cell 2 37]) Tryz.checked.mixed Tryz.func13 Tryz.ntmps13 rfl rfl rfl rfl rfl ?_
  simp only [MProgram.enc_eq, encS, encI, List.cons_append, List.nil_append, labR, labD, cntR, cntD, List.map_cons, List.map_nil, Nat.add_zero]
  simp -implicitDefEqProofs (disch := omega) only [go_sem]
  refine call_w (toPackageS_lab x.fPackages (n) (by omega)) ?_
  simp -implicitDefEqProofs (disch := omega) only [go_sem, labD]
  all_goals (first | rfl | (simp only [Nat.add_assoc]; done))
end Go.Proofs.YtnleocfkdidhoaaGreat

namespace Go.Proofs.YtnleocfkdidhoaaGreat
open Go Go.Ab
theorem markStringS_ok (xs : List (List UInt8)) : ∀ (k : Int) (l j r : Nat) (p : List (Nat × Nat)) (S : Store) (rs : List (List (List D))), getO S (l, j) = some (.xf rs) → atR rs r p = some (xs.map encS) → 0 ≤ k ∧ k + mcRs (xs.map encS) ≤ 4611686018427387904 → ACall Tryz.prog 104 [.c (.xp (l, j) r p), .c (.d (.i .i64 k))] S (fun res S' => res = .c (.d (.i .i64 (k + mcRs (xs.map encS)))) ∧ S' = setO S (l, j) (.xf (updR rs r p (mkRs (xs.map encS) k)))) := by
  intro k l j r p S rs hS hp hk
  have hlen := len_mc (f := encS) (fun x => by simp only [encS, List.cons_append, List.nil_append, mcR, mcD]; omega) xs
  obtain ⟨rows, hr⟩ : ∃ rows, rows = xs.map encS := ⟨_, rfl⟩
  have hl : rows.length = xs.length := by rw [hr, List.length_map]
  rw [← hr] at hp hk hlen ⊢
  have ht : ∀ x : Ab.Obj, getO (setO S (l, j) x) (l, j) = some x := fun x => getO_setO_eq _ _ _ _ hS
  have hA : ∀ new, atR (updR rs r p new) r p = some new := fun new => atR_updR hp
  have hU : ∀ a b, updR (updR rs r p a) r p b = updR rs r p b := fun a b => updR_updR hp
  refine acall_cw (rs := [.tmp 4]) Tryz.checked.mixed Tryz.func104 Tryz.ntmps104 rfl rfl rfl rfl rfl ?_
  simp -implicitDefEqProofs (disch := omega) only [go_sem]
  refine loop_at (ι := Nat) Tryz.checked.mixed rfl [0, 1, 5] (fun i => [.c (.xp (1 + l, j) r p), .c (.d (.i .i64 (k + mcRs (rows.take i)))), .c (.d (.i .i64 i))])
    (fun i => [] :: setO S (l, j) (.xf (updR rs r p (mkTo rows k i)))) (fun i => i ≤ xs.length) (fun i => xs.length - i) 0 ?_ ?_ (Nat.zero_le _) ?_
  · have z0 : k + ((mcRs (rows.take 0) : Nat) : Int) = k := by simp [mcRs]
    rw [z0]
    rfl
  · rw [mkTo_zero, updR_same hp, setO_self _ _ hS]
  intro i hi
  simp -implicitDefEqProofs (disch := omega) only [go_sem, ht, hA, mkTo_length, hl]
  with_reducible refine split2 (fun hb => ?_) (fun hb => ?_) <;> have h := hb <;> try simp only [wf_preprocess] at h
  · have hi : i < xs.length := by omega
    have hir : i < rows.length := by omega
    obtain ⟨x, hx⟩ : ∃ x, x = xs[i] := ⟨_, rfl⟩
    have e1 : rows[i] = [.s x] := by
      simp only [hr, List.getElem_map, ← hx]
      simp only [encS, List.cons_append, List.nil_append]
    have hm := mcRs_take hir
    have hle := mcRs_le (rows := rows) (i := i + 1)
    rw [hm, e1] at hle
    rw [e1] at hm
    simp only [mcR, mcD] at hle hm
    have hK : k + ((mcRs (rows.take (i + 1)) : Nat) : Int) = k + ((mcRs (rows.take i) : Nat) : Int) + 1 := by rw [hm]; omega
    have e2 := mkTo_at (k := k) hir
    rw [e1] at e2
    have hC : ∀ row o, cellAt (mkAt rows k i row) i o = row[o]? := fun row o => mkAt_cell hir
    have hG : ∀ row, (mkAt rows k i row).getD i [] = row := fun row => mkAt_get hir
    simp -implicitDefEqProofs (disch := omega) only [go_sem, hb, ht, hA, hU, e2, hC, hG, mkAt_set, mkAt_length, hl, setO_twice, isSD]
    (repeat (with_reducible refine And.intro ?_ ?_; focus first | omega | rfl | assumption | exact ⟨_, rfl, rfl⟩ | (simp; omega) | (simp; done)))
    refine call_w (markText_ok (k + ((mcRs (rows.take i) : Nat) : Int)) (by omega)) ?_
    simp -implicitDefEqProofs (disch := omega) only [go_sem, hb, ht, hA, hU, e2, hC, hG, mkAt_set, mkAt_length, hl, setO_twice, isSD]
    (repeat (with_reducible refine And.intro ?_ ?_; focus first | omega | rfl | assumption | exact ⟨_, rfl, rfl⟩ | (simp; omega) | (simp; done)))
    refine inv_at (i + 1) (by omega) (by rw [hK]; rfl) ?_ (by omega)
    have h3 := mkAt_to (k := k) hir
    rw [e1] at h3
    simp only [mkR, mkD] at h3
    rw [← h3]
    all_goals rfl
  · simp -implicitDefEqProofs (disch := omega) only [go_sem, hb]
    have hi : i = xs.length := by omega
    rw [mkTo_all (by omega), List.take_of_length_le (by omega)]
    all_goals (first | rfl | exact ⟨rfl, rfl⟩)
end Go.Proofs.YtnleocfkdidhoaaGreat

namespace Go.Proofs.YtnleocfkdidhoaaGreat
open Go Go.Ab
end Go.Proofs.YtnleocfkdidhoaaGreat

namespace Go.Proofs.YtnleocfkdidhoaaGreat
open Go Go.Ab
theorem markType_all : ∀ n : Nat, (∀ xs : List MType, SizeOf.sizeOf xs < n → ∀ (k : Int) (l j r : Nat) (p : List (Nat × Nat)) (S : Store) (rs : List (List (List D))), getO S (l, j) = some (.xf rs) → atR rs r p = some (xs.map MType.enc) → 0 ≤ k ∧ k + mcRs (xs.map MType.enc) ≤ 4611686018427387904 → ACall Tryz.prog 181 [.c (.xp (l, j) r p), .c (.d (.i .i64 k))] S (fun res S' => res = .c (.d (.i .i64 (k + mcRs (xs.map MType.enc)))) ∧ S' = setO S (l, j) (.xf (updR rs r p (mkRs (xs.map MType.enc) k)))))
  | 0 => fun xs h => by omega
  | n + 1 => by
    have ihType := markType_all n
    refine fun xs hn k l j r p S rs hS hp hk => ?_
    · have hlen := len_mc (f := MType.enc) (fun x => by simp only [MType.enc_eq, encS, encI, List.cons_append, List.nil_append, mcR, mcD]; omega) xs
      obtain ⟨rows, hr⟩ : ∃ rows, rows = xs.map MType.enc := ⟨_, rfl⟩
      have hl : rows.length = xs.length := by rw [hr, List.length_map]
      rw [← hr] at hp hk hlen ⊢
      have ht : ∀ x : Ab.Obj, getO (setO S (l, j) x) (l, j) = some x := fun x => getO_setO_eq _ _ _ _ hS
      have hA : ∀ new, atR (updR rs r p new) r p = some new := fun new => atR_updR hp
      have hU : ∀ a b, updR (updR rs r p a) r p b = updR rs r p b := fun a b => updR_updR hp
      refine acall_cw (rs := [.tmp 4]) Tryz.checked.mixed Tryz.func181 Tryz.ntmps181 rfl rfl rfl rfl rfl ?_
      simp -implicitDefEqProofs (disch := omega) only [go_sem]
      refine loop_at (ι := Nat) Tryz.checked.mixed rfl [0, 1, 5] (fun i => [.c (.xp (1 + l, j) r p), .c (.d (.i .i64 (k + mcRs (rows.take i)))), .c (.d (.i .i64 i))])
        (fun i => [] :: setO S (l, j) (.xf (updR rs r p (mkTo rows k i)))) (fun i => i ≤ xs.length) (fun i => xs.length - i) 0 ?_ ?_ (Nat.zero_le _) ?_
      · have z0 : k + ((mcRs (rows.take 0) : Nat) : Int) = k := by simp [mcRs]
        rw [z0]
        rfl
      · rw [mkTo_zero, updR_same hp, setO_self _ _ hS]
      intro i hi
      simp -implicitDefEqProofs (disch := omega) only [go_sem, ht, hA, mkTo_length, hl]
      with_reducible refine split2 (fun hb => ?_) (fun hb => ?_) <;> have h := hb <;> try simp only [wf_preprocess] at h
      · have hi : i < xs.length := by omega
        have hir : i < rows.length := by omega
        obtain ⟨x, hx⟩ : ∃ x, x = xs[i] := ⟨_, rfl⟩
        have e1 : rows[i] = [.i .i64 x.fKind, .s x.fName, .sl (x.fArgs.map MType.enc)] := by
          simp only [hr, List.getElem_map, ← hx]
          simp only [MType.enc_eq, encS, encI, List.cons_append, List.nil_append]
        have hm := mcRs_take hir
        have hle := mcRs_le (rows := rows) (i := i + 1)
        rw [hm, e1] at hle
        rw [e1] at hm
        simp only [mcR, mcD] at hle hm
        have hK : k + ((mcRs (rows.take (i + 1)) : Nat) : Int) = k + ((mcRs (rows.take i) : Nat) : Int) + 1 + 1 + ((mcRs (x.fArgs.map MType.enc) : Nat) : Int) := by rw [hm]; omega
        have e2 := mkTo_at (k := k) hir
        rw [e1] at e2
        have hC : ∀ row o, cellAt (mkAt rows k i row) i o = row[o]? := fun row o => mkAt_cell hir
        have hG : ∀ row, (mkAt rows k i row).getD i [] = row := fun row => mkAt_get hir
        simp -implicitDefEqProofs (disch := omega) only [go_sem, hb, ht, hA, hU, e2, hC, hG, mkAt_set, mkAt_length, hl, setO_twice, isSD]
        (repeat (with_reducible refine And.intro ?_ ?_; focus first | omega | rfl | assumption | exact ⟨_, rfl, rfl⟩ | (simp; omega) | (simp; done)))
        refine call_w (markText_ok (k + ((mcRs (rows.take i) : Nat) : Int) + 1) (by omega)) ?_
        simp -implicitDefEqProofs (disch := omega) only [go_sem, hb, ht, hA, hU, e2, hC, hG, mkAt_set, mkAt_length, hl, setO_twice, isSD]
        (repeat (with_reducible refine And.intro ?_ ?_; focus first | omega | rfl | assumption | exact ⟨_, rfl, rfl⟩ | (simp; omega) | (simp; done)))
        refine call_d rfl (sub_mk hS hp hir (by rfl) (fun S' rs' g1 g2 => ihType x.fArgs (by have := List.sizeOf_lt_of_mem (List.getElem_mem hi); rw [← hx] at this; have := MType.lt_Args x; omega) (k + ((mcRs (rows.take i) : Nat) : Int) + 1 + 1) (1 + l) j r _ S' rs' g1 g2 (by omega))) ?_
        simp -implicitDefEqProofs (disch := omega) only [go_sem, hb, ht, hA, hU, e2, hC, hG, mkAt_set, mkAt_length, hl, setO_twice, isSD]
        (repeat (with_reducible refine And.intro ?_ ?_; focus first | omega | rfl | assumption | exact ⟨_, rfl, rfl⟩ | (simp; omega) | (simp; done)))
        refine inv_at (i + 1) (by omega) (by rw [hK]; rfl) ?_ (by omega)
        have h3 := mkAt_to (k := k) hir
        rw [e1] at h3
        simp only [mkR, mkD] at h3
        rw [← h3]
        all_goals rfl
      · simp -implicitDefEqProofs (disch := omega) only [go_sem, hb]
        have hi : i = xs.length := by omega
        rw [mkTo_all (by omega), List.take_of_length_le (by omega)]
        all_goals (first | rfl | exact ⟨rfl, rfl⟩)
theorem markTypeS_ok (xs : List MType) : ∀ (k : Int) (l j r : Nat) (p : List (Nat × Nat)) (S : Store) (rs : List (List (List D))), getO S (l, j) = some (.xf rs) → atR rs r p = some (xs.map MType.enc) → 0 ≤ k ∧ k + mcRs (xs.map MType.enc) ≤ 4611686018427387904 → ACall Tryz.prog 181 [.c (.xp (l, j) r p), .c (.d (.i .i64 k))] S (fun res S' => res = .c (.d (.i .i64 (k + mcRs (xs.map MType.enc)))) ∧ S' = setO S (l, j) (.xf (updR rs r p (mkRs (xs.map MType.enc) k)))) := (markType_all _) xs (Nat.lt_succ_self _)
end Go.Proofs.YtnleocfkdidhoaaGreat

namespace Go.Proofs.YtnleocfkdidhoaaGreat
open Go Go.Ab
end Go.Proofs.YtnleocfkdidhoaaGreat

namespace Go.Proofs.YtnleocfkdidhoaaGreat
open Go Go.Ab
set_option maxHeartbeats 4000000 in
theorem markBoundS_ok (xs : List MBound) : ∀ (k : Int) (l j r : Nat) (p : List (Nat × Nat)) (S : Store) (rs : List (List (List D))), getO S (l, j) = some (.xf rs) → atR rs r p = some (xs.map MBound.enc) → 0 ≤ k ∧ k + mcRs (xs.map MBound.enc) ≤ 4611686018427387904 → ACall Tryz.prog 115 [.c (.xp (l, j) r p), .c (.d (.i .i64 k))] S (fun res S' => res = .c (.d (.i .i64 (k + mcRs (xs.map MBound.enc)))) ∧ S' = setO S (l, j) (.xf (updR rs r p (mkRs (xs.map MBound.enc) k)))) := by
  intro k l j r p S rs hS hp hk
  have hlen := len_mc (f := MBound.enc) (fun x => by simp only [MBound.enc_eq, MType.enc_eq, encS, encI, List.cons_append, List.nil_append, mcR, mcD]; omega) xs
  obtain ⟨rows, hr⟩ : ∃ rows, rows = xs.map MBound.enc := ⟨_, rfl⟩
  have hl : rows.length = xs.length := by rw [hr, List.length_map]
  rw [← hr] at hp hk hlen ⊢
  have ht : ∀ x : Ab.Obj, getO (setO S (l, j) x) (l, j) = some x := fun x => getO_setO_eq _ _ _ _ hS
  have hA : ∀ new, atR (updR rs r p new) r p = some new := fun new => atR_updR hp
  have hU : ∀ a b, updR (updR rs r p a) r p b = updR rs r p b := fun a b => updR_updR hp
  refine acall_cw (rs := [.tmp 4]) Tryz.checked.mixed Tryz.func115 Tryz.ntmps115 rfl rfl rfl rfl rfl ?_
  simp -implicitDefEqProofs (disch := omega) only [go_sem]
  refine loop_at (ι := Nat) Tryz.checked.mixed rfl [0, 1, 5] (fun i => [.c (.xp (1 + l, j) r p), .c (.d (.i .i64 (k + mcRs (rows.take i)))), .c (.d (.i .i64 i))])
    (fun i => [] :: setO S (l, j) (.xf (updR rs r p (mkTo rows k i)))) (fun i => i ≤ xs.length) (fun i => xs.length - i) 0 ?_ ?_ (Nat.zero_le _) ?_
  · have z0 : k + ((mcRs (rows.take 0) : Nat) : Int) = k := by simp [mcRs]
    rw [z0]
    rfl
  · rw [mkTo_zero, updR_same hp, setO_self _ _ hS]
  intro i hi
  simp -implicitDefEqProofs (disch := omega) only [go_sem, ht, hA, mkTo_length, hl]
  with_reducible refine split2 (fun hb => ?_) (fun hb => ?_) <;> have h := hb <;> try simp only [wf_preprocess] at h
  · have hi : i < xs.length := by omega
    have hir : i < rows.length := by omega
    obtain ⟨x, hx⟩ : ∃ x, x = xs[i] := ⟨_, rfl⟩
    have e1 : rows[i] = [.s x.fTrait, .i .i64 x.fType.fKind, .s x.fType.fName, .sl (x.fType.fArgs.map MType.enc)] := by
      simp only [hr, List.getElem_map, ← hx]
      simp only [MBound.enc_eq, MType.enc_eq, encS, encI, List.cons_append, List.nil_append]
    have hm := mcRs_take hir
    have hle := mcRs_le (rows := rows) (i := i + 1)
    rw [hm, e1] at hle
    rw [e1] at hm
    simp only [mcR, mcD] at hle hm
    have hK : k + ((mcRs (rows.take (i + 1)) : Nat) : Int) = k + ((mcRs (rows.take i) : Nat) : Int) + 1 + 1 + 1 + ((mcRs (x.fType.fArgs.map MType.enc) : Nat) : Int) := by rw [hm]; omega
    have e2 := mkTo_at (k := k) hir
    rw [e1] at e2
    have hC : ∀ row o, cellAt (mkAt rows k i row) i o = row[o]? := fun row o => mkAt_cell hir
    have hG : ∀ row, (mkAt rows k i row).getD i [] = row := fun row => mkAt_get hir
    simp -implicitDefEqProofs (disch := omega) only [go_sem, hb, ht, hA, hU, e2, hC, hG, mkAt_set, mkAt_length, hl, setO_twice, isSD]
    (repeat (with_reducible refine And.intro ?_ ?_; focus first | omega | rfl | assumption | exact ⟨_, rfl, rfl⟩ | (simp; omega) | (simp; done)))
    refine call_w (markText_ok (k + ((mcRs (rows.take i) : Nat) : Int)) (by omega)) ?_
    simp -implicitDefEqProofs (disch := omega) only [go_sem, hb, ht, hA, hU, e2, hC, hG, mkAt_set, mkAt_length, hl, setO_twice, isSD]
    (repeat (with_reducible refine And.intro ?_ ?_; focus first | omega | rfl | assumption | exact ⟨_, rfl, rfl⟩ | (simp; omega) | (simp; done)))
    refine call_w (markText_ok (k + ((mcRs (rows.take i) : Nat) : Int) + 1 + 1) (by omega)) ?_
    simp -implicitDefEqProofs (disch := omega) only [go_sem, hb, ht, hA, hU, e2, hC, hG, mkAt_set, mkAt_length, hl, setO_twice, isSD]
    (repeat (with_reducible refine And.intro ?_ ?_; focus first | omega | rfl | assumption | exact ⟨_, rfl, rfl⟩ | (simp; omega) | (simp; done)))
    refine call_d rfl (sub_mk hS hp hir (by rfl) (fun S' rs' g1 g2 => markTypeS_ok x.fType.fArgs (k + ((mcRs (rows.take i) : Nat) : Int) + 1 + 1 + 1) (1 + l) j r _ S' rs' g1 g2 (by omega))) ?_
    simp -implicitDefEqProofs (disch := omega) only [go_sem, hb, ht, hA, hU, e2, hC, hG, mkAt_set, mkAt_length, hl, setO_twice, isSD]
    (repeat (with_reducible refine And.intro ?_ ?_; focus first | omega | rfl | assumption | exact ⟨_, rfl, rfl⟩ | (simp; omega) | (simp; done)))
    refine inv_at (i + 1) (by omega) (by rw [hK]; rfl) ?_ (by omega)
    have h3 := mkAt_to (k := k) hir
    rw [e1] at h3
    simp only [mkR, mkD] at h3
    rw [← h3]
    all_goals rfl
  · simp -implicitDefEqProofs (disch := omega) only [go_sem, hb]
    have hi : i = xs.length := by omega
    rw [mkTo_all (by omega), List.take_of_length_le (by omega)]
    all_goals (first | rfl | exact ⟨rfl, rfl⟩)
end Go.Proofs.YtnleocfkdidhoaaGreat

namespace Go.Proofs.YtnleocfkdidhoaaGreat
open Go Go.Ab
theorem markExpr_all : ∀ n : Nat, (∀ xs : List MExpr, SizeOf.sizeOf xs < n → ∀ (k : Int) (l j r : Nat) (p : List (Nat × Nat)) (S : Store) (rs : List (List (List D))), getO S (l, j) = some (.xf rs) → atR rs r p = some (xs.map MExpr.enc) → 0 ≤ k ∧ k + mcRs (xs.map MExpr.enc) ≤ 4611686018427387904 → ACall Tryz.prog 191 [.c (.xp (l, j) r p), .c (.d (.i .i64 k))] S (fun res S' => res = .c (.d (.i .i64 (k + mcRs (xs.map MExpr.enc)))) ∧ S' = setO S (l, j) (.xf (updR rs r p (mkRs (xs.map MExpr.enc) k))))) ∧
    (∀ xs : List MArm, SizeOf.sizeOf xs < n → ∀ (k : Int) (l j r : Nat) (p : List (Nat × Nat)) (S : Store) (rs : List (List (List D))), getO S (l, j) = some (.xf rs) → atR rs r p = some (xs.map MArm.enc) → 0 ≤ k ∧ k + mcRs (xs.map MArm.enc) ≤ 4611686018427387904 → ACall Tryz.prog 192 [.c (.xp (l, j) r p), .c (.d (.i .i64 k))] S (fun res S' => res = .c (.d (.i .i64 (k + mcRs (xs.map MArm.enc)))) ∧ S' = setO S (l, j) (.xf (updR rs r p (mkRs (xs.map MArm.enc) k)))))
  | 0 => ⟨fun xs h => by omega, fun xs h => by omega⟩
  | n + 1 => by
    obtain ⟨ihExpr, ihArm⟩ := markExpr_all n
    refine ⟨fun xs hn k l j r p S rs hS hp hk => ?_, fun xs hn k l j r p S rs hS hp hk => ?_⟩
    · have hlen := len_mc (f := MExpr.enc) (fun x => by simp only [MExpr.enc_eq, MType.enc_eq, encS, encI, List.cons_append, List.nil_append, mcR, mcD]; omega) xs
      obtain ⟨rows, hr⟩ : ∃ rows, rows = xs.map MExpr.enc := ⟨_, rfl⟩
      have hl : rows.length = xs.length := by rw [hr, List.length_map]
      rw [← hr] at hp hk hlen ⊢
      have ht : ∀ x : Ab.Obj, getO (setO S (l, j) x) (l, j) = some x := fun x => getO_setO_eq _ _ _ _ hS
      have hA : ∀ new, atR (updR rs r p new) r p = some new := fun new => atR_updR hp
      have hU : ∀ a b, updR (updR rs r p a) r p b = updR rs r p b := fun a b => updR_updR hp
      refine acall_cw (rs := [.tmp 4]) Tryz.checked.mixed Tryz.func191 Tryz.ntmps191 rfl rfl rfl rfl rfl ?_
      simp -implicitDefEqProofs (disch := omega) only [go_sem]
      refine loop_at (ι := Nat) Tryz.checked.mixed rfl [0, 1, 5] (fun i => [.c (.xp (1 + l, j) r p), .c (.d (.i .i64 (k + mcRs (rows.take i)))), .c (.d (.i .i64 i))])
        (fun i => [] :: setO S (l, j) (.xf (updR rs r p (mkTo rows k i)))) (fun i => i ≤ xs.length) (fun i => xs.length - i) 0 ?_ ?_ (Nat.zero_le _) ?_
      · have z0 : k + ((mcRs (rows.take 0) : Nat) : Int) = k := by simp [mcRs]
        rw [z0]
        rfl
      · rw [mkTo_zero, updR_same hp, setO_self _ _ hS]
      intro i hi
      simp -implicitDefEqProofs (disch := omega) only [go_sem, ht, hA, mkTo_length, hl]
      with_reducible refine split2 (fun hb => ?_) (fun hb => ?_) <;> have h := hb <;> try simp only [wf_preprocess] at h
      · have hi : i < xs.length := by omega
        have hir : i < rows.length := by omega
        obtain ⟨x, hx⟩ : ∃ x, x = xs[i] := ⟨_, rfl⟩
        have e1 : rows[i] = [.i .i64 x.fKind, .s x.fTrait, .s x.fName, .i .i64 x.fN, .i .i64 x.fType.fKind, .s x.fType.fName, .sl (x.fType.fArgs.map MType.enc), .sl (x.fArgs.map MExpr.enc), .sl (x.fArms.map MArm.enc)] := by
          simp only [hr, List.getElem_map, ← hx]
          simp only [MExpr.enc_eq, MType.enc_eq, encS, encI, List.cons_append, List.nil_append]
        have hm := mcRs_take hir
        have hle := mcRs_le (rows := rows) (i := i + 1)
        rw [hm, e1] at hle
        rw [e1] at hm
        simp only [mcR, mcD] at hle hm
        have hK : k + ((mcRs (rows.take (i + 1)) : Nat) : Int) = k + ((mcRs (rows.take i) : Nat) : Int) + 1 + 1 + 1 + 1 + 1 + 1 + ((mcRs (x.fType.fArgs.map MType.enc) : Nat) : Int) + ((mcRs (x.fArgs.map MExpr.enc) : Nat) : Int) + ((mcRs (x.fArms.map MArm.enc) : Nat) : Int) := by rw [hm]; omega
        have e2 := mkTo_at (k := k) hir
        rw [e1] at e2
        have hC : ∀ row o, cellAt (mkAt rows k i row) i o = row[o]? := fun row o => mkAt_cell hir
        have hG : ∀ row, (mkAt rows k i row).getD i [] = row := fun row => mkAt_get hir
        simp -implicitDefEqProofs (disch := omega) only [go_sem, hb, ht, hA, hU, e2, hC, hG, mkAt_set, mkAt_length, hl, setO_twice, isSD]
        (repeat (with_reducible refine And.intro ?_ ?_; focus first | omega | rfl | assumption | exact ⟨_, rfl, rfl⟩ | (simp; omega) | (simp; done)))
        refine call_w (markText_ok (k + ((mcRs (rows.take i) : Nat) : Int) + 1) (by omega)) ?_
        simp -implicitDefEqProofs (disch := omega) only [go_sem, hb, ht, hA, hU, e2, hC, hG, mkAt_set, mkAt_length, hl, setO_twice, isSD]
        (repeat (with_reducible refine And.intro ?_ ?_; focus first | omega | rfl | assumption | exact ⟨_, rfl, rfl⟩ | (simp; omega) | (simp; done)))
        refine call_w (markText_ok (k + ((mcRs (rows.take i) : Nat) : Int) + 1 + 1) (by omega)) ?_
        simp -implicitDefEqProofs (disch := omega) only [go_sem, hb, ht, hA, hU, e2, hC, hG, mkAt_set, mkAt_length, hl, setO_twice, isSD]
        (repeat (with_reducible refine And.intro ?_ ?_; focus first | omega | rfl | assumption | exact ⟨_, rfl, rfl⟩ | (simp; omega) | (simp; done)))
        refine call_w (markText_ok (k + ((mcRs (rows.take i) : Nat) : Int) + 1 + 1 + 1 + 1 + 1) (by omega)) ?_
        simp -implicitDefEqProofs (disch := omega) only [go_sem, hb, ht, hA, hU, e2, hC, hG, mkAt_set, mkAt_length, hl, setO_twice, isSD]
        (repeat (with_reducible refine And.intro ?_ ?_; focus first | omega | rfl | assumption | exact ⟨_, rfl, rfl⟩ | (simp; omega) | (simp; done)))
        refine call_d rfl (sub_mk hS hp hir (by rfl) (fun S' rs' g1 g2 => markTypeS_ok x.fType.fArgs (k + ((mcRs (rows.take i) : Nat) : Int) + 1 + 1 + 1 + 1 + 1 + 1) (1 + l) j r _ S' rs' g1 g2 (by omega))) ?_
        simp -implicitDefEqProofs (disch := omega) only [go_sem, hb, ht, hA, hU, e2, hC, hG, mkAt_set, mkAt_length, hl, setO_twice, isSD]
        (repeat (with_reducible refine And.intro ?_ ?_; focus first | omega | rfl | assumption | exact ⟨_, rfl, rfl⟩ | (simp; omega) | (simp; done)))
        refine call_d rfl (sub_mk hS hp hir (by rfl) (fun S' rs' g1 g2 => ihExpr x.fArgs (by have := List.sizeOf_lt_of_mem (List.getElem_mem hi); rw [← hx] at this; have := MExpr.lt_Args x; omega) (k + ((mcRs (rows.take i) : Nat) : Int) + 1 + 1 + 1 + 1 + 1 + 1 + ((mcRs (x.fType.fArgs.map MType.enc) : Nat) : Int)) (1 + l) j r _ S' rs' g1 g2 (by omega))) ?_
        simp -implicitDefEqProofs (disch := omega) only [go_sem, hb, ht, hA, hU, e2, hC, hG, mkAt_set, mkAt_length, hl, setO_twice, isSD]
        (repeat (with_reducible refine And.intro ?_ ?_; focus first | omega | rfl | assumption | exact ⟨_, rfl, rfl⟩ | (simp; omega) | (simp; done)))
        refine call_d rfl (sub_mk hS hp hir (by rfl) (fun S' rs' g1 g2 => ihArm x.fArms (by have := List.sizeOf_lt_of_mem (List.getElem_mem hi); rw [← hx] at this; have := MExpr.lt_Arms x; omega) (k + ((mcRs (rows.take i) : Nat) : Int) + 1 + 1 + 1 + 1 + 1 + 1 + ((mcRs (x.fType.fArgs.map MType.enc) : Nat) : Int) + ((mcRs (x.fArgs.map MExpr.enc) : Nat) : Int)) (1 + l) j r _ S' rs' g1 g2 (by omega))) ?_
        simp -implicitDefEqProofs (disch := omega) only [go_sem, hb, ht, hA, hU, e2, hC, hG, mkAt_set, mkAt_length, hl, setO_twice, isSD]
        (repeat (with_reducible refine And.intro ?_ ?_; focus first | omega | rfl | assumption | exact ⟨_, rfl, rfl⟩ | (simp; omega) | (simp; done)))
        refine inv_at (i + 1) (by omega) (by rw [hK]; rfl) ?_ (by omega)
        have h3 := mkAt_to (k := k) hir
        rw [e1] at h3
        simp only [mkR, mkD] at h3
        rw [← h3]
        all_goals rfl
      · simp -implicitDefEqProofs (disch := omega) only [go_sem, hb]
        have hi : i = xs.length := by omega
        rw [mkTo_all (by omega), List.take_of_length_le (by omega)]
        all_goals (first | rfl | exact ⟨rfl, rfl⟩)
    · have hlen := len_mc (f := MArm.enc) (fun x => by simp only [MArm.enc_eq, MExpr.enc_eq, MType.enc_eq, encS, encI, List.cons_append, List.nil_append, mcR, mcD]; omega) xs
      obtain ⟨rows, hr⟩ : ∃ rows, rows = xs.map MArm.enc := ⟨_, rfl⟩
      have hl : rows.length = xs.length := by rw [hr, List.length_map]
      rw [← hr] at hp hk hlen ⊢
      have ht : ∀ x : Ab.Obj, getO (setO S (l, j) x) (l, j) = some x := fun x => getO_setO_eq _ _ _ _ hS
      have hA : ∀ new, atR (updR rs r p new) r p = some new := fun new => atR_updR hp
      have hU : ∀ a b, updR (updR rs r p a) r p b = updR rs r p b := fun a b => updR_updR hp
      refine acall_cw (rs := [.tmp 4]) Tryz.checked.mixed Tryz.func192 Tryz.ntmps192 rfl rfl rfl rfl rfl ?_
      simp -implicitDefEqProofs (disch := omega) only [go_sem]
      refine loop_at (ι := Nat) Tryz.checked.mixed rfl [0, 1, 5] (fun i => [.c (.xp (1 + l, j) r p), .c (.d (.i .i64 (k + mcRs (rows.take i)))), .c (.d (.i .i64 i))])
        (fun i => [] :: setO S (l, j) (.xf (updR rs r p (mkTo rows k i)))) (fun i => i ≤ xs.length) (fun i => xs.length - i) 0 ?_ ?_ (Nat.zero_le _) ?_
      · have z0 : k + ((mcRs (rows.take 0) : Nat) : Int) = k := by simp [mcRs]
        rw [z0]
        rfl
      · rw [mkTo_zero, updR_same hp, setO_self _ _ hS]
      intro i hi
      simp -implicitDefEqProofs (disch := omega) only [go_sem, ht, hA, mkTo_length, hl]
      with_reducible refine split2 (fun hb => ?_) (fun hb => ?_) <;> have h := hb <;> try simp only [wf_preprocess] at h
      · have hi : i < xs.length := by omega
        have hir : i < rows.length := by omega
        obtain ⟨x, hx⟩ : ∃ x, x = xs[i] := ⟨_, rfl⟩
        have e1 : rows[i] = [.s x.fConstructor, .sl (x.fVars.map encS), .i .i64 x.fBody.fKind, .s x.fBody.fTrait, .s x.fBody.fName, .i .i64 x.fBody.fN, .i .i64 x.fBody.fType.fKind, .s x.fBody.fType.fName, .sl (x.fBody.fType.fArgs.map MType.enc), .sl (x.fBody.fArgs.map MExpr.enc), .sl (x.fBody.fArms.map MArm.enc)] := by
          simp only [hr, List.getElem_map, ← hx]
          simp only [MArm.enc_eq, MExpr.enc_eq, MType.enc_eq, encS, encI, List.cons_append, List.nil_append]
        have hm := mcRs_take hir
        have hle := mcRs_le (rows := rows) (i := i + 1)
        rw [hm, e1] at hle
        rw [e1] at hm
        simp only [mcR, mcD] at hle hm
        have hK : k + ((mcRs (rows.take (i + 1)) : Nat) : Int) = k + ((mcRs (rows.take i) : Nat) : Int) + 1 + ((mcRs (x.fVars.map encS) : Nat) : Int) + 1 + 1 + 1 + 1 + 1 + 1 + ((mcRs (x.fBody.fType.fArgs.map MType.enc) : Nat) : Int) + ((mcRs (x.fBody.fArgs.map MExpr.enc) : Nat) : Int) + ((mcRs (x.fBody.fArms.map MArm.enc) : Nat) : Int) := by rw [hm]; omega
        have e2 := mkTo_at (k := k) hir
        rw [e1] at e2
        have hC : ∀ row o, cellAt (mkAt rows k i row) i o = row[o]? := fun row o => mkAt_cell hir
        have hG : ∀ row, (mkAt rows k i row).getD i [] = row := fun row => mkAt_get hir
        simp -implicitDefEqProofs (disch := omega) only [go_sem, hb, ht, hA, hU, e2, hC, hG, mkAt_set, mkAt_length, hl, setO_twice, isSD]
        (repeat (with_reducible refine And.intro ?_ ?_; focus first | omega | rfl | assumption | exact ⟨_, rfl, rfl⟩ | (simp; omega) | (simp; done)))
        refine call_w (markText_ok (k + ((mcRs (rows.take i) : Nat) : Int)) (by omega)) ?_
        simp -implicitDefEqProofs (disch := omega) only [go_sem, hb, ht, hA, hU, e2, hC, hG, mkAt_set, mkAt_length, hl, setO_twice, isSD]
        (repeat (with_reducible refine And.intro ?_ ?_; focus first | omega | rfl | assumption | exact ⟨_, rfl, rfl⟩ | (simp; omega) | (simp; done)))
        refine call_d rfl (sub_mk hS hp hir (by rfl) (fun S' rs' g1 g2 => markStringS_ok x.fVars (k + ((mcRs (rows.take i) : Nat) : Int) + 1) (1 + l) j r _ S' rs' g1 g2 (by omega))) ?_
        simp -implicitDefEqProofs (disch := omega) only [go_sem, hb, ht, hA, hU, e2, hC, hG, mkAt_set, mkAt_length, hl, setO_twice, isSD]
        (repeat (with_reducible refine And.intro ?_ ?_; focus first | omega | rfl | assumption | exact ⟨_, rfl, rfl⟩ | (simp; omega) | (simp; done)))
        refine call_w (markText_ok (k + ((mcRs (rows.take i) : Nat) : Int) + 1 + ((mcRs (x.fVars.map encS) : Nat) : Int) + 1) (by omega)) ?_
        simp -implicitDefEqProofs (disch := omega) only [go_sem, hb, ht, hA, hU, e2, hC, hG, mkAt_set, mkAt_length, hl, setO_twice, isSD]
        (repeat (with_reducible refine And.intro ?_ ?_; focus first | omega | rfl | assumption | exact ⟨_, rfl, rfl⟩ | (simp; omega) | (simp; done)))
        refine call_w (markText_ok (k + ((mcRs (rows.take i) : Nat) : Int) + 1 + ((mcRs (x.fVars.map encS) : Nat) : Int) + 1 + 1) (by omega)) ?_
        simp -implicitDefEqProofs (disch := omega) only [go_sem, hb, ht, hA, hU, e2, hC, hG, mkAt_set, mkAt_length, hl, setO_twice, isSD]
        (repeat (with_reducible refine And.intro ?_ ?_; focus first | omega | rfl | assumption | exact ⟨_, rfl, rfl⟩ | (simp; omega) | (simp; done)))
        refine call_w (markText_ok (k + ((mcRs (rows.take i) : Nat) : Int) + 1 + ((mcRs (x.fVars.map encS) : Nat) : Int) + 1 + 1 + 1 + 1 + 1) (by omega)) ?_
        simp -implicitDefEqProofs (disch := omega) only [go_sem, hb, ht, hA, hU, e2, hC, hG, mkAt_set, mkAt_length, hl, setO_twice, isSD]
        (repeat (with_reducible refine And.intro ?_ ?_; focus first | omega | rfl | assumption | exact ⟨_, rfl, rfl⟩ | (simp; omega) | (simp; done)))
        refine call_d rfl (sub_mk hS hp hir (by rfl) (fun S' rs' g1 g2 => markTypeS_ok x.fBody.fType.fArgs (k + ((mcRs (rows.take i) : Nat) : Int) + 1 + ((mcRs (x.fVars.map encS) : Nat) : Int) + 1 + 1 + 1 + 1 + 1 + 1) (1 + l) j r _ S' rs' g1 g2 (by omega))) ?_
        simp -implicitDefEqProofs (disch := omega) only [go_sem, hb, ht, hA, hU, e2, hC, hG, mkAt_set, mkAt_length, hl, setO_twice, isSD]
        (repeat (with_reducible refine And.intro ?_ ?_; focus first | omega | rfl | assumption | exact ⟨_, rfl, rfl⟩ | (simp; omega) | (simp; done)))
        refine call_d rfl (sub_mk hS hp hir (by rfl) (fun S' rs' g1 g2 => ihExpr x.fBody.fArgs (by have := List.sizeOf_lt_of_mem (List.getElem_mem hi); rw [← hx] at this; have := MArm.lt_Body x; have := MExpr.lt_Args x.fBody; omega) (k + ((mcRs (rows.take i) : Nat) : Int) + 1 + ((mcRs (x.fVars.map encS) : Nat) : Int) + 1 + 1 + 1 + 1 + 1 + 1 + ((mcRs (x.fBody.fType.fArgs.map MType.enc) : Nat) : Int)) (1 + l) j r _ S' rs' g1 g2 (by omega))) ?_
        simp -implicitDefEqProofs (disch := omega) only [go_sem, hb, ht, hA, hU, e2, hC, hG, mkAt_set, mkAt_length, hl, setO_twice, isSD]
        (repeat (with_reducible refine And.intro ?_ ?_; focus first | omega | rfl | assumption | exact ⟨_, rfl, rfl⟩ | (simp; omega) | (simp; done)))
        refine call_d rfl (sub_mk hS hp hir (by rfl) (fun S' rs' g1 g2 => ihArm x.fBody.fArms (by have := List.sizeOf_lt_of_mem (List.getElem_mem hi); rw [← hx] at this; have := MArm.lt_Body x; have := MExpr.lt_Arms x.fBody; omega) (k + ((mcRs (rows.take i) : Nat) : Int) + 1 + ((mcRs (x.fVars.map encS) : Nat) : Int) + 1 + 1 + 1 + 1 + 1 + 1 + ((mcRs (x.fBody.fType.fArgs.map MType.enc) : Nat) : Int) + ((mcRs (x.fBody.fArgs.map MExpr.enc) : Nat) : Int)) (1 + l) j r _ S' rs' g1 g2 (by omega))) ?_
        simp -implicitDefEqProofs (disch := omega) only [go_sem, hb, ht, hA, hU, e2, hC, hG, mkAt_set, mkAt_length, hl, setO_twice, isSD]
        (repeat (with_reducible refine And.intro ?_ ?_; focus first | omega | rfl | assumption | exact ⟨_, rfl, rfl⟩ | (simp; omega) | (simp; done)))
        refine inv_at (i + 1) (by omega) (by rw [hK]; rfl) ?_ (by omega)
        have h3 := mkAt_to (k := k) hir
        rw [e1] at h3
        simp only [mkR, mkD] at h3
        rw [← h3]
        all_goals rfl
      · simp -implicitDefEqProofs (disch := omega) only [go_sem, hb]
        have hi : i = xs.length := by omega
        rw [mkTo_all (by omega), List.take_of_length_le (by omega)]
        all_goals (first | rfl | exact ⟨rfl, rfl⟩)
theorem markExprS_ok (xs : List MExpr) : ∀ (k : Int) (l j r : Nat) (p : List (Nat × Nat)) (S : Store) (rs : List (List (List D))), getO S (l, j) = some (.xf rs) → atR rs r p = some (xs.map MExpr.enc) → 0 ≤ k ∧ k + mcRs (xs.map MExpr.enc) ≤ 4611686018427387904 → ACall Tryz.prog 191 [.c (.xp (l, j) r p), .c (.d (.i .i64 k))] S (fun res S' => res = .c (.d (.i .i64 (k + mcRs (xs.map MExpr.enc)))) ∧ S' = setO S (l, j) (.xf (updR rs r p (mkRs (xs.map MExpr.enc) k)))) := (markExpr_all _).1 xs (Nat.lt_succ_self _)
theorem markArmS_ok (xs : List MArm) : ∀ (k : Int) (l j r : Nat) (p : List (Nat × Nat)) (S : Store) (rs : List (List (List D))), getO S (l, j) = some (.xf rs) → atR rs r p = some (xs.map MArm.enc) → 0 ≤ k ∧ k + mcRs (xs.map MArm.enc) ≤ 4611686018427387904 → ACall Tryz.prog 192 [.c (.xp (l, j) r p), .c (.d (.i .i64 k))] S (fun res S' => res = .c (.d (.i .i64 (k + mcRs (xs.map MArm.enc)))) ∧ S' = setO S (l, j) (.xf (updR rs r p (mkRs (xs.map MArm.enc) k)))) := (markExpr_all _).2 xs (Nat.lt_succ_self _)
end Go.Proofs.YtnleocfkdidhoaaGreat

namespace Go.Proofs.YtnleocfkdidhoaaGreat
open Go Go.Ab
end Go.Proofs.YtnleocfkdidhoaaGreat

namespace Go.Proofs.YtnleocfkdidhoaaGreat
open Go Go.Ab
set_option maxHeartbeats 4000000 in
theorem markSignatureS_ok (xs : List MSignature) : ∀ (k : Int) (l j r : Nat) (p : List (Nat × Nat)) (S : Store) (rs : List (List (List D))), getO S (l, j) = some (.xf rs) → atR rs r p = some (xs.map MSignature.enc) → 0 ≤ k ∧ k + mcRs (xs.map MSignature.enc) ≤ 4611686018427387904 → ACall Tryz.prog 239 [.c (.xp (l, j) r p), .c (.d (.i .i64 k))] S (fun res S' => res = .c (.d (.i .i64 (k + mcRs (xs.map MSignature.enc)))) ∧ S' = setO S (l, j) (.xf (updR rs r p (mkRs (xs.map MSignature.enc) k)))) := by
  intro k l j r p S rs hS hp hk
  have hlen := len_mc (f := MSignature.enc) (fun x => by simp only [MExpr.enc_eq, MSignature.enc_eq, MType.enc_eq, encS, encI, List.cons_append, List.nil_append, mcR, mcD]; omega) xs
  obtain ⟨rows, hr⟩ : ∃ rows, rows = xs.map MSignature.enc := ⟨_, rfl⟩
  have hl : rows.length = xs.length := by rw [hr, List.length_map]
  rw [← hr] at hp hk hlen ⊢
  have ht : ∀ x : Ab.Obj, getO (setO S (l, j) x) (l, j) = some x := fun x => getO_setO_eq _ _ _ _ hS
  have hA : ∀ new, atR (updR rs r p new) r p = some new := fun new => atR_updR hp
  have hU : ∀ a b, updR (updR rs r p a) r p b = updR rs r p b := fun a b => updR_updR hp
  refine acall_cw (rs := [.tmp 4]) Tryz.checked.mixed Tryz.func239 Tryz.ntmps239 rfl rfl rfl rfl rfl ?_
  simp -implicitDefEqProofs (disch := omega) only [go_sem]
  refine loop_at (ι := Nat) Tryz.checked.mixed rfl [0, 1, 5] (fun i => [.c (.xp (1 + l, j) r p), .c (.d (.i .i64 (k + mcRs (rows.take i)))), .c (.d (.i .i64 i))])
    (fun i => [] :: setO S (l, j) (.xf (updR rs r p (mkTo rows k i)))) (fun i => i ≤ xs.length) (fun i => xs.length - i) 0 ?_ ?_ (Nat.zero_le _) ?_
  · have z0 : k + ((mcRs (rows.take 0) : Nat) : Int) = k := by simp [mcRs]
    rw [z0]
    rfl
  · rw [mkTo_zero, updR_same hp, setO_self _ _ hS]
  intro i hi
  simp -implicitDefEqProofs (disch := omega) only [go_sem, ht, hA, mkTo_length, hl]
  with_reducible refine split2 (fun hb => ?_) (fun hb => ?_) <;> have h := hb <;> try simp only [wf_preprocess] at h
  · have hi : i < xs.length := by omega
    have hir : i < rows.length := by omega
    obtain ⟨x, hx⟩ : ∃ x, x = xs[i] := ⟨_, rfl⟩
    have e1 : rows[i] = [.s x.fName, .sl (x.fParams.map MType.enc), .i .i64 x.fResult.fKind, .s x.fResult.fName, .sl (x.fResult.fArgs.map MType.enc), .b x.fHasDefault, .sl (x.fVars.map encS), .i .i64 x.fBody.fKind, .s x.fBody.fTrait, .s x.fBody.fName, .i .i64 x.fBody.fN, .i .i64 x.fBody.fType.fKind, .s x.fBody.fType.fName, .sl (x.fBody.fType.fArgs.map MType.enc), .sl (x.fBody.fArgs.map MExpr.enc), .sl (x.fBody.fArms.map MArm.enc)] := by
      simp only [hr, List.getElem_map, ← hx]
      simp only [MExpr.enc_eq, MSignature.enc_eq, MType.enc_eq, encS, encI, List.cons_append, List.nil_append]
    have hm := mcRs_take hir
    have hle := mcRs_le (rows := rows) (i := i + 1)
    rw [hm, e1] at hle
    rw [e1] at hm
    simp only [mcR, mcD] at hle hm
    have hK : k + ((mcRs (rows.take (i + 1)) : Nat) : Int) = k + ((mcRs (rows.take i) : Nat) : Int) + 1 + ((mcRs (x.fParams.map MType.enc) : Nat) : Int) + 1 + 1 + ((mcRs (x.fResult.fArgs.map MType.enc) : Nat) : Int) + 1 + ((mcRs (x.fVars.map encS) : Nat) : Int) + 1 + 1 + 1 + 1 + 1 + 1 + ((mcRs (x.fBody.fType.fArgs.map MType.enc) : Nat) : Int) + ((mcRs (x.fBody.fArgs.map MExpr.enc) : Nat) : Int) + ((mcRs (x.fBody.fArms.map MArm.enc) : Nat) : Int) := by rw [hm]; omega
    have e2 := mkTo_at (k := k) hir
    rw [e1] at e2
    have hC : ∀ row o, cellAt (mkAt rows k i row) i o = row[o]? := fun row o => mkAt_cell hir
    have hG : ∀ row, (mkAt rows k i row).getD i [] = row := fun row => mkAt_get hir
    simp -implicitDefEqProofs (disch := omega) only [go_sem, hb, ht, hA, hU, e2, hC, hG, mkAt_set, mkAt_length, hl, setO_twice, isSD]
    (repeat (with_reducible refine And.intro ?_ ?_; focus first | omega | rfl | assumption | exact ⟨_, rfl, rfl⟩ | (simp; omega) | (simp; done)))
    refine call_w (markText_ok (k + ((mcRs (rows.take i) : Nat) : Int)) (by omega)) ?_
    simp -implicitDefEqProofs (disch := omega) only [go_sem, hb, ht, hA, hU, e2, hC, hG, mkAt_set, mkAt_length, hl, setO_twice, isSD]
    (repeat (with_reducible refine And.intro ?_ ?_; focus first | omega | rfl | assumption | exact ⟨_, rfl, rfl⟩ | (simp; omega) | (simp; done)))
    refine call_d rfl (sub_mk hS hp hir (by rfl) (fun S' rs' g1 g2 => markTypeS_ok x.fParams (k + ((mcRs (rows.take i) : Nat) : Int) + 1) (1 + l) j r _ S' rs' g1 g2 (by omega))) ?_
    simp -implicitDefEqProofs (disch := omega) only [go_sem, hb, ht, hA, hU, e2, hC, hG, mkAt_set, mkAt_length, hl, setO_twice, isSD]
    (repeat (with_reducible refine And.intro ?_ ?_; focus first | omega | rfl | assumption | exact ⟨_, rfl, rfl⟩ | (simp; omega) | (simp; done)))
    refine call_w (markText_ok (k + ((mcRs (rows.take i) : Nat) : Int) + 1 + ((mcRs (x.fParams.map MType.enc) : Nat) : Int) + 1) (by omega)) ?_
    simp -implicitDefEqProofs (disch := omega) only [go_sem, hb, ht, hA, hU, e2, hC, hG, mkAt_set, mkAt_length, hl, setO_twice, isSD]
    (repeat (with_reducible refine And.intro ?_ ?_; focus first | omega | rfl | assumption | exact ⟨_, rfl, rfl⟩ | (simp; omega) | (simp; done)))
    refine call_d rfl (sub_mk hS hp hir (by rfl) (fun S' rs' g1 g2 => markTypeS_ok x.fResult.fArgs (k + ((mcRs (rows.take i) : Nat) : Int) + 1 + ((mcRs (x.fParams.map MType.enc) : Nat) : Int) + 1 + 1) (1 + l) j r _ S' rs' g1 g2 (by omega))) ?_
    simp -implicitDefEqProofs (disch := omega) only [go_sem, hb, ht, hA, hU, e2, hC, hG, mkAt_set, mkAt_length, hl, setO_twice, isSD]
    (repeat (with_reducible refine And.intro ?_ ?_; focus first | omega | rfl | assumption | exact ⟨_, rfl, rfl⟩ | (simp; omega) | (simp; done)))
    refine call_d rfl (sub_mk hS hp hir (by rfl) (fun S' rs' g1 g2 => markStringS_ok x.fVars (k + ((mcRs (rows.take i) : Nat) : Int) + 1 + ((mcRs (x.fParams.map MType.enc) : Nat) : Int) + 1 + 1 + ((mcRs (x.fResult.fArgs.map MType.enc) : Nat) : Int) + 1) (1 + l) j r _ S' rs' g1 g2 (by omega))) ?_
    simp -implicitDefEqProofs (disch := omega) only [go_sem, hb, ht, hA, hU, e2, hC, hG, mkAt_set, mkAt_length, hl, setO_twice, isSD]
    (repeat (with_reducible refine And.intro ?_ ?_; focus first | omega | rfl | assumption | exact ⟨_, rfl, rfl⟩ | (simp; omega) | (simp; done)))
    refine call_w (markText_ok (k + ((mcRs (rows.take i) : Nat) : Int) + 1 + ((mcRs (x.fParams.map MType.enc) : Nat) : Int) + 1 + 1 + ((mcRs (x.fResult.fArgs.map MType.enc) : Nat) : Int) + 1 + ((mcRs (x.fVars.map encS) : Nat) : Int) + 1) (by omega)) ?_
    simp -implicitDefEqProofs (disch := omega) only [go_sem, hb, ht, hA, hU, e2, hC, hG, mkAt_set, mkAt_length, hl, setO_twice, isSD]
    (repeat (with_reducible refine And.intro ?_ ?_; focus first | omega | rfl | assumption | exact ⟨_, rfl, rfl⟩ | (simp; omega) | (simp; done)))
    refine call_w (markText_ok (k + ((mcRs (rows.take i) : Nat) : Int) + 1 + ((mcRs (x.fParams.map MType.enc) : Nat) : Int) + 1 + 1 + ((mcRs (x.fResult.fArgs.map MType.enc) : Nat) : Int) + 1 + ((mcRs (x.fVars.map encS) : Nat) : Int) + 1 + 1) (by omega)) ?_
    simp -implicitDefEqProofs (disch := omega) only [go_sem, hb, ht, hA, hU, e2, hC, hG, mkAt_set, mkAt_length, hl, setO_twice, isSD]
    (repeat (with_reducible refine And.intro ?_ ?_; focus first | omega | rfl | assumption | exact ⟨_, rfl, rfl⟩ | (simp; omega) | (simp; done)))
    refine call_w (markText_ok (k + ((mcRs (rows.take i) : Nat) : Int) + 1 + ((mcRs (x.fParams.map MType.enc) : Nat) : Int) + 1 + 1 + ((mcRs (x.fResult.fArgs.map MType.enc) : Nat) : Int) + 1 + ((mcRs (x.fVars.map encS) : Nat) : Int) + 1 + 1 + 1 + 1 + 1) (by omega)) ?_
    simp -implicitDefEqProofs (disch := omega) only [go_sem, hb, ht, hA, hU, e2, hC, hG, mkAt_set, mkAt_length, hl, setO_twice, isSD]
    (repeat (with_reducible refine And.intro ?_ ?_; focus first | omega | rfl | assumption | exact ⟨_, rfl, rfl⟩ | (simp; omega) | (simp; done)))
    refine call_d rfl (sub_mk hS hp hir (by rfl) (fun S' rs' g1 g2 => markTypeS_ok x.fBody.fType.fArgs (k + ((mcRs (rows.take i) : Nat) : Int) + 1 + ((mcRs (x.fParams.map MType.enc) : Nat) : Int) + 1 + 1 + ((mcRs (x.fResult.fArgs.map MType.enc) : Nat) : Int) + 1 + ((mcRs (x.fVars.map encS) : Nat) : Int) + 1 + 1 + 1 + 1 + 1 + 1) (1 + l) j r _ S' rs' g1 g2 (by omega))) ?_
    simp -implicitDefEqProofs (disch := omega) only [go_sem, hb, ht, hA, hU, e2, hC, hG, mkAt_set, mkAt_length, hl, setO_twice, isSD]
    (repeat (with_reducible refine And.intro ?_ ?_; focus first | omega | rfl | assumption | exact ⟨_, rfl, rfl⟩ | (simp; omega) | (simp; done)))
    refine call_d rfl (sub_mk hS hp hir (by rfl) (fun S' rs' g1 g2 => markExprS_ok x.fBody.fArgs (k + ((mcRs (rows.take i) : Nat) : Int) + 1 + ((mcRs (x.fParams.map MType.enc) : Nat) : Int) + 1 + 1 + ((mcRs (x.fResult.fArgs.map MType.enc) : Nat) : Int) + 1 + ((mcRs (x.fVars.map encS) : Nat) : Int) + 1 + 1 + 1 + 1 + 1 + 1 + ((mcRs (x.fBody.fType.fArgs.map MType.enc) : Nat) : Int)) (1 + l) j r _ S' rs' g1 g2 (by omega))) ?_
    simp -implicitDefEqProofs (disch := omega) only [go_sem, hb, ht, hA, hU, e2, hC, hG, mkAt_set, mkAt_length, hl, setO_twice, isSD]
    (repeat (with_reducible refine And.intro ?_ ?_; focus first | omega | rfl | assumption | exact ⟨_, rfl, rfl⟩ | (simp; omega) | (simp; done)))
    refine call_d rfl (sub_mk hS hp hir (by rfl) (fun S' rs' g1 g2 => markArmS_ok x.fBody.fArms (k + ((mcRs (rows.take i) : Nat) : Int) + 1 + ((mcRs (x.fParams.map MType.enc) : Nat) : Int) + 1 + 1 + ((mcRs (x.fResult.fArgs.map MType.enc) : Nat) : Int) + 1 + ((mcRs (x.fVars.map encS) : Nat) : Int) + 1 + 1 + 1 + 1 + 1 + 1 + ((mcRs (x.fBody.fType.fArgs.map MType.enc) : Nat) : Int) + ((mcRs (x.fBody.fArgs.map MExpr.enc) : Nat) : Int)) (1 + l) j r _ S' rs' g1 g2 (by omega))) ?_
    simp -implicitDefEqProofs (disch := omega) only [go_sem, hb, ht, hA, hU, e2, hC, hG, mkAt_set, mkAt_length, hl, setO_twice, isSD]
    (repeat (with_reducible refine And.intro ?_ ?_; focus first | omega | rfl | assumption | exact ⟨_, rfl, rfl⟩ | (simp; omega) | (simp; done)))
    refine inv_at (i + 1) (by omega) (by rw [hK]; rfl) ?_ (by omega)
    have h3 := mkAt_to (k := k) hir
    rw [e1] at h3
    simp only [mkR, mkD] at h3
    rw [← h3]
    all_goals rfl
  · simp -implicitDefEqProofs (disch := omega) only [go_sem, hb]
    have hi : i = xs.length := by omega
    rw [mkTo_all (by omega), List.take_of_length_le (by omega)]
    all_goals (first | rfl | exact ⟨rfl, rfl⟩)
end Go.Proofs.YtnleocfkdidhoaaGreat

namespace Go.Proofs.YtnleocfkdidhoaaGreat
open Go Go.Ab
set_option maxHeartbeats 4000000 in
theorem markTraitS_ok (xs : List MTrait) : ∀ (k : Int) (l j r : Nat) (p : List (Nat × Nat)) (S : Store) (rs : List (List (List D))), getO S (l, j) = some (.xf rs) → atR rs r p = some (xs.map MTrait.enc) → 0 ≤ k ∧ k + mcRs (xs.map MTrait.enc) ≤ 4611686018427387904 → ACall Tryz.prog 171 [.c (.xp (l, j) r p), .c (.d (.i .i64 k))] S (fun res S' => res = .c (.d (.i .i64 (k + mcRs (xs.map MTrait.enc)))) ∧ S' = setO S (l, j) (.xf (updR rs r p (mkRs (xs.map MTrait.enc) k)))) := by
  intro k l j r p S rs hS hp hk
  have hlen := len_mc (f := MTrait.enc) (fun x => by simp only [MTrait.enc_eq, encS, encI, List.cons_append, List.nil_append, mcR, mcD]; omega) xs
  obtain ⟨rows, hr⟩ : ∃ rows, rows = xs.map MTrait.enc := ⟨_, rfl⟩
  have hl : rows.length = xs.length := by rw [hr, List.length_map]
  rw [← hr] at hp hk hlen ⊢
  have ht : ∀ x : Ab.Obj, getO (setO S (l, j) x) (l, j) = some x := fun x => getO_setO_eq _ _ _ _ hS
  have hA : ∀ new, atR (updR rs r p new) r p = some new := fun new => atR_updR hp
  have hU : ∀ a b, updR (updR rs r p a) r p b = updR rs r p b := fun a b => updR_updR hp
  refine acall_cw (rs := [.tmp 4]) Tryz.checked.mixed Tryz.func171 Tryz.ntmps171 rfl rfl rfl rfl rfl ?_
  simp -implicitDefEqProofs (disch := omega) only [go_sem]
  refine loop_at (ι := Nat) Tryz.checked.mixed rfl [0, 1, 5] (fun i => [.c (.xp (1 + l, j) r p), .c (.d (.i .i64 (k + mcRs (rows.take i)))), .c (.d (.i .i64 i))])
    (fun i => [] :: setO S (l, j) (.xf (updR rs r p (mkTo rows k i)))) (fun i => i ≤ xs.length) (fun i => xs.length - i) 0 ?_ ?_ (Nat.zero_le _) ?_
  · have z0 : k + ((mcRs (rows.take 0) : Nat) : Int) = k := by simp [mcRs]
    rw [z0]
    rfl
  · rw [mkTo_zero, updR_same hp, setO_self _ _ hS]
  intro i hi
  simp -implicitDefEqProofs (disch := omega) only [go_sem, ht, hA, mkTo_length, hl]
  with_reducible refine split2 (fun hb => ?_) (fun hb => ?_) <;> have h := hb <;> try simp only [wf_preprocess] at h
  · have hi : i < xs.length := by omega
    have hir : i < rows.length := by omega
    obtain ⟨x, hx⟩ : ∃ x, x = xs[i] := ⟨_, rfl⟩
    have e1 : rows[i] = [.s x.fName, .sl (x.fSupertraits.map encS), .b x.fAuto, .b x.fAssoc, .sl (x.fSignatures.map MSignature.enc)] := by
      simp only [hr, List.getElem_map, ← hx]
      simp only [MTrait.enc_eq, encS, encI, List.cons_append, List.nil_append]
    have hm := mcRs_take hir
    have hle := mcRs_le (rows := rows) (i := i + 1)
    rw [hm, e1] at hle
    rw [e1] at hm
    simp only [mcR, mcD] at hle hm
    have hK : k + ((mcRs (rows.take (i + 1)) : Nat) : Int) = k + ((mcRs (rows.take i) : Nat) : Int) + 1 + ((mcRs (x.fSupertraits.map encS) : Nat) : Int) + 1 + 1 + ((mcRs (x.fSignatures.map MSignature.enc) : Nat) : Int) := by rw [hm]; omega
    have e2 := mkTo_at (k := k) hir
    rw [e1] at e2
    have hC : ∀ row o, cellAt (mkAt rows k i row) i o = row[o]? := fun row o => mkAt_cell hir
    have hG : ∀ row, (mkAt rows k i row).getD i [] = row := fun row => mkAt_get hir
    simp -implicitDefEqProofs (disch := omega) only [go_sem, hb, ht, hA, hU, e2, hC, hG, mkAt_set, mkAt_length, hl, setO_twice, isSD]
    (repeat (with_reducible refine And.intro ?_ ?_; focus first | omega | rfl | assumption | exact ⟨_, rfl, rfl⟩ | (simp; omega) | (simp; done)))
    refine call_w (markText_ok (k + ((mcRs (rows.take i) : Nat) : Int)) (by omega)) ?_
    simp -implicitDefEqProofs (disch := omega) only [go_sem, hb, ht, hA, hU, e2, hC, hG, mkAt_set, mkAt_length, hl, setO_twice, isSD]
    (repeat (with_reducible refine And.intro ?_ ?_; focus first | omega | rfl | assumption | exact ⟨_, rfl, rfl⟩ | (simp; omega) | (simp; done)))
    refine call_d rfl (sub_mk hS hp hir (by rfl) (fun S' rs' g1 g2 => markStringS_ok x.fSupertraits (k + ((mcRs (rows.take i) : Nat) : Int) + 1) (1 + l) j r _ S' rs' g1 g2 (by omega))) ?_
    simp -implicitDefEqProofs (disch := omega) only [go_sem, hb, ht, hA, hU, e2, hC, hG, mkAt_set, mkAt_length, hl, setO_twice, isSD]
    (repeat (with_reducible refine And.intro ?_ ?_; focus first | omega | rfl | assumption | exact ⟨_, rfl, rfl⟩ | (simp; omega) | (simp; done)))
    refine call_d rfl (sub_mk hS hp hir (by rfl) (fun S' rs' g1 g2 => markSignatureS_ok x.fSignatures (k + ((mcRs (rows.take i) : Nat) : Int) + 1 + ((mcRs (x.fSupertraits.map encS) : Nat) : Int) + 1 + 1) (1 + l) j r _ S' rs' g1 g2 (by omega))) ?_
    simp -implicitDefEqProofs (disch := omega) only [go_sem, hb, ht, hA, hU, e2, hC, hG, mkAt_set, mkAt_length, hl, setO_twice, isSD]
    (repeat (with_reducible refine And.intro ?_ ?_; focus first | omega | rfl | assumption | exact ⟨_, rfl, rfl⟩ | (simp; omega) | (simp; done)))
    refine inv_at (i + 1) (by omega) (by rw [hK]; rfl) ?_ (by omega)
    have h3 := mkAt_to (k := k) hir
    rw [e1] at h3
    simp only [mkR, mkD] at h3
    rw [← h3]
    all_goals rfl
  · simp -implicitDefEqProofs (disch := omega) only [go_sem, hb]
    have hi : i = xs.length := by omega
    rw [mkTo_all (by omega), List.take_of_length_le (by omega)]
    all_goals (first | rfl | exact ⟨rfl, rfl⟩)
end Go.Proofs.YtnleocfkdidhoaaGreat

