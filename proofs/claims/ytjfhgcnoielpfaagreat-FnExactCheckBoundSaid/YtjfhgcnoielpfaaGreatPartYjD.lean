/-
  SEVERAL TEXTS IN ONE (merged by program): contracts and models, each with its own heading.
-/
import Derived.Test.YtjfhgcnoielpfaaGreatPartYjC
set_option linter.unusedSimpArgs false
set_option linter.unusedVariables false
set_option maxRecDepth 4000
namespace Go.Proofs.YtjfhgcnoielpfaaGreat
open Go Go.Ab
theorem szFunction_ok (x : MFunction) : ∀ left : Int, 0 ≤ left → left ≤ 1048576 → FitL x.enc → PCall Tryz.prog 9 [x.v, .c (.d (.i .i64 left))] (.c (.d (.i .i64 (sub1 left x.sz)))) := by
  intro left h0 h1 hf S
  simp only [MFunction.enc_eq, List.cons_append, List.nil_append, fitL_cons, fitL_append, fitL_nil_iff, and_true] at hf
  obtain ⟨fName, fVars, fWhere, fParams, fResult, fBody⟩ := hf
  have hz : x.sz = x.fName.length + ((x.fVars.length + szRows (x.fVars.map encS)) + ((x.fWhere.length + szRows (x.fWhere.map MBound.enc)) + ((x.fParams.length + szRows (x.fParams.map MParam.enc)) + (x.fResult.sz + (x.fBody.sz))))) := by
    simp only [MFunction.sz, MFunction.enc_eq, szRow, szRow_append, D.sz, List.length_map, Nat.add_zero, Nat.zero_add, MExpr.sz_def, MType.sz_def] <;> omega
  refine acall_cw (rs := [.tmp 4]) Tryz.checked.mixed Tryz.func9 Tryz.ntmps9 rfl rfl rfl rfl rfl ?_
  rw [hz]
  have gName := fit_s fName
  simp -implicitDefEqProofs (disch := omega) only [go_sem]
  with_reducible refine split2 (fun hb => ?_) (fun hb => ?_) <;> have h := hb <;> (try simp only [wf_preprocess] at h) <;> simp -implicitDefEqProofs (disch := omega) only [go_sem, hb] <;> (repeat (with_reducible refine And.intro ?_ ?_; focus first | omega | rfl | assumption | exact ⟨_, rfl, rfl⟩ | (simp; omega) | (simp; done)))
  · exact int_eq (sub1_no (by omega)).symm
  refine call_w (szStringS_ok x.fVars _ (by omega) (by omega) fVars) ?_
  simp -implicitDefEqProofs (disch := omega) only [go_sem]
  with_reducible refine split2 (fun hb => ?_) (fun hb => ?_) <;> have h := hb <;> (try simp only [wf_preprocess] at h) <;> simp -implicitDefEqProofs (disch := omega) only [go_sem, hb] <;> (repeat (with_reducible refine And.intro ?_ ?_; focus first | omega | rfl | assumption | exact ⟨_, rfl, rfl⟩ | (simp; omega) | (simp; done)))
  · have h' := sub1_neg h
    exact int_eq (sub1_no (by omega)).symm
  have hVars := sub1_nn h
  simp only [hVars.1]
  refine call_w (szBoundS_ok x.fWhere _ (by omega) (by omega) fWhere) ?_
  simp -implicitDefEqProofs (disch := omega) only [go_sem]
  with_reducible refine split2 (fun hb => ?_) (fun hb => ?_) <;> have h := hb <;> (try simp only [wf_preprocess] at h) <;> simp -implicitDefEqProofs (disch := omega) only [go_sem, hb] <;> (repeat (with_reducible refine And.intro ?_ ?_; focus first | omega | rfl | assumption | exact ⟨_, rfl, rfl⟩ | (simp; omega) | (simp; done)))
  · have h' := sub1_neg h
    exact int_eq (sub1_no (by omega)).symm
  have hWhere := sub1_nn h
  simp only [hWhere.1]
  refine call_w (szParamS_ok x.fParams _ (by omega) (by omega) fParams) ?_
  simp -implicitDefEqProofs (disch := omega) only [go_sem]
  with_reducible refine split2 (fun hb => ?_) (fun hb => ?_) <;> have h := hb <;> (try simp only [wf_preprocess] at h) <;> simp -implicitDefEqProofs (disch := omega) only [go_sem, hb] <;> (repeat (with_reducible refine And.intro ?_ ?_; focus first | omega | rfl | assumption | exact ⟨_, rfl, rfl⟩ | (simp; omega) | (simp; done)))
  · have h' := sub1_neg h
    exact int_eq (sub1_no (by omega)).symm
  have hParams := sub1_nn h
  simp only [hParams.1]
  refine call_w (szType_ok x.fResult _ (by omega) (by omega) fResult) ?_
  simp -implicitDefEqProofs (disch := omega) only [go_sem]
  with_reducible refine split2 (fun hb => ?_) (fun hb => ?_) <;> have h := hb <;> (try simp only [wf_preprocess] at h) <;> simp -implicitDefEqProofs (disch := omega) only [go_sem, hb] <;> (repeat (with_reducible refine And.intro ?_ ?_; focus first | omega | rfl | assumption | exact ⟨_, rfl, rfl⟩ | (simp; omega) | (simp; done)))
  · have h' := sub1_neg h
    exact int_eq (sub1_no (by omega)).symm
  have hResult := sub1_nn h
  simp only [hResult.1]
  refine call_w (szExpr_ok x.fBody _ (by omega) (by omega) fBody) ?_
  simp -implicitDefEqProofs (disch := omega) only [go_sem]
  with_reducible refine split2 (fun hb => ?_) (fun hb => ?_) <;> have h := hb <;> (try simp only [wf_preprocess] at h) <;> simp -implicitDefEqProofs (disch := omega) only [go_sem, hb] <;> (repeat (with_reducible refine And.intro ?_ ?_; focus first | omega | rfl | assumption | exact ⟨_, rfl, rfl⟩ | (simp; omega) | (simp; done)))
  · have h' := sub1_neg h
    exact int_eq (sub1_no (by omega)).symm
  have hBody := sub1_nn h
  simp only [hBody.1]
  refine int_eq ?_
  rw [sub1_yes (by omega)]
  omega
theorem szFunctionS_ok (xs : List MFunction) : ∀ left : Int, 0 ≤ left → left ≤ 1048576 → (D.sl (xs.map MFunction.enc)).Fit → PCall Tryz.prog 181 [.c (.d (.sl (xs.map MFunction.enc))), .c (.d (.i .i64 left))] (.c (.d (.i .i64 (sub1 left (xs.length + szRows (xs.map MFunction.enc)))))) := by
  intro left h0 h1 hf S
  obtain ⟨hf1, hf2⟩ := fit_sl hf
  rw [List.length_map] at hf1
  refine acall_cw (rs := [.tmp 4]) Tryz.checked.mixed Tryz.func181 Tryz.ntmps181 rfl rfl rfl rfl rfl ?_
  simp -implicitDefEqProofs (disch := omega) only [go_sem]
  with_reducible refine split2 (fun hb => ?_) (fun hb => ?_) <;> have h := hb <;> (try simp only [wf_preprocess] at h) <;> simp -implicitDefEqProofs (disch := omega) only [go_sem, hb] <;> (repeat (with_reducible refine And.intro ?_ ?_; focus first | omega | rfl | assumption | exact ⟨_, rfl, rfl⟩ | (simp; omega) | (simp; done)))
  · exact int_eq (sub1_no (by omega)).symm
  refine loop_at (ι := Nat × Int) Tryz.checked.mixed rfl [0, 1, 5] (fun y => [.c (.d (.sl (xs.map MFunction.enc))), .c (.d (.i .i64 y.2)), .c (.d (.i .i64 y.1))]) (fun _ => [] :: S)
    (fun y => y.1 ≤ xs.length ∧ 0 ≤ y.2 ∧ y.2 ≤ 1048576 ∧ sub1 y.2 (szRows ((xs.map MFunction.enc).drop y.1)) = sub1 left (xs.length + szRows (xs.map MFunction.enc))) (fun y => xs.length - y.1) (0, left - xs.length) rfl rfl ⟨by omega, by omega, by omega, ?_⟩ ?_
  · unfold sub1
    rw [List.drop_zero]
    split <;> split <;> omega
  rintro ⟨i, l⟩ ⟨p1, p2, p3, p4⟩
  simp only at p1 p2 p3 p4
  simp -implicitDefEqProofs (disch := omega) only [go_sem]
  with_reducible refine split2 (fun hb => ?_) (fun hb => ?_) <;> have h := hb <;> (try simp only [wf_preprocess] at h) <;> simp -implicitDefEqProofs (disch := omega) only [go_sem, hb] <;> (repeat (with_reducible refine And.intro ?_ ?_; focus first | omega | rfl | assumption | exact ⟨_, rfl, rfl⟩ | (simp; omega) | (simp; done)))
  · have hi : i < xs.length := by omega
    rw [List.drop_eq_getElem_cons (by rw [List.length_map]; exact hi), szRows, List.getElem_map, MFunction.sz_def] at p4
    (repeat (with_reducible refine And.intro ?_ ?_; focus first | omega | rfl | assumption | exact ⟨_, rfl, rfl⟩ | (simp; omega) | (simp; done)))
    refine call_w (szFunction_ok xs[i] _ (by omega) (by omega) (hf2 _ (List.mem_map_of_mem (List.getElem_mem hi)))) ?_
    simp -implicitDefEqProofs (disch := omega) only [go_sem]
    with_reducible refine split2 (fun hb => ?_) (fun hb => ?_) <;> have h := hb <;> (try simp only [wf_preprocess] at h) <;> simp -implicitDefEqProofs (disch := omega) only [go_sem, hb] <;> (repeat (with_reducible refine And.intro ?_ ?_; focus first | omega | rfl | assumption | exact ⟨_, rfl, rfl⟩ | (simp; omega) | (simp; done)))
    · have h' := sub1_neg h
      rw [← p4, sub1_no (by omega)]
    · have h' := sub1_nn h
      refine inv_at (i + 1, sub1 l _) (by simp only; omega) rfl rfl ⟨by simp only; omega, by simp only; omega, by simp only; omega, ?_⟩
      simp only
      rw [← p4, h'.1]
      unfold sub1
      split <;> split <;> omega
  · have hi : i = xs.length := by omega
    rw [hi, List.drop_of_length_le (by simp), szRows, sub1_yes (by omega)] at p4
    rw [← p4]
    refine int_eq ?_
    omega
theorem toFunction_ok (x : MFunction) : x.sz ≤ 1048576 → PCall Tryz.prog 11 [x.v] x.v := by
  intro hsz S
  simp only [MFunction.sz, MFunction.enc_eq, szRow, szRow_append, D.sz, List.length_map, MExpr.sz_def, MType.sz_def] at hsz
  refine acall_cw (rs := [.cell 2 46]) Tryz.checked.mixed Tryz.func11 Tryz.ntmps11 rfl rfl rfl rfl rfl ?_
  simp -implicitDefEqProofs (disch := omega) only [go_sem]
  refine call_w (toStringS_ok x.fVars (by omega)) ?_
  simp -implicitDefEqProofs (disch := omega) only [go_sem]
  refine call_w (toBoundS_ok x.fWhere (by omega)) ?_
  simp -implicitDefEqProofs (disch := omega) only [go_sem]
  refine call_w (toParamS_ok x.fParams (by omega)) ?_
  simp -implicitDefEqProofs (disch := omega) only [go_sem]
  refine call_w (toType_ok x.fResult (by omega)) ?_
  simp -implicitDefEqProofs (disch := omega) only [go_sem]
  refine call_w (toExpr_ok x.fBody (by omega)) ?_
  simp -implicitDefEqProofs (disch := omega) only [go_sem]
theorem toFunctionS_ok (xs : List MFunction) : xs.length + szRows (xs.map MFunction.enc) ≤ 1048576 → PCall Tryz.prog 185 [.c (.d (.sl (xs.map MFunction.enc)))] (.c (.d (.sl (xs.map MFunction.enc)))) := by
  intro hsz S
  refine acall_cw (rs := [.tmp 2]) Tryz.checked.mixed Tryz.func185 Tryz.ntmps185 rfl rfl rfl rfl rfl ?_
  simp -implicitDefEqProofs (disch := omega) only [go_sem]
  (repeat (with_reducible refine And.intro ?_ ?_; focus first | omega | rfl | assumption | exact ⟨_, rfl, rfl⟩ | (simp; omega) | (simp; done)))
  refine loop_at (ι := Nat × List (List D)) Tryz.checked.mixed rfl [0, 3, 4] (fun y => [.c (.d (.sl (xs.map MFunction.enc))), .c (.msl (0, 0)), .c (.d (.i .i64 y.1))]) (fun y => [.mrow 16 y.2] :: S)
    (fun y => y.1 ≤ xs.length ∧ Filled 16 y.1 y.2 (xs.map MFunction.enc)) (fun y => xs.length - y.1) (0, _) rfl rfl ⟨Nat.zero_le _, Filled.start (by simp) rfl⟩ ?_
  rintro ⟨i, R⟩ ⟨p1, p2⟩
  simp only at p1 p2
  simp -implicitDefEqProofs (disch := omega) only [go_sem]
  with_reducible refine split2 (fun hb => ?_) (fun hb => ?_) <;> have h := hb <;> (try simp only [wf_preprocess] at h) <;> simp -implicitDefEqProofs (disch := omega) only [go_sem, hb] <;> (repeat (with_reducible refine And.intro ?_ ?_; focus first | omega | rfl | assumption | exact ⟨_, rfl, rfl⟩ | (simp; omega) | (simp; done)))
  · have hi : i < xs.length := by omega
    have hx : xs[i].sz ≤ szRows (xs.map MFunction.enc) := szRows_mem (List.mem_map_of_mem (List.getElem_mem hi))
    (repeat (with_reducible refine And.intro ?_ ?_; focus first | omega | rfl | assumption | exact ⟨_, rfl, rfl⟩ | (simp; omega) | (simp; done)))
    refine call_w (toFunction_ok xs[i] (by omega)) ?_
    simp -implicitDefEqProofs (disch := omega) only [go_sem]
    have hR := p2.1
    rw [List.length_map] at hR
    (repeat (with_reducible refine And.intro ?_ ?_; focus first | omega | rfl | assumption | exact ⟨_, rfl, rfl⟩ | (simp; omega) | (simp; done)))
    refine inv_at (i + 1, _) (by simp only; omega) rfl rfl ⟨by simp only; omega, p2.step (by simp [hi, MExpr.enc_eq, MFunction.enc_eq, MType.enc_eq]) rfl⟩
  · have hi : i = xs.length := by omega
    rw [p2.done (by rw [List.length_map]; omega)]
theorem eqFunction_ok (x : MFunction) : ∀ y : MFunction, x.sz ≤ 1048576 → PCall Tryz.prog 13 [x.v, y.v] (.c (.d (.b (dec (x = y))))) := by
  intro y hsz S
  simp only [MFunction.sz, MFunction.enc_eq, szRow, szRow_append, D.sz, List.length_map, MExpr.sz_def, MType.sz_def] at hsz
  refine acall_cw (rs := [.tmp 4]) Tryz.checked.mixed Tryz.func13 Tryz.ntmps13 rfl rfl rfl rfl rfl ?_
  simp -implicitDefEqProofs (disch := omega) only [go_sem]
  with_reducible refine split2 (fun hb => ?_) (fun hb => ?_) <;> have h := hb <;> (try simp only [wf_preprocess] at h) <;> simp -implicitDefEqProofs (disch := omega) only [go_sem, hb] <;> (repeat (with_reducible refine And.intro ?_ ?_; focus first | omega | rfl | assumption | exact ⟨_, rfl, rfl⟩ | (simp; omega) | (simp; done)))
  · exact bool_eq (dec_false (fun e => h (by rw [e]))).symm
  have eName := h
  clear h
  refine call_w (eqStringS_ok x.fVars _ (by omega)) ?_
  simp -implicitDefEqProofs (disch := omega) only [go_sem]
  with_reducible refine split2 (fun hb => ?_) (fun hb => ?_) <;> have h := hb <;> (try simp only [wf_preprocess] at h) <;> simp -implicitDefEqProofs (disch := omega) only [go_sem, hb] <;> (repeat (with_reducible refine And.intro ?_ ?_; focus first | omega | rfl | assumption | exact ⟨_, rfl, rfl⟩ | (simp; omega) | (simp; done)))
  · exact bool_eq (dec_false (fun e => h (by rw [e]))).symm
  have eVars := h
  clear h
  refine call_w (eqBoundS_ok x.fWhere _ (by omega)) ?_
  simp -implicitDefEqProofs (disch := omega) only [go_sem]
  with_reducible refine split2 (fun hb => ?_) (fun hb => ?_) <;> have h := hb <;> (try simp only [wf_preprocess] at h) <;> simp -implicitDefEqProofs (disch := omega) only [go_sem, hb] <;> (repeat (with_reducible refine And.intro ?_ ?_; focus first | omega | rfl | assumption | exact ⟨_, rfl, rfl⟩ | (simp; omega) | (simp; done)))
  · exact bool_eq (dec_false (fun e => h (by rw [e]))).symm
  have eWhere := h
  clear h
  refine call_w (eqParamS_ok x.fParams _ (by omega)) ?_
  simp -implicitDefEqProofs (disch := omega) only [go_sem]
  with_reducible refine split2 (fun hb => ?_) (fun hb => ?_) <;> have h := hb <;> (try simp only [wf_preprocess] at h) <;> simp -implicitDefEqProofs (disch := omega) only [go_sem, hb] <;> (repeat (with_reducible refine And.intro ?_ ?_; focus first | omega | rfl | assumption | exact ⟨_, rfl, rfl⟩ | (simp; omega) | (simp; done)))
  · exact bool_eq (dec_false (fun e => h (by rw [e]))).symm
  have eParams := h
  clear h
  refine call_w (eqType_ok x.fResult _ (by omega)) ?_
  simp -implicitDefEqProofs (disch := omega) only [go_sem]
  with_reducible refine split2 (fun hb => ?_) (fun hb => ?_) <;> have h := hb <;> (try simp only [wf_preprocess] at h) <;> simp -implicitDefEqProofs (disch := omega) only [go_sem, hb] <;> (repeat (with_reducible refine And.intro ?_ ?_; focus first | omega | rfl | assumption | exact ⟨_, rfl, rfl⟩ | (simp; omega) | (simp; done)))
  · exact bool_eq (dec_false (fun e => h (by rw [e]))).symm
  have eResult := h
  clear h
  refine call_w (eqExpr_ok x.fBody _ (by omega)) ?_
  simp -implicitDefEqProofs (disch := omega) only [go_sem]
  with_reducible refine split2 (fun hb => ?_) (fun hb => ?_) <;> have h := hb <;> (try simp only [wf_preprocess] at h) <;> simp -implicitDefEqProofs (disch := omega) only [go_sem, hb] <;> (repeat (with_reducible refine And.intro ?_ ?_; focus first | omega | rfl | assumption | exact ⟨_, rfl, rfl⟩ | (simp; omega) | (simp; done)))
  · exact bool_eq (dec_false (fun e => h (by rw [e]))).symm
  have eBody := h
  clear h
  exact bool_eq (dec_true (MFunction.ext' eName eVars eWhere eParams eResult eBody)).symm
theorem eqFunctionS_ok (xs : List MFunction) : ∀ ys : List MFunction, xs.length + szRows (xs.map MFunction.enc) ≤ 1048576 → PCall Tryz.prog 191 [.c (.d (.sl (xs.map MFunction.enc))), .c (.d (.sl (ys.map MFunction.enc)))] (.c (.d (.b (dec (xs = ys))))) := by
  intro ys hsz S
  refine acall_cw (rs := [.tmp 4]) Tryz.checked.mixed Tryz.func191 Tryz.ntmps191 rfl rfl rfl rfl rfl ?_
  simp -implicitDefEqProofs (disch := omega) only [go_sem]
  with_reducible refine split2 (fun hb => ?_) (fun hb => ?_) <;> have h := hb <;> (try simp only [wf_preprocess] at h) <;> simp -implicitDefEqProofs (disch := omega) only [go_sem, hb] <;> (repeat (with_reducible refine And.intro ?_ ?_; focus first | omega | rfl | assumption | exact ⟨_, rfl, rfl⟩ | (simp; omega) | (simp; done)))
  · exact bool_eq (dec_false (fun e => h (by rw [e]))).symm
  have hl : xs.length = ys.length := by omega
  refine loop_at (ι := Nat) Tryz.checked.mixed rfl [0, 1, 5] (fun y => [.c (.d (.sl (xs.map MFunction.enc))), .c (.d (.sl (ys.map MFunction.enc))), .c (.d (.i .i64 y))]) (fun y => [] :: S)
    (fun i => i ≤ xs.length ∧ ∀ j, j < i → xs[j]? = ys[j]?) (fun y => xs.length - y) 0 rfl rfl ⟨Nat.zero_le _, fun j h => by omega⟩ ?_
  rintro i ⟨p1, p2⟩
  simp -implicitDefEqProofs (disch := omega) only [go_sem]
  with_reducible refine split2 (fun hb => ?_) (fun hb => ?_) <;> have h := hb <;> (try simp only [wf_preprocess] at h) <;> simp -implicitDefEqProofs (disch := omega) only [go_sem, hb] <;> (repeat (with_reducible refine And.intro ?_ ?_; focus first | omega | rfl | assumption | exact ⟨_, rfl, rfl⟩ | (simp; omega) | (simp; done)))
  · have hi : i < xs.length := by omega
    have hi' : i < ys.length := by omega
    have hx : xs[i].sz ≤ szRows (xs.map MFunction.enc) := szRows_mem (List.mem_map_of_mem (List.getElem_mem hi))
    (repeat (with_reducible refine And.intro ?_ ?_; focus first | omega | rfl | assumption | exact ⟨_, rfl, rfl⟩ | (simp; omega) | (simp; done)))
    refine call_w (eqFunction_ok xs[i] ys[i] (by omega)) ?_
    simp -implicitDefEqProofs (disch := omega) only [go_sem]
    with_reducible refine split2 (fun hb => ?_) (fun hb => ?_) <;> have h := hb <;> (try simp only [wf_preprocess] at h) <;> simp -implicitDefEqProofs (disch := omega) only [go_sem, hb] <;> (repeat (with_reducible refine And.intro ?_ ?_; focus first | omega | rfl | assumption | exact ⟨_, rfl, rfl⟩ | (simp; omega) | (simp; done)))
    · exact bool_eq (dec_false (fun e => h (by simp only [e]))).symm
    refine inv_at (i + 1) (by omega) rfl rfl ⟨by omega, fun j hj => ?_⟩
    by_cases e : j = i
    · subst e
      rw [List.getElem?_eq_getElem hi, List.getElem?_eq_getElem hi', h]
    · exact p2 j (by omega)
  · have hi : i = xs.length := by omega
    refine bool_eq (dec_true (List.ext_getElem? fun j => ?_)).symm
    by_cases hj : j < i
    · exact p2 j hj
    · rw [List.getElem?_eq_none (by omega), List.getElem?_eq_none (by omega)]
end Go.Proofs.YtjfhgcnoielpfaaGreat

namespace Go.Proofs.YtjfhgcnoielpfaaGreat
open Go Go.Ab
theorem szPackage_ok (x : MPackage) : ∀ left : Int, 0 ≤ left → left ≤ 1048576 → FitL x.enc → PCall Tryz.prog 142 [x.v, .c (.d (.i .i64 left))] (.c (.d (.i .i64 (sub1 left x.sz)))) := by
  intro left h0 h1 hf S
  simp only [MPackage.enc_eq, List.cons_append, List.nil_append, fitL_cons, fitL_append, fitL_nil_iff, and_true] at hf
  obtain ⟨fName, fDeps, fTraits, fDataTypes, fInstances, fFunctions⟩ := hf
  have hz : x.sz = x.fName.length + ((x.fDeps.length + szRows (x.fDeps.map encS)) + ((x.fTraits.length + szRows (x.fTraits.map MTrait.enc)) + ((x.fDataTypes.length + szRows (x.fDataTypes.map MDataType.enc)) + ((x.fInstances.length + szRows (x.fInstances.map MInstance.enc)) + ((x.fFunctions.length + szRows (x.fFunctions.map MFunction.enc))))))) := by
    simp only [MPackage.sz, MPackage.enc_eq, szRow, szRow_append, D.sz, List.length_map, Nat.add_zero, Nat.zero_add] <;> omega
  refine acall_cw (rs := [.tmp 4]) Tryz.checked.mixed Tryz.func142 Tryz.ntmps142 rfl rfl rfl rfl rfl ?_
  rw [hz]
  have gName := fit_s fName
  simp -implicitDefEqProofs (disch := omega) only [go_sem]
  with_reducible refine split2 (fun hb => ?_) (fun hb => ?_) <;> have h := hb <;> (try simp only [wf_preprocess] at h) <;> simp -implicitDefEqProofs (disch := omega) only [go_sem, hb] <;> (repeat (with_reducible refine And.intro ?_ ?_; focus first | omega | rfl | assumption | exact ⟨_, rfl, rfl⟩ | (simp; omega) | (simp; done)))
  · exact int_eq (sub1_no (by omega)).symm
  refine call_w (szStringS_ok x.fDeps _ (by omega) (by omega) fDeps) ?_
  simp -implicitDefEqProofs (disch := omega) only [go_sem]
  with_reducible refine split2 (fun hb => ?_) (fun hb => ?_) <;> have h := hb <;> (try simp only [wf_preprocess] at h) <;> simp -implicitDefEqProofs (disch := omega) only [go_sem, hb] <;> (repeat (with_reducible refine And.intro ?_ ?_; focus first | omega | rfl | assumption | exact ⟨_, rfl, rfl⟩ | (simp; omega) | (simp; done)))
  · have h' := sub1_neg h
    exact int_eq (sub1_no (by omega)).symm
  have hDeps := sub1_nn h
  simp only [hDeps.1]
  refine call_w (szTraitS_ok x.fTraits _ (by omega) (by omega) fTraits) ?_
  simp -implicitDefEqProofs (disch := omega) only [go_sem]
  with_reducible refine split2 (fun hb => ?_) (fun hb => ?_) <;> have h := hb <;> (try simp only [wf_preprocess] at h) <;> simp -implicitDefEqProofs (disch := omega) only [go_sem, hb] <;> (repeat (with_reducible refine And.intro ?_ ?_; focus first | omega | rfl | assumption | exact ⟨_, rfl, rfl⟩ | (simp; omega) | (simp; done)))
  · have h' := sub1_neg h
    exact int_eq (sub1_no (by omega)).symm
  have hTraits := sub1_nn h
  simp only [hTraits.1]
  refine call_w (szDataTypeS_ok x.fDataTypes _ (by omega) (by omega) fDataTypes) ?_
  simp -implicitDefEqProofs (disch := omega) only [go_sem]
  with_reducible refine split2 (fun hb => ?_) (fun hb => ?_) <;> have h := hb <;> (try simp only [wf_preprocess] at h) <;> simp -implicitDefEqProofs (disch := omega) only [go_sem, hb] <;> (repeat (with_reducible refine And.intro ?_ ?_; focus first | omega | rfl | assumption | exact ⟨_, rfl, rfl⟩ | (simp; omega) | (simp; done)))
  · have h' := sub1_neg h
    exact int_eq (sub1_no (by omega)).symm
  have hDataTypes := sub1_nn h
  simp only [hDataTypes.1]
  refine call_w (szInstanceS_ok x.fInstances _ (by omega) (by omega) fInstances) ?_
  simp -implicitDefEqProofs (disch := omega) only [go_sem]
  with_reducible refine split2 (fun hb => ?_) (fun hb => ?_) <;> have h := hb <;> (try simp only [wf_preprocess] at h) <;> simp -implicitDefEqProofs (disch := omega) only [go_sem, hb] <;> (repeat (with_reducible refine And.intro ?_ ?_; focus first | omega | rfl | assumption | exact ⟨_, rfl, rfl⟩ | (simp; omega) | (simp; done)))
  · have h' := sub1_neg h
    exact int_eq (sub1_no (by omega)).symm
  have hInstances := sub1_nn h
  simp only [hInstances.1]
  refine call_w (szFunctionS_ok x.fFunctions _ (by omega) (by omega) fFunctions) ?_
  simp -implicitDefEqProofs (disch := omega) only [go_sem]
  with_reducible refine split2 (fun hb => ?_) (fun hb => ?_) <;> have h := hb <;> (try simp only [wf_preprocess] at h) <;> simp -implicitDefEqProofs (disch := omega) only [go_sem, hb] <;> (repeat (with_reducible refine And.intro ?_ ?_; focus first | omega | rfl | assumption | exact ⟨_, rfl, rfl⟩ | (simp; omega) | (simp; done)))
  · have h' := sub1_neg h
    exact int_eq (sub1_no (by omega)).symm
  have hFunctions := sub1_nn h
  simp only [hFunctions.1]
  refine int_eq ?_
  rw [sub1_yes (by omega)]
  omega
theorem szPackageS_ok (xs : List MPackage) : ∀ left : Int, 0 ≤ left → left ≤ 1048576 → (D.sl (xs.map MPackage.enc)).Fit → PCall Tryz.prog 80 [.c (.d (.sl (xs.map MPackage.enc))), .c (.d (.i .i64 left))] (.c (.d (.i .i64 (sub1 left (xs.length + szRows (xs.map MPackage.enc)))))) := by
  intro left h0 h1 hf S
  obtain ⟨hf1, hf2⟩ := fit_sl hf
  rw [List.length_map] at hf1
  refine acall_cw (rs := [.tmp 4]) Tryz.checked.mixed Tryz.func80 Tryz.ntmps80 rfl rfl rfl rfl rfl ?_
  simp -implicitDefEqProofs (disch := omega) only [go_sem]
  with_reducible refine split2 (fun hb => ?_) (fun hb => ?_) <;> have h := hb <;> (try simp only [wf_preprocess] at h) <;> simp -implicitDefEqProofs (disch := omega) only [go_sem, hb] <;> (repeat (with_reducible refine And.intro ?_ ?_; focus first | omega | rfl | assumption | exact ⟨_, rfl, rfl⟩ | (simp; omega) | (simp; done)))
  · exact int_eq (sub1_no (by omega)).symm
  refine loop_at (ι := Nat × Int) Tryz.checked.mixed rfl [0, 1, 5] (fun y => [.c (.d (.sl (xs.map MPackage.enc))), .c (.d (.i .i64 y.2)), .c (.d (.i .i64 y.1))]) (fun _ => [] :: S)
    (fun y => y.1 ≤ xs.length ∧ 0 ≤ y.2 ∧ y.2 ≤ 1048576 ∧ sub1 y.2 (szRows ((xs.map MPackage.enc).drop y.1)) = sub1 left (xs.length + szRows (xs.map MPackage.enc))) (fun y => xs.length - y.1) (0, left - xs.length) rfl rfl ⟨by omega, by omega, by omega, ?_⟩ ?_
  · unfold sub1
    rw [List.drop_zero]
    split <;> split <;> omega
  rintro ⟨i, l⟩ ⟨p1, p2, p3, p4⟩
  simp only at p1 p2 p3 p4
  simp -implicitDefEqProofs (disch := omega) only [go_sem]
  with_reducible refine split2 (fun hb => ?_) (fun hb => ?_) <;> have h := hb <;> (try simp only [wf_preprocess] at h) <;> simp -implicitDefEqProofs (disch := omega) only [go_sem, hb] <;> (repeat (with_reducible refine And.intro ?_ ?_; focus first | omega | rfl | assumption | exact ⟨_, rfl, rfl⟩ | (simp; omega) | (simp; done)))
  · have hi : i < xs.length := by omega
    rw [List.drop_eq_getElem_cons (by rw [List.length_map]; exact hi), szRows, List.getElem_map, MPackage.sz_def] at p4
    (repeat (with_reducible refine And.intro ?_ ?_; focus first | omega | rfl | assumption | exact ⟨_, rfl, rfl⟩ | (simp; omega) | (simp; done)))
    refine call_w (szPackage_ok xs[i] _ (by omega) (by omega) (hf2 _ (List.mem_map_of_mem (List.getElem_mem hi)))) ?_
    simp -implicitDefEqProofs (disch := omega) only [go_sem]
    with_reducible refine split2 (fun hb => ?_) (fun hb => ?_) <;> have h := hb <;> (try simp only [wf_preprocess] at h) <;> simp -implicitDefEqProofs (disch := omega) only [go_sem, hb] <;> (repeat (with_reducible refine And.intro ?_ ?_; focus first | omega | rfl | assumption | exact ⟨_, rfl, rfl⟩ | (simp; omega) | (simp; done)))
    · have h' := sub1_neg h
      rw [← p4, sub1_no (by omega)]
    · have h' := sub1_nn h
      refine inv_at (i + 1, sub1 l _) (by simp only; omega) rfl rfl ⟨by simp only; omega, by simp only; omega, by simp only; omega, ?_⟩
      simp only
      rw [← p4, h'.1]
      unfold sub1
      split <;> split <;> omega
  · have hi : i = xs.length := by omega
    rw [hi, List.drop_of_length_le (by simp), szRows, sub1_yes (by omega)] at p4
    rw [← p4]
    refine int_eq ?_
    omega
theorem toPackage_ok (x : MPackage) : x.sz ≤ 1048576 → PCall Tryz.prog 144 [x.v] x.v := by
  intro hsz S
  simp only [MPackage.sz, MPackage.enc_eq, szRow, szRow_append, D.sz, List.length_map] at hsz
  refine acall_cw (rs := [.cell 2 199]) Tryz.checked.mixed Tryz.func144 Tryz.ntmps144 rfl rfl rfl rfl rfl ?_
  simp -implicitDefEqProofs (disch := omega) only [go_sem]
  refine call_w (toStringS_ok x.fDeps (by omega)) ?_
  simp -implicitDefEqProofs (disch := omega) only [go_sem]
  refine call_w (toTraitS_ok x.fTraits (by omega)) ?_
  simp -implicitDefEqProofs (disch := omega) only [go_sem]
  refine call_w (toDataTypeS_ok x.fDataTypes (by omega)) ?_
  simp -implicitDefEqProofs (disch := omega) only [go_sem]
  refine call_w (toInstanceS_ok x.fInstances (by omega)) ?_
  simp -implicitDefEqProofs (disch := omega) only [go_sem]
  refine call_w (toFunctionS_ok x.fFunctions (by omega)) ?_
  simp -implicitDefEqProofs (disch := omega) only [go_sem]
theorem toPackageS_ok (xs : List MPackage) : xs.length + szRows (xs.map MPackage.enc) ≤ 1048576 → PCall Tryz.prog 83 [.c (.d (.sl (xs.map MPackage.enc)))] (.c (.d (.sl (xs.map MPackage.enc)))) := by
  intro hsz S
  refine acall_cw (rs := [.tmp 2]) Tryz.checked.mixed Tryz.func83 Tryz.ntmps83 rfl rfl rfl rfl rfl ?_
  simp -implicitDefEqProofs (disch := omega) only [go_sem]
  (repeat (with_reducible refine And.intro ?_ ?_; focus first | omega | rfl | assumption | exact ⟨_, rfl, rfl⟩ | (simp; omega) | (simp; done)))
  refine loop_at (ι := Nat × List (List D)) Tryz.checked.mixed rfl [0, 3, 4] (fun y => [.c (.d (.sl (xs.map MPackage.enc))), .c (.msl (0, 0)), .c (.d (.i .i64 y.1))]) (fun y => [.mrow 6 y.2] :: S)
    (fun y => y.1 ≤ xs.length ∧ Filled 6 y.1 y.2 (xs.map MPackage.enc)) (fun y => xs.length - y.1) (0, _) rfl rfl ⟨Nat.zero_le _, Filled.start (by simp) rfl⟩ ?_
  rintro ⟨i, R⟩ ⟨p1, p2⟩
  simp only at p1 p2
  simp -implicitDefEqProofs (disch := omega) only [go_sem]
  with_reducible refine split2 (fun hb => ?_) (fun hb => ?_) <;> have h := hb <;> (try simp only [wf_preprocess] at h) <;> simp -implicitDefEqProofs (disch := omega) only [go_sem, hb] <;> (repeat (with_reducible refine And.intro ?_ ?_; focus first | omega | rfl | assumption | exact ⟨_, rfl, rfl⟩ | (simp; omega) | (simp; done)))
  · have hi : i < xs.length := by omega
    have hx : xs[i].sz ≤ szRows (xs.map MPackage.enc) := szRows_mem (List.mem_map_of_mem (List.getElem_mem hi))
    (repeat (with_reducible refine And.intro ?_ ?_; focus first | omega | rfl | assumption | exact ⟨_, rfl, rfl⟩ | (simp; omega) | (simp; done)))
    refine call_w (toPackage_ok xs[i] (by omega)) ?_
    simp -implicitDefEqProofs (disch := omega) only [go_sem]
    have hR := p2.1
    rw [List.length_map] at hR
    (repeat (with_reducible refine And.intro ?_ ?_; focus first | omega | rfl | assumption | exact ⟨_, rfl, rfl⟩ | (simp; omega) | (simp; done)))
    refine inv_at (i + 1, _) (by simp only; omega) rfl rfl ⟨by simp only; omega, p2.step (by simp [hi, MPackage.enc_eq]) rfl⟩
  · have hi : i = xs.length := by omega
    rw [p2.done (by rw [List.length_map]; omega)]
theorem eqPackage_ok (x : MPackage) : ∀ y : MPackage, x.sz ≤ 1048576 → PCall Tryz.prog 147 [x.v, y.v] (.c (.d (.b (dec (x = y))))) := by
  intro y hsz S
  simp only [MPackage.sz, MPackage.enc_eq, szRow, szRow_append, D.sz, List.length_map] at hsz
  refine acall_cw (rs := [.tmp 4]) Tryz.checked.mixed Tryz.func147 Tryz.ntmps147 rfl rfl rfl rfl rfl ?_
  simp -implicitDefEqProofs (disch := omega) only [go_sem]
  with_reducible refine split2 (fun hb => ?_) (fun hb => ?_) <;> have h := hb <;> (try simp only [wf_preprocess] at h) <;> simp -implicitDefEqProofs (disch := omega) only [go_sem, hb] <;> (repeat (with_reducible refine And.intro ?_ ?_; focus first | omega | rfl | assumption | exact ⟨_, rfl, rfl⟩ | (simp; omega) | (simp; done)))
  · exact bool_eq (dec_false (fun e => h (by rw [e]))).symm
  have eName := h
  clear h
  refine call_w (eqStringS_ok x.fDeps _ (by omega)) ?_
  simp -implicitDefEqProofs (disch := omega) only [go_sem]
  with_reducible refine split2 (fun hb => ?_) (fun hb => ?_) <;> have h := hb <;> (try simp only [wf_preprocess] at h) <;> simp -implicitDefEqProofs (disch := omega) only [go_sem, hb] <;> (repeat (with_reducible refine And.intro ?_ ?_; focus first | omega | rfl | assumption | exact ⟨_, rfl, rfl⟩ | (simp; omega) | (simp; done)))
  · exact bool_eq (dec_false (fun e => h (by rw [e]))).symm
  have eDeps := h
  clear h
  refine call_w (eqTraitS_ok x.fTraits _ (by omega)) ?_
  simp -implicitDefEqProofs (disch := omega) only [go_sem]
  with_reducible refine split2 (fun hb => ?_) (fun hb => ?_) <;> have h := hb <;> (try simp only [wf_preprocess] at h) <;> simp -implicitDefEqProofs (disch := omega) only [go_sem, hb] <;> (repeat (with_reducible refine And.intro ?_ ?_; focus first | omega | rfl | assumption | exact ⟨_, rfl, rfl⟩ | (simp; omega) | (simp; done)))
  · exact bool_eq (dec_false (fun e => h (by rw [e]))).symm
  have eTraits := h
  clear h
  refine call_w (eqDataTypeS_ok x.fDataTypes _ (by omega)) ?_
  simp -implicitDefEqProofs (disch := omega) only [go_sem]
  with_reducible refine split2 (fun hb => ?_) (fun hb => ?_) <;> have h := hb <;> (try simp only [wf_preprocess] at h) <;> simp -implicitDefEqProofs (disch := omega) only [go_sem, hb] <;> (repeat (with_reducible refine And.intro ?_ ?_; focus first | omega | rfl | assumption | exact ⟨_, rfl, rfl⟩ | (simp; omega) | (simp; done)))
  · exact bool_eq (dec_false (fun e => h (by rw [e]))).symm
  have eDataTypes := h
  clear h
  refine call_w (eqInstanceS_ok x.fInstances _ (by omega)) ?_
  simp -implicitDefEqProofs (disch := omega) only [go_sem]
  with_reducible refine split2 (fun hb => ?_) (fun hb => ?_) <;> have h := hb <;> (try simp only [wf_preprocess] at h) <;> simp -implicitDefEqProofs (disch := omega) only [go_sem, hb] <;> (repeat (with_reducible refine And.intro ?_ ?_; focus first | omega | rfl | assumption | exact ⟨_, rfl, rfl⟩ | (simp; omega) | (simp; done)))
  · exact bool_eq (dec_false (fun e => h (by rw [e]))).symm
  have eInstances := h
  clear h
  refine call_w (eqFunctionS_ok x.fFunctions _ (by omega)) ?_
  simp -implicitDefEqProofs (disch := omega) only [go_sem]
  with_reducible refine split2 (fun hb => ?_) (fun hb => ?_) <;> have h := hb <;> (try simp only [wf_preprocess] at h) <;> simp -implicitDefEqProofs (disch := omega) only [go_sem, hb] <;> (repeat (with_reducible refine And.intro ?_ ?_; focus first | omega | rfl | assumption | exact ⟨_, rfl, rfl⟩ | (simp; omega) | (simp; done)))
  · exact bool_eq (dec_false (fun e => h (by rw [e]))).symm
  have eFunctions := h
  clear h
  exact bool_eq (dec_true (MPackage.ext' eName eDeps eTraits eDataTypes eInstances eFunctions)).symm
theorem eqPackageS_ok (xs : List MPackage) : ∀ ys : List MPackage, xs.length + szRows (xs.map MPackage.enc) ≤ 1048576 → PCall Tryz.prog 86 [.c (.d (.sl (xs.map MPackage.enc))), .c (.d (.sl (ys.map MPackage.enc)))] (.c (.d (.b (dec (xs = ys))))) := by
  intro ys hsz S
  refine acall_cw (rs := [.tmp 4]) Tryz.checked.mixed Tryz.func86 Tryz.ntmps86 rfl rfl rfl rfl rfl ?_
  simp -implicitDefEqProofs (disch := omega) only [go_sem]
  with_reducible refine split2 (fun hb => ?_) (fun hb => ?_) <;> have h := hb <;> (try simp only [wf_preprocess] at h) <;> simp -implicitDefEqProofs (disch := omega) only [go_sem, hb] <;> (repeat (with_reducible refine And.intro ?_ ?_; focus first | omega | rfl | assumption | exact ⟨_, rfl, rfl⟩ | (simp; omega) | (simp; done)))
  · exact bool_eq (dec_false (fun e => h (by rw [e]))).symm
  have hl : xs.length = ys.length := by omega
  refine loop_at (ι := Nat) Tryz.checked.mixed rfl [0, 1, 5] (fun y => [.c (.d (.sl (xs.map MPackage.enc))), .c (.d (.sl (ys.map MPackage.enc))), .c (.d (.i .i64 y))]) (fun y => [] :: S)
    (fun i => i ≤ xs.length ∧ ∀ j, j < i → xs[j]? = ys[j]?) (fun y => xs.length - y) 0 rfl rfl ⟨Nat.zero_le _, fun j h => by omega⟩ ?_
  rintro i ⟨p1, p2⟩
  simp -implicitDefEqProofs (disch := omega) only [go_sem]
  with_reducible refine split2 (fun hb => ?_) (fun hb => ?_) <;> have h := hb <;> (try simp only [wf_preprocess] at h) <;> simp -implicitDefEqProofs (disch := omega) only [go_sem, hb] <;> (repeat (with_reducible refine And.intro ?_ ?_; focus first | omega | rfl | assumption | exact ⟨_, rfl, rfl⟩ | (simp; omega) | (simp; done)))
  · have hi : i < xs.length := by omega
    have hi' : i < ys.length := by omega
    have hx : xs[i].sz ≤ szRows (xs.map MPackage.enc) := szRows_mem (List.mem_map_of_mem (List.getElem_mem hi))
    (repeat (with_reducible refine And.intro ?_ ?_; focus first | omega | rfl | assumption | exact ⟨_, rfl, rfl⟩ | (simp; omega) | (simp; done)))
    refine call_w (eqPackage_ok xs[i] ys[i] (by omega)) ?_
    simp -implicitDefEqProofs (disch := omega) only [go_sem]
    with_reducible refine split2 (fun hb => ?_) (fun hb => ?_) <;> have h := hb <;> (try simp only [wf_preprocess] at h) <;> simp -implicitDefEqProofs (disch := omega) only [go_sem, hb] <;> (repeat (with_reducible refine And.intro ?_ ?_; focus first | omega | rfl | assumption | exact ⟨_, rfl, rfl⟩ | (simp; omega) | (simp; done)))
    · exact bool_eq (dec_false (fun e => h (by simp only [e]))).symm
    refine inv_at (i + 1) (by omega) rfl rfl ⟨by omega, fun j hj => ?_⟩
    by_cases e : j = i
    · subst e
      rw [List.getElem?_eq_getElem hi, List.getElem?_eq_getElem hi', h]
    · exact p2 j (by omega)
  · have hi : i = xs.length := by omega
    refine bool_eq (dec_true (List.ext_getElem? fun j => ?_)).symm
    by_cases hj : j < i
    · exact p2 j hj
    · rw [List.getElem?_eq_none (by omega), List.getElem?_eq_none (by omega)]
end Go.Proofs.YtjfhgcnoielpfaaGreat

namespace Go.Proofs.YtjfhgcnoielpfaaGreat
open Go Go.Ab
theorem szProgram_ok (x : MProgram) : ∀ left : Int, 0 ≤ left → left ≤ 1048576 → FitL x.enc → PCall Tryz.prog 24 [x.v, .c (.d (.i .i64 left))] (.c (.d (.i .i64 (sub1 left x.sz)))) := by
  intro left h0 h1 hf S
  simp only [MProgram.enc_eq, List.cons_append, List.nil_append, fitL_cons, fitL_append, fitL_nil_iff, and_true] at hf
  have fPackages := hf
  have hz : x.sz = (x.fPackages.length + szRows (x.fPackages.map MPackage.enc)) := by
    simp only [MProgram.sz, MProgram.enc_eq, szRow, szRow_append, D.sz, List.length_map, Nat.add_zero, Nat.zero_add] <;> omega
  refine acall_cw (rs := [.tmp 4]) Tryz.checked.mixed Tryz.func24 Tryz.ntmps24 rfl rfl rfl rfl rfl ?_
  rw [hz]
  simp -implicitDefEqProofs (disch := omega) only [go_sem]
  refine call_w (szPackageS_ok x.fPackages _ (by omega) (by omega) fPackages) ?_
  simp -implicitDefEqProofs (disch := omega) only [go_sem]
  with_reducible refine split2 (fun hb => ?_) (fun hb => ?_) <;> have h := hb <;> (try simp only [wf_preprocess] at h) <;> simp -implicitDefEqProofs (disch := omega) only [go_sem, hb] <;> (repeat (with_reducible refine And.intro ?_ ?_; focus first | omega | rfl | assumption | exact ⟨_, rfl, rfl⟩ | (simp; omega) | (simp; done)))
  have h' := sub1_neg h
  exact int_eq (sub1_no (by omega)).symm
theorem toProgram_ok (x : MProgram) : x.sz ≤ 1048576 → PCall Tryz.prog 26 [x.v] x.v := by
  intro hsz S
  simp only [MProgram.sz, MProgram.enc_eq, szRow, szRow_append, D.sz, List.length_map] at hsz
  refine acall_cw (rs := [.cell 2 79]) Tryz.checked.mixed Tryz.func26 Tryz.ntmps26 rfl rfl rfl rfl rfl ?_
  simp -implicitDefEqProofs (disch := omega) only [go_sem]
  refine call_w (toPackageS_ok x.fPackages (by omega)) ?_
  simp -implicitDefEqProofs (disch := omega) only [go_sem]
theorem eqProgram_ok (x : MProgram) : ∀ y : MProgram, x.sz ≤ 1048576 → PCall Tryz.prog 28 [x.v, y.v] (.c (.d (.b (dec (x = y))))) := by
  intro y hsz S
  simp only [MProgram.sz, MProgram.enc_eq, szRow, szRow_append, D.sz, List.length_map] at hsz
  refine acall_cw (rs := [.tmp 4]) Tryz.checked.mixed Tryz.func28 Tryz.ntmps28 rfl rfl rfl rfl rfl ?_
  simp -implicitDefEqProofs (disch := omega) only [go_sem]
  refine call_w (eqPackageS_ok x.fPackages _ (by omega)) ?_
  simp -implicitDefEqProofs (disch := omega) only [go_sem]
  with_reducible refine split2 (fun hb => ?_) (fun hb => ?_) <;> have h := hb <;> (try simp only [wf_preprocess] at h) <;> simp -implicitDefEqProofs (disch := omega) only [go_sem, hb] <;> (repeat (with_reducible refine And.intro ?_ ?_; focus first | omega | rfl | assumption | exact ⟨_, rfl, rfl⟩ | (simp; omega) | (simp; done)))
  · exact bool_eq (dec_false (fun e => h (by rw [e]))).symm
  have ePackages := h
  clear h
  exact bool_eq (dec_true (MProgram.ext' ePackages)).symm
end Go.Proofs.YtjfhgcnoielpfaaGreat

namespace Go.Ab
theorem MProgram.bounds {x : MProgram} (h : x.sz ≤ 4194304) : x.fPackages.length ≤ 4194304 := by
  simp only [MProgram.sz, MProgram.enc_eq, szRow, szRow_append, D.sz, List.length_map] at h
  omega
def pkgIndex (w : MProgram) (name : List UInt8) : Int := indexP (fun p : MPackage => decide (p.fName = name)) w.fPackages
end Go.Ab
namespace Go.Proofs.YtjfhgcnoielpfaaGreat
open Go Go.Ab
theorem specPkgIndex_ok (w : MProgram) (name : List UInt8) (hsz : w.sz ≤ 4194304) : PCall Tryz.prog 143 [w.v, .c (.d (.s name))] (.c (.d (.i .i64 (pkgIndex w name)))) := fun S => by
  have hb0 := MProgram.bounds hsz
  refine acall_cw (rs := [.tmp 4]) Tryz.checked.mixed Tryz.func143 Tryz.ntmps143 rfl rfl rfl rfl rfl ?_
  simp -implicitDefEqProofs (disch := omega) only [go_sem]
  refine loop_at (ι := Nat) Tryz.checked.mixed rfl [1, 2, 5] (fun i => [.c (.d (.s name)), .c (.ptr (0, 0) 0), .c (.d (.i .i64 i))]) (fun _ => [.box (w.enc.map .d)] :: S)
    (fun i => i ≤ w.fPackages.length ∧ ∀ j, ∀ hj : j < w.fPackages.length, j < i → (fun p : MPackage => decide (p.fName = name)) w.fPackages[j] = false) (fun i => w.fPackages.length - i) 0 rfl ?_ ⟨Nat.zero_le _, fun j _ h => by omega⟩ ?_
  · simp -implicitDefEqProofs (disch := omega) only [go_sem]
  rintro i ⟨p1, p2⟩
  simp -implicitDefEqProofs (disch := omega) only [go_sem]
  with_reducible refine split2 (fun hb => ?_) (fun hb => ?_) <;> have h := hb <;> (try simp only [wf_preprocess] at h) <;> simp -implicitDefEqProofs (disch := omega) only [go_sem, hb] <;> (repeat (with_reducible refine And.intro ?_ ?_; focus first | omega | rfl | assumption | exact ⟨_, rfl, rfl⟩ | (simp; omega) | (simp; done)))
  · have hi : i < w.fPackages.length := by omega
    (repeat (with_reducible refine And.intro ?_ ?_; focus first | omega | rfl | assumption | exact ⟨_, rfl, rfl⟩ | (simp; omega) | (simp; done)))
    with_reducible refine split2 (fun hb => ?_) (fun hb => ?_) <;> have h := hb <;> (try simp only [wf_preprocess] at h) <;> simp -implicitDefEqProofs (disch := omega) only [go_sem, hb] <;> (repeat (with_reducible refine And.intro ?_ ?_; focus first | omega | rfl | assumption | exact ⟨_, rfl, rfl⟩ | (simp; omega) | (simp; done)))
    · unfold pkgIndex
      rw [indexP_here (p := fun p : MPackage => decide (p.fName = name)) hi p2 hb]
    · refine inv_at (i + 1) (by omega) rfl rfl ⟨by omega, fun j hj hji => ?_⟩
      by_cases e : j = i
      · subst e; exact hb
      · exact p2 j hj (by omega)
  · unfold pkgIndex
    rw [indexP_no (p := fun p : MPackage => decide (p.fName = name)) (fun j hj => p2 j hj (by omega))]
theorem pkgIndex1_pure (name : List UInt8) (cs : List C) (rest : List Ab.Obj) (S : Store) (p : MPackage) : FPure Tryz.prog 187 [((0, 1), 0)] ((.box cs :: .box [.d (.s name)] :: rest) :: S) [p.v] (.c (.d (.b (decide (p.fName = name))))) := fun F => by
  refine acall_cw (rs := [.tmp 3]) Tryz.checked.mixed Tryz.func187 Tryz.ntmps187 rfl rfl rfl rfl rfl ?_
  simp -implicitDefEqProofs (disch := omega) only [go_sem]
theorem implPkgIndex_ok (w : MProgram) (name : List UInt8) (hsz : w.sz ≤ 4194304) : PCall Tryz.prog 146 [w.v, .c (.d (.s name))] (.c (.d (.i .i64 (pkgIndex w name)))) := fun S => by
  have hb0 := MProgram.bounds hsz
  refine acall_cw (rs := [.tmp 4]) Tryz.checked.mixed Tryz.func146 Tryz.ntmps146 rfl rfl rfl rfl rfl ?_
  simp -implicitDefEqProofs (disch := omega) only [go_sem]
  refine call_d rfl (indexFuncPackage_ok 187 [((0, 1), 0)] _ w.fPackages (fun p => decide (p.fName = name)) (by omega) fun p hp => pkgIndex1_pure name _ [] S p) ?_
  simp -implicitDefEqProofs (disch := omega) only [go_sem]
  rfl
end Go.Proofs.YtjfhgcnoielpfaaGreat

namespace Go.Ab
def depsOf (w : MProgram) (p : Nat) : List (List UInt8) := match w.fPackages[p]? with
  | some q => q.fDeps
  | none => []
theorem depsOf_at {w : MProgram} {p : Nat} (h : p < w.fPackages.length) : depsOf w p = w.fPackages[p].fDeps := by
  unfold depsOf; rw [List.getElem?_eq_getElem h]
/-- p depends on j directly, and j comes ahead of it. -/
def Edge (w : MProgram) (p j : Nat) : Prop := j < p ∧ ∃ d ∈ depsOf w p, pkgIndex w d = (j : Int)
inductive Vis (w : MProgram) : Nat → Nat → Prop
  | refl (p : Nat) : Vis w p p
  | step {p j k : Nat} (h : Edge w p j) (hk : Vis w j k) : Vis w p k
theorem Vis.le {w : MProgram} {p k : Nat} (h : Vis w p k) : k ≤ p := by
  induction h with
  | refl p => exact Nat.le_refl _
  | step h _ ih => have := h.1; omega
theorem Vis.trans {w : MProgram} {p j k : Nat} (h : Vis w p j) (h' : Vis w j k) : Vis w p k := by
  induction h with
  | refl p => exact h'
  | step e _ ih => exact .step e (ih h')
theorem Vis.snoc {w : MProgram} {p j k : Nat} (h : Vis w p j) (e : Edge w j k) : Vis w p k := h.trans (.step e (.refl k))
theorem Vis.last {w : MProgram} {i k : Nat} (h : Vis w i k) : k = i ∨ ∃ p, Vis w i p ∧ Edge w p k := by
  induction h with
  | refl p => exact .inl rfl
  | @step p j k e hk ih =>
    right
    rcases ih with rfl | ⟨q, h1, h2⟩
    · exact ⟨p, .refl p, e⟩
    · exact ⟨q, .step e h1, h2⟩
theorem Vis.first {w : MProgram} {p k : Nat} (h : k < p) : Vis w p k ↔ ∃ j, Edge w p j ∧ Vis w j k := by
  constructor
  · intro hv
    cases hv with
    | refl => omega
    | step e hk => exact ⟨_, e, hk⟩
  · rintro ⟨j, e, hk⟩
    exact .step e hk
/-- The packages below n that are visible from p, in order. -/
noncomputable def visP (w : MProgram) (p n : Nat) : List Int := ((List.range n).filter fun k => dec (Vis w p k)).map fun k : Nat => (k : Int)
noncomputable def visL (w : MProgram) (p : Nat) : List Int := visP w p (p + 1)
theorem visP_yes {w : MProgram} {p n : Nat} (h : Vis w p n) : visP w p (n + 1) = visP w p n ++ [(n : Int)] := by
  unfold visP
  rw [List.range_succ, List.filter_append, List.map_append]
  simp [dec_true h]
theorem visP_no {w : MProgram} {p n : Nat} (h : ¬ Vis w p n) : visP w p (n + 1) = visP w p n := by
  unfold visP
  rw [List.range_succ, List.filter_append, List.map_append]
  simp [dec_false h]
theorem visP_len (w : MProgram) (p n : Nat) : (visP w p n).length ≤ n := by
  unfold visP
  rw [List.length_map]
  exact Nat.le_trans (List.length_filter_le _ _) (by simp)
theorem mem_visP {w : MProgram} {p n : Nat} {k : Int} : k ∈ visP w p n ↔ ∃ m : Nat, m < n ∧ k = m ∧ Vis w p m := by
  unfold visP
  rw [List.mem_map]
  constructor
  · rintro ⟨m, hm, e⟩
    rw [List.mem_filter, List.mem_range, dec_eq_true] at hm
    exact ⟨m, hm.1, e.symm, hm.2⟩
  · rintro ⟨m, h1, h2, h3⟩
    exact ⟨m, by rw [List.mem_filter, List.mem_range, dec_eq_true]; exact ⟨h1, h3⟩, h2.symm⟩
theorem mem_visL {w : MProgram} {p : Nat} {k : Int} : k ∈ visL w p ↔ ∃ m : Nat, k = m ∧ Vis w p m := by
  unfold visL
  rw [mem_visP]
  constructor
  · rintro ⟨m, _, h2, h3⟩; exact ⟨m, h2, h3⟩
  · rintro ⟨m, h2, h3⟩; exact ⟨m, by have := h3.le; omega, h2, h3⟩
theorem mem_visL_nat {w : MProgram} {p k : Nat} : (k : Int) ∈ visL w p ↔ Vis w p k := by
  rw [mem_visL]
  constructor
  · rintro ⟨m, h2, h3⟩
    have : k = m := by omega
    rw [this]; exact h3
  · intro h; exact ⟨k, rfl, h⟩
/-- Is package k visible from package i? -/
def isVis (w : MProgram) (i k : Int) : Prop := 0 ≤ i ∧ i < w.fPackages.length ∧ k ∈ visL w i.toNat
/-- What has been met when the packages above n have been read. -/
def Met (w : MProgram) (i n m : Nat) : Prop := m = i ∨ ∃ p, n ≤ p ∧ Vis w i p ∧ Edge w p m
theorem met_done {w : MProgram} {i m : Nat} (h : m ≤ i) : Met w i (m + 1) m ↔ Vis w i m := by
  constructor
  · rintro (rfl | ⟨p, _, h1, h2⟩)
    · exact .refl _
    · exact h1.snoc h2
  · intro h
    rcases h.last with h1 | ⟨p, h1, h2⟩
    · exact .inl h1
    · exact .inr ⟨p, by have := h2.1; omega, h1, h2⟩
theorem met_low {w : MProgram} {i n m : Nat} (h : n ≤ m) (hm : m ≤ i) : Met w i n m ↔ Vis w i m := by
  constructor
  · rintro (rfl | ⟨p, _, h1, h2⟩)
    · exact .refl _
    · exact h1.snoc h2
  · intro h'
    rcases h'.last with h1 | ⟨p, h1, h2⟩
    · exact .inl h1
    · exact .inr ⟨p, by have := h2.1; omega, h1, h2⟩
theorem met_skip {w : MProgram} {i n m : Nat} (h : ¬ Vis w i n) : Met w i n m ↔ Met w i (n + 1) m := by
  constructor
  · rintro (h1 | ⟨p, h0, h1, h2⟩)
    · exact .inl h1
    · by_cases e : p = n
      · subst e; exact absurd h1 h
      · exact .inr ⟨p, by omega, h1, h2⟩
  · rintro (h1 | ⟨p, h0, h1, h2⟩)
    · exact .inl h1
    · exact .inr ⟨p, by omega, h1, h2⟩
theorem met_read {w : MProgram} {i n m : Nat} (h : Vis w i n) : Met w i n m ↔ Met w i (n + 1) m ∨ Edge w n m := by
  constructor
  · rintro (h1 | ⟨p, h0, h1, h2⟩)
    · exact .inl (.inl h1)
    · by_cases e : p = n
      · subst e; exact .inr h2
      · exact .inl (.inr ⟨p, by omega, h1, h2⟩)
  · rintro ((h1 | ⟨p, h0, h1, h2⟩) | h1)
    · exact .inl h1
    · exact .inr ⟨p, by omega, h1, h2⟩
    · exact .inr ⟨n, Nat.le_refl _, h, h1⟩
/-- A list of bools, from a property. -/
noncomputable def boolsOf (P : Nat → Prop) (n : Nat) : List (List D) := (List.range n).map fun m => [D.b (dec (P m))]
theorem boolsOf_len (P : Nat → Prop) (n : Nat) : (boolsOf P n).length = n := by simp [boolsOf]
theorem boolsOf_get {P : Nat → Prop} {n i : Nat} (h : i < n) : (boolsOf P n)[i]? = some [D.b (dec (P i))] := by
  simp [boolsOf, h]
theorem boolsOf_set {P Q : Nat → Prop} {n j : Nat} (h : ∀ m, m < n → (Q m ↔ P m ∨ m = j)) (hj : j < n) : (boolsOf P n).set j [D.b true] = boolsOf Q n := by
  apply List.ext_getElem?
  intro m
  rw [List.getElem?_set]
  by_cases hm : m < n
  · by_cases e : j = m
    · subst e
      rw [if_pos rfl, if_pos (by rw [boolsOf_len]; exact hj), boolsOf_get hj, dec_true ((h j hj).2 (.inr rfl))]
    · rw [if_neg e, boolsOf_get hm, boolsOf_get hm]
      rw [dec_congr ((h m hm).trans ⟨fun x => x.elim id (fun y => absurd y.symm e), .inl⟩)]
  · have h1 : (boolsOf P n)[m]? = none := List.getElem?_eq_none (by rw [boolsOf_len]; omega)
    have h2 : (boolsOf Q n)[m]? = none := List.getElem?_eq_none (by rw [boolsOf_len]; omega)
    rw [h1, h2]
    split
    · omega
    · rfl
theorem boolsOf_congr {P Q : Nat → Prop} {n : Nat} (h : ∀ m, m < n → (P m ↔ Q m)) : boolsOf P n = boolsOf Q n := by
  unfold boolsOf
  exact List.map_congr_left fun m hm => by rw [dec_congr (h m (List.mem_range.1 hm))]
end Go.Ab

namespace Go.Ab
/-- The first declaration of a kind for which p stands, and the place of its package. -/
def findP {α : Type} (f : MPackage → List α) (p : α → Bool) : List MPackage → Nat → Option (α × Nat)
  | [], _ => none
  | q :: qs, i => match (f q).find? p with
    | some t => some (t, i)
    | none => findP f p qs (i + 1)
theorem findP_drop {α : Type} {f : MPackage → List α} {p : α → Bool} {ps : List MPackage} {i : Nat} (hi : i < ps.length) : findP f p (ps.drop i) i = match (f ps[i]).find? p with
    | some t => some (t, i)
    | none => findP f p (ps.drop (i + 1)) (i + 1) := by
  rw [List.drop_eq_getElem_cons hi, findP]
theorem find_drop {α : Type} {p : α → Bool} {xs : List α} {k : Nat} (hk : k < xs.length) : (xs.drop k).find? p = if p xs[k] then some xs[k] else (xs.drop (k + 1)).find? p := by
  rw [List.drop_eq_getElem_cons hk, List.find?_cons]
  cases p xs[k] <;> rfl
def idxO {α : Type} : Option (α × Nat) → Int
  | some (_, i) => (i : Int)
  | none => 0
theorem findP_mem {α : Type} {f : MPackage → List α} {p : α → Bool} : ∀ {ps : List MPackage} {i : Nat} {t : α} {j : Nat}, findP f p ps i = some (t, j) → ∃ q ∈ ps, t ∈ f q
  | [], i, t, j, h => by cases h
  | q :: qs, i, t, j, h => by
    rw [findP] at h
    cases hf : (f q).find? p with
    | some u =>
      rw [hf] at h
      injection h with h
      injection h with h1 h2
      subst h1
      exact ⟨q, by simp, List.mem_of_find?_eq_some hf⟩
    | none =>
      rw [hf] at h
      obtain ⟨q', h1, h2⟩ := findP_mem h
      exact ⟨q', by simp [h1], h2⟩
def traitAt (w : MProgram) (name : List UInt8) : Option (MTrait × Nat) := findP MPackage.fTraits (fun t => decide (t.fName = name)) w.fPackages 0
def trC : Option (MTrait × Nat) → List C
  | some (t, _) => t.enc.map .d
  | none => [.d (.s []), .fsl [], .d (.b false), .d (.b false), .fsl []]
theorem MProgram.lenTr {w : MProgram} {i : Nat} (hi : i < w.fPackages.length) (h : w.sz ≤ 4194304) : w.fPackages[i].fTraits.length ≤ 4194304 := by
  have hx : w.fPackages[i].sz ≤ szRows (w.fPackages.map MPackage.enc) := szRows_mem (List.mem_map_of_mem (List.getElem_mem hi))
  simp only [MProgram.sz, MProgram.enc_eq, szRow, szRow_append, D.sz, List.length_map] at h
  simp only [MPackage.sz, MPackage.enc_eq, szRow, szRow_append, D.sz, List.length_map] at hx
  omega
def dataAt (w : MProgram) (name : List UInt8) : Option (MDataType × Nat) := findP MPackage.fDataTypes (fun t => decide (t.fName = name)) w.fPackages 0
def dtC : Option (MDataType × Nat) → List C
  | some (t, _) => t.enc.map .d
  | none => [.d (.s []), .fsl [], .fsl []]
theorem MProgram.lenDt {w : MProgram} {i : Nat} (hi : i < w.fPackages.length) (h : w.sz ≤ 4194304) : w.fPackages[i].fDataTypes.length ≤ 4194304 := by
  have hx : w.fPackages[i].sz ≤ szRows (w.fPackages.map MPackage.enc) := szRows_mem (List.mem_map_of_mem (List.getElem_mem hi))
  simp only [MProgram.sz, MProgram.enc_eq, szRow, szRow_append, D.sz, List.length_map] at h
  simp only [MPackage.sz, MPackage.enc_eq, szRow, szRow_append, D.sz, List.length_map] at hx
  omega
end Go.Ab
namespace Go.Proofs.YtjfhgcnoielpfaaGreat
open Go Go.Ab
theorem implTrAt_ok (w : MProgram) (name : List UInt8) (hsz : w.sz ≤ 4194304) : PCall Tryz.prog 197 [w.v, .c (.d (.s name))] (.tup [(true, trC (traitAt w name)), (false, [.d (.i .i64 (idxO (traitAt w name)))]), (false, [.d (.b (traitAt w name).isSome)])]) := fun S => by
  have hb0 : w.fPackages.length ≤ 4194304 := by
    simp only [MProgram.sz, MProgram.enc_eq, szRow, szRow_append, D.sz, List.length_map] at hsz
    omega
  refine acall_cw (rs := [.cell 4 57, .tmp 5, .tmp 6]) Tryz.checked.mixed Tryz.func197 Tryz.ntmps197 rfl rfl rfl rfl rfl ?_
  simp -implicitDefEqProofs (disch := omega) only [go_sem]
  refine loop_at (ι := Nat) Tryz.checked.mixed rfl [1, 4, 12, 13, 14] (fun i => [.c (.d (.s name)), .c (.ptr (0, 1) 0), .c (.d (.sl (w.fPackages.map MPackage.enc))), .c (.d (.i .i64 w.fPackages.length)), .c (.d (.i .i64 i))]) (fun _ => [.box (w.enc.map .d), .box [.d (.s []), .fsl [], .d (.b false), .d (.b false), .fsl []]] :: S)
    (fun i => i ≤ w.fPackages.length ∧ findP MPackage.fTraits (fun t => decide (t.fName = name)) (w.fPackages.drop i) i = traitAt w name) (fun i => w.fPackages.length - i) 0 rfl ?_ ⟨Nat.zero_le _, rfl⟩ ?_
  · simp -implicitDefEqProofs (disch := omega) only [go_sem]
  rintro i ⟨p1, p2⟩
  simp -implicitDefEqProofs (disch := omega) only [go_sem]
  with_reducible refine split2 (fun hb => ?_) (fun hb => ?_) <;> have h := hb <;> (try simp only [wf_preprocess] at h) <;> simp -implicitDefEqProofs (disch := omega) only [go_sem, hb] <;> (repeat (with_reducible refine And.intro ?_ ?_; focus first | omega | rfl | assumption | exact ⟨_, rfl, rfl⟩ | (simp; omega) | (simp; done)))
  · have hi : i < w.fPackages.length := by omega
    have hln := MProgram.lenTr hi hsz
    rw [findP_drop hi] at p2
    (repeat (with_reducible refine And.intro ?_ ?_; focus first | omega | rfl | assumption | exact ⟨_, rfl, rfl⟩ | (simp; omega) | (simp; done)))
    refine loop_at (ι := Nat) Tryz.checked.mixed rfl [1, 4, 7, 12, 13, 14, 20, 21, 22] (fun k => [.c (.d (.s name)), .c (.ptr (0, 1) 0), .c (.d (.i .i64 i)), .c (.d (.sl (w.fPackages.map MPackage.enc))), .c (.d (.i .i64 w.fPackages.length)), .c (.d (.i .i64 i)), .c (.d (.sl (w.fPackages[i].fTraits.map MTrait.enc))), .c (.d (.i .i64 w.fPackages[i].fTraits.length)), .c (.d (.i .i64 k))])
      (fun _ => [.box (w.enc.map .d), .box [.d (.s []), .fsl [], .d (.b false), .d (.b false), .fsl []], .box (w.fPackages[i].enc.map .d)] :: S)
      (fun k => k ≤ w.fPackages[i].fTraits.length ∧ (w.fPackages[i].fTraits.drop k).find? (fun t => decide (t.fName = name)) = w.fPackages[i].fTraits.find? (fun t => decide (t.fName = name))) (fun k => w.fPackages[i].fTraits.length - k) 0 rfl ?_ ⟨Nat.zero_le _, rfl⟩ ?_
    · simp -implicitDefEqProofs (disch := omega) only [go_sem]
    rintro k ⟨q1, q2⟩
    simp -implicitDefEqProofs (disch := omega) only [go_sem]
    with_reducible refine split2 (fun hb => ?_) (fun hb => ?_) <;> have h := hb <;> (try simp only [wf_preprocess] at h) <;> simp -implicitDefEqProofs (disch := omega) only [go_sem, hb] <;> (repeat (with_reducible refine And.intro ?_ ?_; focus first | omega | rfl | assumption | exact ⟨_, rfl, rfl⟩ | (simp; omega) | (simp; done)))
    · have hk : k < w.fPackages[i].fTraits.length := by omega
      rw [find_drop hk] at q2
      (repeat (with_reducible refine And.intro ?_ ?_; focus first | omega | rfl | assumption | exact ⟨_, rfl, rfl⟩ | (simp; omega) | (simp; done)))
      with_reducible refine split2 (fun hb => ?_) (fun hb => ?_) <;> have h := hb <;> (try simp only [wf_preprocess] at h) <;> simp -implicitDefEqProofs (disch := omega) only [go_sem, hb] <;> (repeat (with_reducible refine And.intro ?_ ?_; focus first | omega | rfl | assumption | exact ⟨_, rfl, rfl⟩ | (simp; omega) | (simp; done)))
      · rw [if_pos (by simpa using h)] at q2
        rw [← q2] at p2
        rw [← p2]
        first | rfl | (simp only [trC, idxO]; simp -implicitDefEqProofs (disch := omega) only [go_sem]; done)
      · rw [if_neg (by simpa using h)] at q2
        exact inv_drop 3 (by decide) (k + 1) (by omega) rfl rfl rfl rfl ⟨by omega, q2⟩
    · rw [List.drop_of_length_le (by omega), List.find?_nil] at q2
      rw [← q2] at p2
      exact inv_drop 2 (by decide) (i + 1) (by omega) rfl rfl rfl rfl ⟨by omega, p2⟩
  · rw [List.drop_of_length_le (by omega), findP] at p2
    rw [← p2]
    first | rfl | (simp only [trC, idxO]; simp -implicitDefEqProofs (disch := omega) only [go_sem]; done)
theorem specTrAt_ok (w : MProgram) (name : List UInt8) (hsz : w.sz ≤ 4194304) : PCall Tryz.prog 153 [w.v, .c (.d (.s name))] (.tup [(true, trC (traitAt w name)), (false, [.d (.i .i64 (idxO (traitAt w name)))]), (false, [.d (.b (traitAt w name).isSome)])]) := fun S => by
  have hb0 : w.fPackages.length ≤ 4194304 := by
    simp only [MProgram.sz, MProgram.enc_eq, szRow, szRow_append, D.sz, List.length_map] at hsz
    omega
  refine acall_cw (rs := [.cell 4 57, .tmp 5, .tmp 6]) Tryz.checked.mixed Tryz.func153 Tryz.ntmps153 rfl rfl rfl rfl rfl ?_
  simp -implicitDefEqProofs (disch := omega) only [go_sem]
  refine loop_at (ι := Nat) Tryz.checked.mixed rfl [1, 2, 4, 7] (fun i => [.c (.d (.s name)), .c (.ptr (0, 0) 0), .c (.ptr (0, 1) 0), .c (.d (.i .i64 i))]) (fun _ => [.box (w.enc.map .d), .box [.d (.s []), .fsl [], .d (.b false), .d (.b false), .fsl []]] :: S)
    (fun i => i ≤ w.fPackages.length ∧ findP MPackage.fTraits (fun t => decide (t.fName = name)) (w.fPackages.drop i) i = traitAt w name) (fun i => w.fPackages.length - i) 0 rfl ?_ ⟨Nat.zero_le _, rfl⟩ ?_
  · simp -implicitDefEqProofs (disch := omega) only [go_sem]
  rintro i ⟨p1, p2⟩
  simp -implicitDefEqProofs (disch := omega) only [go_sem]
  with_reducible refine split2 (fun hb => ?_) (fun hb => ?_) <;> have h := hb <;> (try simp only [wf_preprocess] at h) <;> simp -implicitDefEqProofs (disch := omega) only [go_sem, hb] <;> (repeat (with_reducible refine And.intro ?_ ?_; focus first | omega | rfl | assumption | exact ⟨_, rfl, rfl⟩ | (simp; omega) | (simp; done)))
  · have hi : i < w.fPackages.length := by omega
    have hln := MProgram.lenTr hi hsz
    rw [findP_drop hi] at p2
    (repeat (with_reducible refine And.intro ?_ ?_; focus first | omega | rfl | assumption | exact ⟨_, rfl, rfl⟩ | (simp; omega) | (simp; done)))
    refine loop_at (ι := Nat) Tryz.checked.mixed rfl [1, 2, 4, 7, 8] (fun k => [.c (.d (.s name)), .c (.ptr (0, 0) 0), .c (.ptr (0, 1) 0), .c (.d (.i .i64 i)), .c (.d (.i .i64 k))])
      (fun _ => [.box (w.enc.map .d), .box [.d (.s []), .fsl [], .d (.b false), .d (.b false), .fsl []]] :: S)
      (fun k => k ≤ w.fPackages[i].fTraits.length ∧ (w.fPackages[i].fTraits.drop k).find? (fun t => decide (t.fName = name)) = w.fPackages[i].fTraits.find? (fun t => decide (t.fName = name))) (fun k => w.fPackages[i].fTraits.length - k) 0 rfl ?_ ⟨Nat.zero_le _, rfl⟩ ?_
    · simp -implicitDefEqProofs (disch := omega) only [go_sem]
    rintro k ⟨q1, q2⟩
    simp -implicitDefEqProofs (disch := omega) only [go_sem]
    (repeat (with_reducible refine And.intro ?_ ?_; focus first | omega | rfl | assumption | exact ⟨_, rfl, rfl⟩ | (simp; omega) | (simp; done)))
    with_reducible refine split2 (fun hb => ?_) (fun hb => ?_) <;> have h := hb <;> (try simp only [wf_preprocess] at h) <;> simp -implicitDefEqProofs (disch := omega) only [go_sem, hb] <;> (repeat (with_reducible refine And.intro ?_ ?_; focus first | omega | rfl | assumption | exact ⟨_, rfl, rfl⟩ | (simp; omega) | (simp; done)))
    · have hk : k < w.fPackages[i].fTraits.length := by omega
      rw [find_drop hk] at q2
      (repeat (with_reducible refine And.intro ?_ ?_; focus first | omega | rfl | assumption | exact ⟨_, rfl, rfl⟩ | (simp; omega) | (simp; done)))
      with_reducible refine split2 (fun hb => ?_) (fun hb => ?_) <;> have h := hb <;> (try simp only [wf_preprocess] at h) <;> simp -implicitDefEqProofs (disch := omega) only [go_sem, hb] <;> (repeat (with_reducible refine And.intro ?_ ?_; focus first | omega | rfl | assumption | exact ⟨_, rfl, rfl⟩ | (simp; omega) | (simp; done)))
      · rw [if_pos (by simpa using h)] at q2
        rw [← q2] at p2
        (repeat (with_reducible refine And.intro ?_ ?_; focus first | omega | rfl | assumption | exact ⟨_, rfl, rfl⟩ | (simp; omega) | (simp; done)))
        rw [← p2]
        first | rfl | (simp only [trC, idxO]; simp -implicitDefEqProofs (disch := omega) only [go_sem]; done)
      · rw [if_neg (by simpa using h)] at q2
        exact inv_at (k + 1) (by omega) rfl rfl ⟨by omega, q2⟩
    · rw [List.drop_of_length_le (by omega), List.find?_nil] at q2
      rw [← q2] at p2
      exact inv_at (i + 1) (by omega) rfl rfl ⟨by omega, p2⟩
  · rw [List.drop_of_length_le (by omega), findP] at p2
    rw [← p2]
    first | rfl | (simp only [trC, idxO]; simp -implicitDefEqProofs (disch := omega) only [go_sem]; done)
theorem implDtAt_ok (w : MProgram) (name : List UInt8) (hsz : w.sz ≤ 4194304) : PCall Tryz.prog 220 [w.v, .c (.d (.s name))] (.tup [(true, dtC (dataAt w name)), (false, [.d (.i .i64 (idxO (dataAt w name)))]), (false, [.d (.b (dataAt w name).isSome)])]) := fun S => by
  have hb0 : w.fPackages.length ≤ 4194304 := by
    simp only [MProgram.sz, MProgram.enc_eq, szRow, szRow_append, D.sz, List.length_map] at hsz
    omega
  refine acall_cw (rs := [.cell 4 208, .tmp 5, .tmp 6]) Tryz.checked.mixed Tryz.func220 Tryz.ntmps220 rfl rfl rfl rfl rfl ?_
  simp -implicitDefEqProofs (disch := omega) only [go_sem]
  refine loop_at (ι := Nat) Tryz.checked.mixed rfl [1, 4, 12, 13, 14] (fun i => [.c (.d (.s name)), .c (.ptr (0, 1) 0), .c (.d (.sl (w.fPackages.map MPackage.enc))), .c (.d (.i .i64 w.fPackages.length)), .c (.d (.i .i64 i))]) (fun _ => [.box (w.enc.map .d), .box [.d (.s []), .fsl [], .fsl []]] :: S)
    (fun i => i ≤ w.fPackages.length ∧ findP MPackage.fDataTypes (fun t => decide (t.fName = name)) (w.fPackages.drop i) i = dataAt w name) (fun i => w.fPackages.length - i) 0 rfl ?_ ⟨Nat.zero_le _, rfl⟩ ?_
  · simp -implicitDefEqProofs (disch := omega) only [go_sem]
  rintro i ⟨p1, p2⟩
  simp -implicitDefEqProofs (disch := omega) only [go_sem]
  with_reducible refine split2 (fun hb => ?_) (fun hb => ?_) <;> have h := hb <;> (try simp only [wf_preprocess] at h) <;> simp -implicitDefEqProofs (disch := omega) only [go_sem, hb] <;> (repeat (with_reducible refine And.intro ?_ ?_; focus first | omega | rfl | assumption | exact ⟨_, rfl, rfl⟩ | (simp; omega) | (simp; done)))
  · have hi : i < w.fPackages.length := by omega
    have hln := MProgram.lenDt hi hsz
    rw [findP_drop hi] at p2
    (repeat (with_reducible refine And.intro ?_ ?_; focus first | omega | rfl | assumption | exact ⟨_, rfl, rfl⟩ | (simp; omega) | (simp; done)))
    refine loop_at (ι := Nat) Tryz.checked.mixed rfl [1, 4, 7, 12, 13, 14, 20, 21, 22] (fun k => [.c (.d (.s name)), .c (.ptr (0, 1) 0), .c (.d (.i .i64 i)), .c (.d (.sl (w.fPackages.map MPackage.enc))), .c (.d (.i .i64 w.fPackages.length)), .c (.d (.i .i64 i)), .c (.d (.sl (w.fPackages[i].fDataTypes.map MDataType.enc))), .c (.d (.i .i64 w.fPackages[i].fDataTypes.length)), .c (.d (.i .i64 k))])
      (fun _ => [.box (w.enc.map .d), .box [.d (.s []), .fsl [], .fsl []], .box (w.fPackages[i].enc.map .d)] :: S)
      (fun k => k ≤ w.fPackages[i].fDataTypes.length ∧ (w.fPackages[i].fDataTypes.drop k).find? (fun t => decide (t.fName = name)) = w.fPackages[i].fDataTypes.find? (fun t => decide (t.fName = name))) (fun k => w.fPackages[i].fDataTypes.length - k) 0 rfl ?_ ⟨Nat.zero_le _, rfl⟩ ?_
    · simp -implicitDefEqProofs (disch := omega) only [go_sem]
    rintro k ⟨q1, q2⟩
    simp -implicitDefEqProofs (disch := omega) only [go_sem]
    with_reducible refine split2 (fun hb => ?_) (fun hb => ?_) <;> have h := hb <;> (try simp only [wf_preprocess] at h) <;> simp -implicitDefEqProofs (disch := omega) only [go_sem, hb] <;> (repeat (with_reducible refine And.intro ?_ ?_; focus first | omega | rfl | assumption | exact ⟨_, rfl, rfl⟩ | (simp; omega) | (simp; done)))
    · have hk : k < w.fPackages[i].fDataTypes.length := by omega
      rw [find_drop hk] at q2
      (repeat (with_reducible refine And.intro ?_ ?_; focus first | omega | rfl | assumption | exact ⟨_, rfl, rfl⟩ | (simp; omega) | (simp; done)))
      with_reducible refine split2 (fun hb => ?_) (fun hb => ?_) <;> have h := hb <;> (try simp only [wf_preprocess] at h) <;> simp -implicitDefEqProofs (disch := omega) only [go_sem, hb] <;> (repeat (with_reducible refine And.intro ?_ ?_; focus first | omega | rfl | assumption | exact ⟨_, rfl, rfl⟩ | (simp; omega) | (simp; done)))
      · rw [if_pos (by simpa using h)] at q2
        rw [← q2] at p2
        rw [← p2]
        first | rfl | (simp only [dtC, idxO]; simp -implicitDefEqProofs (disch := omega) only [go_sem]; done)
      · rw [if_neg (by simpa using h)] at q2
        exact inv_drop 3 (by decide) (k + 1) (by omega) rfl rfl rfl rfl ⟨by omega, q2⟩
    · rw [List.drop_of_length_le (by omega), List.find?_nil] at q2
      rw [← q2] at p2
      exact inv_drop 2 (by decide) (i + 1) (by omega) rfl rfl rfl rfl ⟨by omega, p2⟩
  · rw [List.drop_of_length_le (by omega), findP] at p2
    rw [← p2]
    first | rfl | (simp only [dtC, idxO]; simp -implicitDefEqProofs (disch := omega) only [go_sem]; done)
theorem specDtAt_ok (w : MProgram) (name : List UInt8) (hsz : w.sz ≤ 4194304) : PCall Tryz.prog 193 [w.v, .c (.d (.s name))] (.tup [(true, dtC (dataAt w name)), (false, [.d (.i .i64 (idxO (dataAt w name)))]), (false, [.d (.b (dataAt w name).isSome)])]) := fun S => by
  have hb0 : w.fPackages.length ≤ 4194304 := by
    simp only [MProgram.sz, MProgram.enc_eq, szRow, szRow_append, D.sz, List.length_map] at hsz
    omega
  refine acall_cw (rs := [.cell 4 208, .tmp 5, .tmp 6]) Tryz.checked.mixed Tryz.func193 Tryz.ntmps193 rfl rfl rfl rfl rfl ?_
  simp -implicitDefEqProofs (disch := omega) only [go_sem]
  refine loop_at (ι := Nat) Tryz.checked.mixed rfl [1, 2, 4, 7] (fun i => [.c (.d (.s name)), .c (.ptr (0, 0) 0), .c (.ptr (0, 1) 0), .c (.d (.i .i64 i))]) (fun _ => [.box (w.enc.map .d), .box [.d (.s []), .fsl [], .fsl []]] :: S)
    (fun i => i ≤ w.fPackages.length ∧ findP MPackage.fDataTypes (fun t => decide (t.fName = name)) (w.fPackages.drop i) i = dataAt w name) (fun i => w.fPackages.length - i) 0 rfl ?_ ⟨Nat.zero_le _, rfl⟩ ?_
  · simp -implicitDefEqProofs (disch := omega) only [go_sem]
  rintro i ⟨p1, p2⟩
  simp -implicitDefEqProofs (disch := omega) only [go_sem]
  with_reducible refine split2 (fun hb => ?_) (fun hb => ?_) <;> have h := hb <;> (try simp only [wf_preprocess] at h) <;> simp -implicitDefEqProofs (disch := omega) only [go_sem, hb] <;> (repeat (with_reducible refine And.intro ?_ ?_; focus first | omega | rfl | assumption | exact ⟨_, rfl, rfl⟩ | (simp; omega) | (simp; done)))
  · have hi : i < w.fPackages.length := by omega
    have hln := MProgram.lenDt hi hsz
    rw [findP_drop hi] at p2
    (repeat (with_reducible refine And.intro ?_ ?_; focus first | omega | rfl | assumption | exact ⟨_, rfl, rfl⟩ | (simp; omega) | (simp; done)))
    refine loop_at (ι := Nat) Tryz.checked.mixed rfl [1, 2, 4, 7, 8] (fun k => [.c (.d (.s name)), .c (.ptr (0, 0) 0), .c (.ptr (0, 1) 0), .c (.d (.i .i64 i)), .c (.d (.i .i64 k))])
      (fun _ => [.box (w.enc.map .d), .box [.d (.s []), .fsl [], .fsl []]] :: S)
      (fun k => k ≤ w.fPackages[i].fDataTypes.length ∧ (w.fPackages[i].fDataTypes.drop k).find? (fun t => decide (t.fName = name)) = w.fPackages[i].fDataTypes.find? (fun t => decide (t.fName = name))) (fun k => w.fPackages[i].fDataTypes.length - k) 0 rfl ?_ ⟨Nat.zero_le _, rfl⟩ ?_
    · simp -implicitDefEqProofs (disch := omega) only [go_sem]
    rintro k ⟨q1, q2⟩
    simp -implicitDefEqProofs (disch := omega) only [go_sem]
    (repeat (with_reducible refine And.intro ?_ ?_; focus first | omega | rfl | assumption | exact ⟨_, rfl, rfl⟩ | (simp; omega) | (simp; done)))
    with_reducible refine split2 (fun hb => ?_) (fun hb => ?_) <;> have h := hb <;> (try simp only [wf_preprocess] at h) <;> simp -implicitDefEqProofs (disch := omega) only [go_sem, hb] <;> (repeat (with_reducible refine And.intro ?_ ?_; focus first | omega | rfl | assumption | exact ⟨_, rfl, rfl⟩ | (simp; omega) | (simp; done)))
    · have hk : k < w.fPackages[i].fDataTypes.length := by omega
      rw [find_drop hk] at q2
      (repeat (with_reducible refine And.intro ?_ ?_; focus first | omega | rfl | assumption | exact ⟨_, rfl, rfl⟩ | (simp; omega) | (simp; done)))
      with_reducible refine split2 (fun hb => ?_) (fun hb => ?_) <;> have h := hb <;> (try simp only [wf_preprocess] at h) <;> simp -implicitDefEqProofs (disch := omega) only [go_sem, hb] <;> (repeat (with_reducible refine And.intro ?_ ?_; focus first | omega | rfl | assumption | exact ⟨_, rfl, rfl⟩ | (simp; omega) | (simp; done)))
      · rw [if_pos (by simpa using h)] at q2
        rw [← q2] at p2
        (repeat (with_reducible refine And.intro ?_ ?_; focus first | omega | rfl | assumption | exact ⟨_, rfl, rfl⟩ | (simp; omega) | (simp; done)))
        rw [← p2]
        first | rfl | (simp only [dtC, idxO]; simp -implicitDefEqProofs (disch := omega) only [go_sem]; done)
      · rw [if_neg (by simpa using h)] at q2
        exact inv_at (k + 1) (by omega) rfl rfl ⟨by omega, q2⟩
    · rw [List.drop_of_length_le (by omega), List.find?_nil] at q2
      rw [← q2] at p2
      exact inv_at (i + 1) (by omega) rfl rfl ⟨by omega, p2⟩
  · rw [List.drop_of_length_le (by omega), findP] at p2
    rw [← p2]
    first | rfl | (simp only [dtC, idxO]; simp -implicitDefEqProofs (disch := omega) only [go_sem]; done)
end Go.Proofs.YtjfhgcnoielpfaaGreat

namespace Go.Ab
def mgK (n : Nat) : Key → Key
  | (0, j) => (0, n + j)
  | (l + 1, j) => (l, j)
def C.mg (n : Nat) : C → C
  | .d x => .d x
  | .any => .any
  | .tsl k es => .tsl (mgK n k) es
  | .fsl es => .fsl es
  | .ptr k off => .ptr (mgK n k) off
  | .rptr cs => .rptr cs
  | .eptr k i off => .eptr (mgK n k) i off
  | .msl k => .msl (mgK n k)
  | .fn f caps => .fn f (caps.map fun x => (mgK n x.1, x.2))
  | .mp k => .mp (mgK n k)
def V.mg (n : Nat) : V → V
  | .c x => .c (x.mg n)
  | .agg cs => .agg (cs.map (C.mg n))
  | .tup xs => .tup (xs.map fun y => (y.1, y.2.map (C.mg n)))
  | .any => .any
def Obj.mg (n : Nat) : Obj → Obj
  | .box cs => .box (cs.map (C.mg n))
  | o => o
section
variable {P : Program} {w : World} {σ : Nat → Nat} {own own0 : List Obj} {Ω : Store} {bo bo0 : List Value} {bΩ : Hs}
end
/-- What is asked where a function ends whose objects live on. -/
def escQ (P : Program) (rs : List ResultVar) (post : V → Store → Prop) (e : Exit) (s : St) : Prop :=
  match e with
  | .normal | .ret => (resV P rs s).1 ∧ match s.st with
    | own :: own0 :: Ω => post ((resV P rs s).2.mg own0.length) ((own0 ++ own.map (Obj.mg own0.length)) :: Ω)
    | _ => False
  | _ => False
section
variable {P : Program} {N : Nat} {s : St}
def escS (P : Program) (rs : List ResultVar) (post : V → Store → Prop) (s : St) (r : R) : Prop := r.1 ∧ match s.st with
  | own :: own0 :: Ω => post (r.2.mg own0.length) ((own0 ++ own.map (Obj.mg own0.length)) :: Ω)
  | _ => False
@[congr] theorem escS_congr {rs : List ResultVar} {post : V → Store → Prop} {s s' : St} {r r' : R} (h1 : s = s') (h2 : r = r') : escS P rs post s r = escS P rs post s' r' := by rw [h1, h2]
theorem escQ_ret {rs : List ResultVar} {post : V → Store → Prop} {tm : List (Nat × V)} {S : Store} : escQ P rs post .ret ⟨tm, S⟩ = escS P rs post ⟨tm, S⟩ (resV P rs ⟨tm, S⟩) := rfl
theorem escQ_normal {rs : List ResultVar} {post : V → Store → Prop} {tm : List (Nat × V)} {S : Store} : escQ P rs post .normal ⟨tm, S⟩ = escS P rs post ⟨tm, S⟩ (resV P rs ⟨tm, S⟩) := rfl
theorem escS_mk {rs : List ResultVar} {post : V → Store → Prop} {tm : List (Nat × V)} {own own0 : List Obj} {Ω : Store} {p : Prop} {v : V} :
    escS P rs post ⟨tm, own :: own0 :: Ω⟩ (p, v) = (p ∧ post (v.mg own0.length) ((own0 ++ own.map (Obj.mg own0.length)) :: Ω)) := rfl
theorem mgK_0 {n j : Nat} : mgK n (0, j) = (0, n + j) := rfl
theorem mgK_1 {n l j : Nat} : mgK n (1 + l, j) = (l, j) := by rw [Nat.add_comm]; rfl
end
attribute [go_sem ↓] escQ_ret escQ_normal
attribute [go_sem] escS_mk V.mg C.mg Obj.mg mgK_0 mgK_1
end Go.Ab

namespace Go.Ab
section
variable {P : Program} {N : Nat} {S : Store} {s : St} {tm : List (Nat × V)}
def loneK (E : Md) (R : Array Oper) (K : St → Prop) (s : St) : Prop := loneB E R s.tm = true ∧ K s
@[congr] theorem loneK_congr {E : Md} {R : Array Oper} {K : St → Prop} {s s' : St} (h2 : s = s') : loneK E R K s = loneK E R K s' := by rw [h2]
def CWL (P : Program) (N : Nat) : Code → (Exit → St → Prop) → St → Prop
  | .seq x y, Q, s => CWL P N x (thenK (CWL P N y Q) Q) s
  | .region _ R true, Q, s => dops P (autoEL R N) R R.toList s (loneK (autoEL R N) R (Q .normal))
  | .region id R false, Q, s => CW P N (.region id R false) Q s
  | .cond c x y, Q, s => CW P N (.cond c x y) Q s
  | .block id c, Q, s => CW P N (.block id c) Q s
  | .exit id, Q, s => CW P N (.exit id) Q s
  | .ret, Q, s => CW P N .ret Q s
  | .skip, Q, s => CW P N .skip Q s
  | .loop c, Q, s => CW P N (.loop c) Q s
  | _, _, _ => False
def codeOkL (N : Nat) : Code → Bool
  | .seq x y => codeOkL N x && codeOkL N y
  | .region _ R true => drawOkL (autoEL R N) R N
  | c => codeOk N c
theorem cwl_sound (hmix : P.follows .mixedOrders = true) : ∀ (c : Code) (Q : Exit → St → Prop) (s : St), codeOkL N c = true → CWL P N c Q s → AW P N c Q s
  | .seq x y, Q, s, ok, h => by
    simp only [codeOkL, Bool.and_eq_true] at ok
    refine aw_seq (AW.mono (cwl_sound hmix x _ s ok.1 h) fun e s' h' => ?_)
    cases e with
    | normal => exact cwl_sound hmix y Q s' ok.2 h'
    | _ => exact h'
  | .region _ R true, Q, s, ok, h => aw_draw_lone hmix ok h
  | .region id R false, Q, s, ok, h => cw_sound hmix _ Q s ok h
  | .cond c x y, Q, s, ok, h => cw_sound hmix _ Q s ok h
  | .block id c, Q, s, ok, h => cw_sound hmix _ Q s ok h
  | .exit id, Q, s, ok, h => cw_sound hmix _ Q s ok h
  | .ret, Q, s, ok, h => cw_sound hmix _ Q s ok h
  | .skip, Q, s, ok, h => cw_sound hmix _ Q s ok h
  | .loop c, Q, s, ok, h => cw_sound hmix _ Q s ok h
  | .rangeFunc _ _ _ _, Q, s, ok, h => h.elim
  | .scope _, Q, s, ok, h => h.elim
  | .label _, Q, s, ok, h => h.elim
  | .goto _, Q, s, ok, h => h.elim
  | .refuse _, Q, s, ok, h => h.elim
theorem cwl_seq {x y : Code} {Q : Exit → St → Prop} : CWL P N (.seq x y) Q s = CWL P N x (thenK (CWL P N y Q) Q) s := by rw [CWL]
theorem cwl_draw {id : Nat} {l : List Oper} {Q : Exit → St → Prop} : CWL P N (.region id ⟨l⟩ true) Q s = dops P (autoEL ⟨l⟩ N) ⟨l⟩ l s (loneK (autoEL ⟨l⟩ N) ⟨l⟩ (Q .normal)) := by rw [CWL]
theorem cwl_region {id : Nat} {l : List Oper} {Q : Exit → St → Prop} : CWL P N (.region id ⟨l⟩ false) Q s = CW P N (.region id ⟨l⟩ false) Q s := by rw [CWL]
theorem cwl_cond {c : Operand} {x y : Code} {Q : Exit → St → Prop} : CWL P N (.cond c x y) Q s = CW P N (.cond c x y) Q s := by rw [CWL]
theorem cwl_ret {Q : Exit → St → Prop} : CWL P N .ret Q s = CW P N .ret Q s := by rw [CWL]
theorem cwl_skip {Q : Exit → St → Prop} : CWL P N .skip Q s = CW P N .skip Q s := by rw [CWL]
theorem acall_cwl {f : FuncId} {fn : Func} {c : Code} {args : List V} {post : V → Store → Prop} {rs : List ResultVar} (hmix : P.follows .mixedOrders = true) (hf : P.funcs[f]? = some fn) (hN : fn.ntmps = N)
    (hb : fn.body = some c) (hn : (fn.name == "runtime.NumGoroutine") = false) (hr : fn.results.toList = rs) (hl : Nat.ble args.length N = true) (hok : codeOkL N c = true)
    (h : CWL P N c (retF P rs post) ⟨argTm (args.map (V.up 1)) 0, [] :: S⟩) : ACall P f args S post := by
  subst hN
  subst hr
  exact acall_enter hf hb hn (Nat.le_of_ble_eq_true hl) (aw_end frzAll_ghost (cwl_sound hmix c _ _ hok h))
end
attribute [go_sem ↓] cwl_seq cwl_draw cwl_region cwl_cond cwl_ret cwl_skip
end Go.Ab

namespace Go.Ab
theorem MProgram.pkg_sz {w : MProgram} {i : Nat} (hi : i < w.fPackages.length) (h : w.sz ≤ 4194304) : w.fPackages[i].sz ≤ 4194304 := by
  have hx : w.fPackages[i].sz ≤ szRows (w.fPackages.map MPackage.enc) := szRows_mem (List.mem_map_of_mem (List.getElem_mem hi))
  simp only [MProgram.sz, MProgram.enc_eq, szRow, szRow_append, D.sz, List.length_map] at h
  omega
theorem MPackage.deps_len {p : MPackage} (h : p.sz ≤ 4194304) : p.fDeps.length ≤ 4194304 := by
  simp only [MPackage.sz, MPackage.enc_eq, szRow, szRow_append, D.sz, List.length_map] at h
  omega
theorem snocI (xs : List Int) (n : Int) : xs.map encI ++ [[D.i .i64 n]] = (xs ++ [n]).map encI := by simp [encI]
theorem set_true {P Q : Nat → Prop} {n j : Nat} (h : ∀ m, m < n → (Q m ↔ P m ∨ m = j)) (hj : j < n) : (boolsOf P n).set j (spliceD ((boolsOf P n).getD j []) 0 [D.b true]) = boolsOf Q n := by
  have : (boolsOf P n).getD j [] = [D.b (dec (P j))] := by simp [boolsOf, List.getD, hj]
  rw [this]
  exact boolsOf_set h hj
theorem bools_zero (n : Nat) : List.replicate n [D.b false] = boolsOf (fun _ => False) n := by
  apply List.ext_getElem?
  intro m
  by_cases h : m < n
  · rw [boolsOf_get h, List.getElem?_replicate, if_pos h, dec_False]
  · rw [List.getElem?_replicate, if_neg h, List.getElem?_eq_none (by rw [boolsOf_len]; omega)]
theorem PCall.less {P : Program} {f : FuncId} {args : List V} {r r' : V} (h : PCall P f args r) (hl : Less r r') : PCall P f args r' :=
  fun S => (h S).kill (0, 0) fun r1 S' e => ⟨r', by rw [e.1]; exact hl, .inl ⟨rfl, e.2⟩⟩
theorem less_fsl {es : List (List D)} : Less (.c (.fsl es)) (.c (.d (.sl es))) := fun w σ S β v h => ⟨h.1.1, h.2⟩
end Go.Ab
namespace Go.Proofs.YtjfhgcnoielpfaaGreat
open Go Go.Ab
theorem l1HasInt_ok (xs : List Int) (x : Int) (hl : xs.length ≤ 1073741824) : PCall Tryz.prog 81 [.c (.d (.sl (xs.map encI))), .c (.d (.i .i64 x))] (.c (.d (.b (dec (x ∈ xs))))) := fun S => by
  refine acall_cw (rs := [.tmp 4]) Tryz.checked.mixed Tryz.func81 Tryz.ntmps81 rfl rfl rfl rfl rfl ?_
  simp -implicitDefEqProofs (disch := omega) only [go_sem]
  refine loop_at (ι := Nat) Tryz.checked.mixed rfl [0, 1, 5] (fun i => [.c (.d (.sl (xs.map encI))), .c (.d (.i .i64 x)), .c (.d (.i .i64 i))]) (fun _ => [] :: S)
    (fun i => i ≤ xs.length ∧ ∀ j, j < i → ∀ h : j < xs.length, xs[j] ≠ x) (fun i => xs.length - i) 0 rfl rfl ⟨Nat.zero_le _, fun j h => by omega⟩ ?_
  rintro i ⟨p1, p2⟩
  simp -implicitDefEqProofs (disch := omega) only [go_sem]
  with_reducible refine split2 (fun hb => ?_) (fun hb => ?_) <;> have h := hb <;> (try simp only [wf_preprocess] at h) <;> simp -implicitDefEqProofs (disch := omega) only [go_sem, hb] <;> (repeat (with_reducible refine And.intro ?_ ?_; focus first | omega | rfl | assumption | exact ⟨_, rfl, rfl⟩ | (simp; omega) | (simp; done)))
  · have hi : i < xs.length := by omega
    with_reducible refine split2 (fun hb => ?_) (fun hb => ?_) <;> have h := hb <;> (try simp only [wf_preprocess] at h) <;> simp -implicitDefEqProofs (disch := omega) only [go_sem, hb] <;> (repeat (with_reducible refine And.intro ?_ ?_; focus first | omega | rfl | assumption | exact ⟨_, rfl, rfl⟩ | (simp; omega) | (simp; done)))
    · exact bool_eq (dec_true (by rw [← h]; exact List.getElem_mem hi)).symm
    · refine inv_at (i + 1) (by omega) rfl rfl ⟨by omega, fun j hj hl => ?_⟩
      by_cases e : j = i
      · subst e; exact h
      · exact p2 j (by omega) hl
  · refine bool_eq (dec_false fun hm => ?_).symm
    obtain ⟨j, h1, h2⟩ := List.getElem_of_mem hm
    exact p2 j (by omega) h1 h2
theorem indexI_ok (xs : List Int) (x : Int) (hl : xs.length ≤ 1073741824) : PCall Tryz.prog 145 [.c (.d (.sl (xs.map encI))), .c (.d (.i .i64 x))] (.c (.d (.i .i64 (indexP (fun y => decide (y = x)) xs)))) := fun S => by
  refine acall_cw (rs := [.tmp 4]) Tryz.checked.mixed Tryz.func145 Tryz.ntmps145 rfl rfl rfl rfl rfl ?_
  simp -implicitDefEqProofs (disch := omega) only [go_sem]
  refine loop_at (ι := Nat) Tryz.checked.mixed rfl [0, 1, 7, 8] (fun i => [.c (.d (.sl (xs.map encI))), .c (.d (.i .i64 x)), .c (.d (.i .i64 xs.length)), .c (.d (.i .i64 i))]) (fun _ => [] :: S)
    (fun i => i ≤ xs.length ∧ ∀ j, ∀ hj : j < xs.length, j < i → (fun y => decide (y = x)) xs[j] = false) (fun i => xs.length - i) 0 rfl rfl ⟨Nat.zero_le _, fun j _ h => by omega⟩ ?_
  rintro i ⟨p1, p2⟩
  simp -implicitDefEqProofs (disch := omega) only [go_sem]
  with_reducible refine split2 (fun hb => ?_) (fun hb => ?_) <;> have h := hb <;> (try simp only [wf_preprocess] at h) <;> simp -implicitDefEqProofs (disch := omega) only [go_sem, hb] <;> (repeat (with_reducible refine And.intro ?_ ?_; focus first | omega | rfl | assumption | exact ⟨_, rfl, rfl⟩ | (simp; omega) | (simp; done)))
  · have hi : i < xs.length := by omega
    with_reducible refine split2 (fun hb => ?_) (fun hb => ?_) <;> have h := hb <;> (try simp only [wf_preprocess] at h) <;> simp -implicitDefEqProofs (disch := omega) only [go_sem, hb] <;> (repeat (with_reducible refine And.intro ?_ ?_; focus first | omega | rfl | assumption | exact ⟨_, rfl, rfl⟩ | (simp; omega) | (simp; done)))
    · rw [indexP_here (p := fun y => decide (y = x)) hi p2 (by first | simpa using h | simpa using h.symm)]
    · refine inv_at (i + 1) (by omega) rfl rfl ⟨by omega, fun j hj hji => ?_⟩
      by_cases e : j = i
      · subst e; simp only [decide_eq_false_iff_not]; exact fun y => h y.symm
      · exact p2 j hj (by omega)
  · rw [indexP_no (p := fun y => decide (y = x)) (fun j hj => p2 j hj (by omega))]
theorem containsI_ok (xs : List Int) (x : Int) (hl : xs.length ≤ 1073741824) : PCall Tryz.prog 84 [.c (.d (.sl (xs.map encI))), .c (.d (.i .i64 x))] (.c (.d (.b (dec (x ∈ xs))))) := fun S => by
  refine acall_cw (rs := [.tmp 4]) Tryz.checked.mixed Tryz.func84 Tryz.ntmps84 rfl rfl rfl rfl rfl ?_
  simp -implicitDefEqProofs (disch := omega) only [go_sem]
  refine call_w (indexI_ok xs x hl) ?_
  simp -implicitDefEqProofs (disch := omega) only [go_sem] <;> (repeat (with_reducible refine And.intro ?_ ?_; focus first | omega | rfl | assumption | exact ⟨_, rfl, rfl⟩ | (simp; omega) | (simp; done)))
  refine bool_eq (indexP_pos.trans ?_)
  by_cases h : x ∈ xs
  · rw [dec_true h]; exact List.any_eq_true.2 ⟨x, h, by simp⟩
  · rw [dec_false h]; exact Bool.eq_false_iff.2 fun hx => by
      obtain ⟨y, hy, e⟩ := List.any_eq_true.1 hx
      simp at e
      exact h (e ▸ hy)
theorem specVis_ok (w : MProgram) (i : Nat) (hsz : w.sz ≤ 4194304) (hi : i < w.fPackages.length) : PCall Tryz.prog 82 [w.v, .c (.d (.i .i64 i))] (.c (.d (.sl ((visL w i).map encI)))) := fun S => by
  have hb0 := MProgram.bounds hsz
  have hl : ∀ p, (visL w p).length ≤ p + 1 := fun p => visP_len w p (p + 1)
  have rg : ∀ n j : Nat, j < n → ((List.range n).map fun q => [D.sl ((visL w q).map encI)]).getD j [] = [D.sl ((visL w j).map encI)] := fun n j h => by simp [List.getD, h]
  refine acall_cw (rs := [.tmp 4]) Tryz.checked.mixed Tryz.func82 Tryz.ntmps82 rfl rfl rfl rfl rfl ?_
  simp -implicitDefEqProofs (disch := omega) only [go_sem]
  refine call_w (l1In_ok i 0 (w.fPackages.length - 1)) ?_
  simp -implicitDefEqProofs (disch := omega) only [go_sem] <;> (repeat (with_reducible refine And.intro ?_ ?_; focus first | omega | rfl | assumption | exact ⟨_, rfl, rfl⟩ | (simp; omega) | (simp; done)))
  with_reducible refine split2 (fun hb => ?_) (fun hb => ?_) <;> have h := hb <;> (try simp only [wf_preprocess] at h) <;> simp -implicitDefEqProofs (disch := omega) only [go_sem, hb] <;> (repeat (with_reducible refine And.intro ?_ ?_; focus first | omega | rfl | assumption | exact ⟨_, rfl, rfl⟩ | (simp; omega) | (simp; done)))
  · omega
  (repeat (with_reducible refine And.intro ?_ ?_; focus first | omega | rfl | assumption | exact ⟨_, rfl, rfl⟩ | (simp; omega) | (simp; done)))
  refine aw_tok 5 1 [] rfl (by simp) ?_
  refine loop_at (ι := Nat) Tryz.checked.mixed rfl [1, 2, 5, 6] (fun p => [.c (.d (.i .i64 i)), .c (.ptr (0, 0) 0), .c (.tsl (0, 1) ((List.range p).map fun q => [.sl ((visL w q).map encI)])), .c (.d (.i .i64 p))]) (fun p => [.box (w.enc.map .d), .tok 1 ((List.range p).map fun q => [.sl ((visL w q).map encI)])] :: S)
    (fun p => p ≤ i + 1) (fun p => i + 1 - p) 0 rfl ?_ (Nat.zero_le _) ?_
  · simp -implicitDefEqProofs (disch := omega) only [go_sem]
    rfl
  intro p hp
  simp -implicitDefEqProofs (disch := omega) only [go_sem]
  with_reducible refine split2 (fun hb => ?_) (fun hb => ?_) <;> have h := hb <;> (try simp only [wf_preprocess] at h) <;> simp -implicitDefEqProofs (disch := omega) only [go_sem, hb] <;> (repeat (with_reducible refine And.intro ?_ ?_; focus first | omega | rfl | assumption | exact ⟨_, rfl, rfl⟩ | (simp; omega) | (simp; done)))
  · have hpi : p ≤ i := by omega
    (repeat (with_reducible refine And.intro ?_ ?_; focus first | omega | rfl | assumption | exact ⟨_, rfl, rfl⟩ | (simp; omega) | (simp; done)))
    refine aw_tok 7 1 [] rfl (by simp) ?_
    refine loop_at (ι := Nat) Tryz.checked.mixed rfl [1, 2, 5, 6, 7, 8] (fun k => [.c (.d (.i .i64 i)), .c (.ptr (0, 0) 0), .c (.tsl (0, 1) ((List.range p).map fun q => [.sl ((visL w q).map encI)])), .c (.d (.i .i64 p)), .c (.tsl (0, 2) ((visP w p k).map encI)), .c (.d (.i .i64 k))])
      (fun k => [.box (w.enc.map .d), .tok 1 ((List.range p).map fun q => [.sl ((visL w q).map encI)]), .tok 1 ((visP w p k).map encI)] :: S)
      (fun k => k ≤ p) (fun k => p - k) 0 rfl ?_ (Nat.zero_le _) ?_
    · simp -implicitDefEqProofs (disch := omega) only [go_sem]
      rfl
    intro k hk
    have hkl := visP_len w p k
    simp -implicitDefEqProofs (disch := omega) only [go_sem]
    with_reducible refine split2 (fun hb => ?_) (fun hb => ?_) <;> have h := hb <;> (try simp only [wf_preprocess] at h) <;> simp -implicitDefEqProofs (disch := omega) only [go_sem, hb] <;> (repeat (with_reducible refine And.intro ?_ ?_; focus first | omega | rfl | assumption | exact ⟨_, rfl, rfl⟩ | (simp; omega) | (simp; done)))
    · have hkp : k < p := by omega
      have hf := Vis.first (w := w) hkp
      have hpl : p < w.fPackages.length := by omega
      have hdl := MPackage.deps_len (MProgram.pkg_sz hpl hsz)
      have hdo := depsOf_at hpl
      refine loop_at (ι := Nat) Tryz.checked.mixed rfl [1, 2, 5, 6, 7, 8, 9] (fun d => [.c (.d (.i .i64 i)), .c (.ptr (0, 0) 0), .c (.tsl (0, 1) ((List.range p).map fun q => [.sl ((visL w q).map encI)])), .c (.d (.i .i64 p)), .c (.tsl (0, 2) ((visP w p k).map encI)), .c (.d (.i .i64 k)), .c (.d (.i .i64 d))])
        (fun _ => [.box (w.enc.map .d), .tok 1 ((List.range p).map fun q => [.sl ((visL w q).map encI)]), .tok 1 ((visP w p k).map encI)] :: S)
        (fun d => d ≤ w.fPackages[p].fDeps.length ∧ ∀ e, ∀ he : e < w.fPackages[p].fDeps.length, e < d → ∀ j : Nat, j < p → pkgIndex w w.fPackages[p].fDeps[e] = (j : Int) → ¬ Vis w j k) (fun d => w.fPackages[p].fDeps.length - d) 0 rfl ?_ ⟨Nat.zero_le _, fun e he h => by omega⟩ ?_
      · simp -implicitDefEqProofs (disch := omega) only [go_sem]
      rintro d ⟨q1, q2⟩
      simp -implicitDefEqProofs (disch := omega) only [go_sem]
      (repeat (with_reducible refine And.intro ?_ ?_; focus first | omega | rfl | assumption | exact ⟨_, rfl, rfl⟩ | (simp; omega) | (simp; done)))
      with_reducible refine split2 (fun hb => ?_) (fun hb => ?_) <;> have h := hb <;> (try simp only [wf_preprocess] at h) <;> simp -implicitDefEqProofs (disch := omega) only [go_sem, hb] <;> (repeat (with_reducible refine And.intro ?_ ?_; focus first | omega | rfl | assumption | exact ⟨_, rfl, rfl⟩ | (simp; omega) | (simp; done)))
      · have hd : d < w.fPackages[p].fDeps.length := by omega
        (repeat (with_reducible refine And.intro ?_ ?_; focus first | omega | rfl | assumption | exact ⟨_, rfl, rfl⟩ | (simp; omega) | (simp; done)))
        refine call_w (specPkgIndex_ok w w.fPackages[p].fDeps[d] hsz) ?_
        simp -implicitDefEqProofs (disch := omega) only [go_sem] <;> (repeat (with_reducible refine And.intro ?_ ?_; focus first | omega | rfl | assumption | exact ⟨_, rfl, rfl⟩ | (simp; omega) | (simp; done)))
        have miss : (∀ j : Nat, j < p → pkgIndex w w.fPackages[p].fDeps[d] = (j : Int) → ¬ Vis w j k) → ∀ e, ∀ he : e < w.fPackages[p].fDeps.length, e < d + 1 → ∀ j : Nat, j < p → pkgIndex w w.fPackages[p].fDeps[e] = (j : Int) → ¬ Vis w j k := fun h e he hed => by
          by_cases e' : e = d
          · subst e'; exact h
          · exact q2 e he (by omega)
        with_reducible refine split2 (fun hb => ?_) (fun hb => ?_) <;> have h := hb <;> (try simp only [wf_preprocess] at h) <;> simp -implicitDefEqProofs (disch := omega) only [go_sem, hb] <;> (repeat (with_reducible refine And.intro ?_ ?_; focus first | omega | rfl | assumption | exact ⟨_, rfl, rfl⟩ | (simp; omega) | (simp; done)))
        · have h0 := h
          with_reducible refine split2 (fun hb => ?_) (fun hb => ?_) <;> have h := hb <;> (try simp only [wf_preprocess] at h) <;> simp -implicitDefEqProofs (disch := omega) only [go_sem, hb] <;> (repeat (with_reducible refine And.intro ?_ ?_; focus first | omega | rfl | assumption | exact ⟨_, rfl, rfl⟩ | (simp; omega) | (simp; done)))
          · obtain ⟨j, hj⟩ : ∃ j : Nat, pkgIndex w w.fPackages[p].fDeps[d] = (j : Int) := ⟨_, (Int.toNat_of_nonneg h0).symm⟩
            have hjp : j < p := by omega
            have hlj := hl j
            have hr := rg p j hjp
            rw [hj]
            simp -implicitDefEqProofs (disch := omega) only [go_sem, List.length_range, hr]
            (repeat (with_reducible refine And.intro ?_ ?_; focus first | omega | rfl | assumption | exact ⟨_, rfl, rfl⟩ | (simp; omega) | (simp; done)))
            refine call_w (l1HasInt_ok (visL w j) k (by omega)) ?_
            simp -implicitDefEqProofs (disch := omega) only [go_sem] <;> (repeat (with_reducible refine And.intro ?_ ?_; focus first | omega | rfl | assumption | exact ⟨_, rfl, rfl⟩ | (simp; omega) | (simp; done)))
            rw [dec_congr mem_visL_nat]
            with_reducible refine split2 (fun hb => ?_) (fun hb => ?_) <;> have h := hb <;> (try simp only [wf_preprocess] at h) <;> simp -implicitDefEqProofs (disch := omega) only [go_sem, hb] <;> (repeat (with_reducible refine And.intro ?_ ?_; focus first | omega | rfl | assumption | exact ⟨_, rfl, rfl⟩ | (simp; omega) | (simp; done)))
            · have hv : Vis w p k := hf.2 ⟨j, ⟨hjp, _, by rw [hdo]; exact List.getElem_mem hd, hj⟩, h⟩
              (repeat (with_reducible refine And.intro ?_ ?_; focus first | omega | rfl | assumption | exact ⟨_, rfl, rfl⟩ | (simp; omega) | (simp; done)))
              rw [snocI]
              exact inv_at (k + 1) (by omega) (by rw [visP_yes hv]; rfl) (by rw [visP_yes hv]) (by omega)
            · have hnv := h
              (repeat (with_reducible refine And.intro ?_ ?_; focus first | omega | rfl | assumption | exact ⟨_, rfl, rfl⟩ | (simp; omega) | (simp; done)))
              exact inv_at (d + 1) (by omega) rfl rfl ⟨by omega, miss fun j' h1 h2 => by
                have : j' = j := by omega
                rw [this]; exact hnv⟩
          · exact inv_at (d + 1) (by omega) rfl rfl ⟨by omega, miss fun j' h1 h2 => by omega⟩
        · exact inv_at (d + 1) (by omega) rfl rfl ⟨by omega, miss fun j' h1 h2 => by omega⟩
      · have hd : d = w.fPackages[p].fDeps.length := by omega
        have hv : ¬ Vis w p k := fun hv => by
          obtain ⟨j, ⟨h1, x, h2, h3⟩, h4⟩ := hf.1 hv
          rw [hdo] at h2
          obtain ⟨e, he, ee⟩ := List.getElem_of_mem h2
          exact q2 e he (by omega) j h1 (by rw [ee]; exact h3) h4
        exact inv_at (k + 1) (by omega) (by rw [visP_no hv]; rfl) (by rw [visP_no hv]) (by omega)
    · have hkp : k = p := by omega
      subst hkp
      have e1 := visP_yes (Vis.refl (w := w) k)
      have e2 : (List.range (k + 1)).map (fun q => [D.sl ((visL w q).map encI)]) = (List.range k).map (fun q => [D.sl ((visL w q).map encI)]) ++ [[D.sl ((visL w k).map encI)]] := by rw [List.range_succ, List.map_append]; rfl
      first | refine ⟨by simp only [List.length_range]; omega, ?_⟩ | skip
      (repeat (with_reducible refine And.intro ?_ ?_; focus first | omega | rfl | assumption | exact ⟨_, rfl, rfl⟩ | (simp; omega) | (simp; done)))
      rw [snocI, ← e1]
      exact inv_drop 2 (by decide) (k + 1) (by omega) (by rw [e2]; rfl) (by rw [e2]; rfl) rfl rfl (by omega)
  · have hp : p = i + 1 := by omega
    subst hp
    have hr := rg (i + 1) i (by omega)
    have hrl : ((List.range (i + 1)).map fun q => [D.sl ((visL w q).map encI)]).length = i + 1 := by simp
    generalize ((List.range (i + 1)).map fun q => [D.sl ((visL w q).map encI)]) = R at hr hrl ⊢
    simp -implicitDefEqProofs (disch := omega) only [go_sem, hr, hrl]
    first | exact ⟨by omega, by simp⟩ | trace_state
set_option maxHeartbeats 1000000 in
theorem implVis_ok (w : MProgram) (i : Nat) (hsz : w.sz ≤ 4194304) (hi : i < w.fPackages.length) : PCall Tryz.prog 85 [w.v, .c (.d (.i .i64 i))] (.c (.d (.sl ((visL w i).map encI)))) := fun S => by
  have hb0 := MProgram.bounds hsz
  have hge : ∀ P : Nat → Prop, ∀ j, j < i + 1 → (boolsOf P (i + 1)).getD j [] = [D.b (dec (P j))] := fun P j h => by simp [boolsOf, List.getD, h]
  refine acall_cw (rs := [.tmp 4]) Tryz.checked.mixed Tryz.func85 Tryz.ntmps85 rfl rfl rfl rfl rfl ?_
  simp -implicitDefEqProofs (disch := omega) only [go_sem]
  with_reducible refine split2 (fun hb => ?_) (fun hb => ?_) <;> have h := hb <;> (try simp only [wf_preprocess] at h) <;> simp -implicitDefEqProofs (disch := omega) only [go_sem, hb] <;> (repeat (with_reducible refine And.intro ?_ ?_; focus first | omega | rfl | assumption | exact ⟨_, rfl, rfl⟩ | (simp; omega) | (simp; done)))
  · omega
  with_reducible refine split2 (fun hb => ?_) (fun hb => ?_) <;> have h := hb <;> (try simp only [wf_preprocess] at h) <;> simp -implicitDefEqProofs (disch := omega) only [go_sem, hb] <;> (repeat (with_reducible refine And.intro ?_ ?_; focus first | omega | rfl | assumption | exact ⟨_, rfl, rfl⟩ | (simp; omega) | (simp; done)))
  · omega
  (repeat (with_reducible refine And.intro ?_ ?_; focus first | omega | rfl | assumption | exact ⟨_, rfl, rfl⟩ | (simp; omega) | (simp; done)))
  rw [show ((i : Int) + 1).toNat = i + 1 by omega, bools_zero, set_true (Q := Met w i (i + 1)) (fun m hm => ⟨fun h => .inr (h.elim id fun ⟨p, h1, h2, _⟩ => by have := h2.le; omega), fun h => h.elim False.elim .inl⟩) (by omega)]
  refine loop_at (ι := Nat) Tryz.checked.mixed rfl [2, 5, 6] (fun n => [.c (.ptr (0, 0) 0), .c (.msl (0, 1)), .c (.d (.i .i64 ((n : Int) - 1)))]) (fun n => [.box (w.enc.map .d), .mrow 1 (boolsOf (Met w i n) (i + 1))] :: S)
    (fun n => n ≤ i + 1) (fun n => n) (i + 1) ?_ ?_ (Nat.le_refl _) ?_
  · simp only [List.map_cons, List.map_nil]
    simp -implicitDefEqProofs (disch := omega) only [go_sem]
    simp
  · simp -implicitDefEqProofs (disch := omega) only [go_sem]
  intro n hn
  simp -implicitDefEqProofs (disch := omega) only [go_sem]
  with_reducible refine split2 (fun hb => ?_) (fun hb => ?_) <;> have h := hb <;> (try simp only [wf_preprocess] at h) <;> simp -implicitDefEqProofs (disch := omega) only [go_sem, hb] <;> (repeat (with_reducible refine And.intro ?_ ?_; focus first | omega | rfl | assumption | exact ⟨_, rfl, rfl⟩ | (simp; omega) | (simp; done)))
  · obtain ⟨k, rfl⟩ : ∃ k, n = k + 1 := ⟨n - 1, by omega⟩
    have ek : ((k + 1 : Nat) : Int) - 1 = (k : Int) := by omega
    have hk := hge (Met w i (k + 1)) k (by omega)
    have hkl : k < w.fPackages.length := by omega
    rw [ek]
    simp -implicitDefEqProofs (disch := omega) only [go_sem, hk, boolsOf_len]
    (repeat (with_reducible refine And.intro ?_ ?_; focus first | omega | rfl | assumption | exact ⟨_, rfl, rfl⟩ | (simp; omega) | (simp; done)))
    rw [dec_congr (met_done (w := w) (i := i) (m := k) (by omega))]
    with_reducible refine split2 (fun hb => ?_) (fun hb => ?_) <;> have h := hb <;> (try simp only [wf_preprocess] at h) <;> simp -implicitDefEqProofs (disch := omega) only [go_sem, hb] <;> (repeat (with_reducible refine And.intro ?_ ?_; focus first | omega | rfl | assumption | exact ⟨_, rfl, rfl⟩ | (simp; omega) | (simp; done)))
    · have hv := h
      have e := boolsOf_congr (n := i + 1) (P := Met w i (k + 1)) (Q := Met w i k) fun m _ => (met_skip hv).symm
      (repeat (with_reducible refine And.intro ?_ ?_; focus first | omega | rfl | assumption | exact ⟨_, rfl, rfl⟩ | (simp; omega) | (simp; done)))
      exact inv_at k (by omega) rfl (by rw [← e]) (by omega)
    · have hv := h
      have hdl := MPackage.deps_len (MProgram.pkg_sz hkl hsz)
      have hdo := depsOf_at hkl
      (repeat (with_reducible refine And.intro ?_ ?_; focus first | omega | rfl | assumption | exact ⟨_, rfl, rfl⟩ | (simp; omega) | (simp; done)))
      refine loop_at (ι := Nat) Tryz.checked.mixed rfl [2, 5, 6, 43, 44, 45] (fun d => [.c (.ptr (0, 0) 0), .c (.msl (0, 1)), .c (.d (.i .i64 k)), .c (.d (.sl (w.fPackages[k].fDeps.map encS))), .c (.d (.i .i64 w.fPackages[k].fDeps.length)), .c (.d (.i .i64 d))])
        (fun d => [.box (w.enc.map .d), .mrow 1 (boolsOf (fun m => Met w i (k + 1) m ∨ ∃ e, ∃ he : e < w.fPackages[k].fDeps.length, e < d ∧ pkgIndex w w.fPackages[k].fDeps[e] = (m : Int) ∧ m < k) (i + 1))] :: S)
        (fun d => d ≤ w.fPackages[k].fDeps.length) (fun d => w.fPackages[k].fDeps.length - d) 0 rfl ?_ (Nat.zero_le _) ?_
      · simp -implicitDefEqProofs (disch := omega) only [go_sem]
        rw [boolsOf_congr (P := Met w i (k + 1)) (Q := fun m => Met w i (k + 1) m ∨ ∃ e, ∃ he : e < w.fPackages[k].fDeps.length, e < 0 ∧ pkgIndex w w.fPackages[k].fDeps[e] = (m : Int) ∧ m < k) fun m _ => ⟨.inl, fun h => h.elim id fun ⟨e, _, h, _⟩ => by omega⟩]
      intro d hd
      simp -implicitDefEqProofs (disch := omega) only [go_sem]
      with_reducible refine split2 (fun hb => ?_) (fun hb => ?_) <;> have h := hb <;> (try simp only [wf_preprocess] at h) <;> simp -implicitDefEqProofs (disch := omega) only [go_sem, hb] <;> (repeat (with_reducible refine And.intro ?_ ?_; focus first | omega | rfl | assumption | exact ⟨_, rfl, rfl⟩ | (simp; omega) | (simp; done)))
      · have hdd : d < w.fPackages[k].fDeps.length := by omega
        have stay : (∀ m : Nat, pkgIndex w w.fPackages[k].fDeps[d] = (m : Int) → ¬ m < k) → boolsOf (fun m => Met w i (k + 1) m ∨ ∃ e, ∃ he : e < w.fPackages[k].fDeps.length, e < d ∧ pkgIndex w w.fPackages[k].fDeps[e] = (m : Int) ∧ m < k) (i + 1) = boolsOf (fun m => Met w i (k + 1) m ∨ ∃ e, ∃ he : e < w.fPackages[k].fDeps.length, e < d + 1 ∧ pkgIndex w w.fPackages[k].fDeps[e] = (m : Int) ∧ m < k) (i + 1) := fun hno =>
          boolsOf_congr fun m _ => ⟨fun h => h.imp id fun ⟨e, h1, h2, h3⟩ => ⟨e, h1, by omega, h3⟩, fun h => h.imp id fun ⟨e, h1, h2, h3, h4⟩ => by
            by_cases e' : e = d
            · subst e'; exact absurd h4 (hno m h3)
            · exact ⟨e, h1, by omega, h3, h4⟩⟩
        (repeat (with_reducible refine And.intro ?_ ?_; focus first | omega | rfl | assumption | exact ⟨_, rfl, rfl⟩ | (simp; omega) | (simp; done)))
        refine call_w (implPkgIndex_ok w w.fPackages[k].fDeps[d] hsz) ?_
        simp -implicitDefEqProofs (disch := omega) only [go_sem] <;> (repeat (with_reducible refine And.intro ?_ ?_; focus first | omega | rfl | assumption | exact ⟨_, rfl, rfl⟩ | (simp; omega) | (simp; done)))
        with_reducible refine split2 (fun hb => ?_) (fun hb => ?_) <;> have h := hb <;> (try simp only [wf_preprocess] at h) <;> simp -implicitDefEqProofs (disch := omega) only [go_sem, hb] <;> (repeat (with_reducible refine And.intro ?_ ?_; focus first | omega | rfl | assumption | exact ⟨_, rfl, rfl⟩ | (simp; omega) | (simp; done)))
        · have h0 := h
          with_reducible refine split2 (fun hb => ?_) (fun hb => ?_) <;> have h := hb <;> (try simp only [wf_preprocess] at h) <;> simp -implicitDefEqProofs (disch := omega) only [go_sem, hb] <;> (repeat (with_reducible refine And.intro ?_ ?_; focus first | omega | rfl | assumption | exact ⟨_, rfl, rfl⟩ | (simp; omega) | (simp; done)))
          · obtain ⟨j, hj⟩ : ∃ j : Nat, pkgIndex w w.fPackages[k].fDeps[d] = (j : Int) := ⟨_, (Int.toNat_of_nonneg h0).symm⟩
            have hjk : j < k := by omega
            rw [hj]
            simp -implicitDefEqProofs (disch := omega) only [go_sem, boolsOf_len]
            (repeat (with_reducible refine And.intro ?_ ?_; focus first | omega | rfl | assumption | exact ⟨_, rfl, rfl⟩ | (simp; omega) | (simp; done)))
            rw [set_true (Q := fun m => Met w i (k + 1) m ∨ ∃ e, ∃ he : e < w.fPackages[k].fDeps.length, e < d + 1 ∧ pkgIndex w w.fPackages[k].fDeps[e] = (m : Int) ∧ m < k) (fun m _ => ⟨fun h => by
                rcases h with h | ⟨e, h1, h2, h3, h4⟩
                · exact .inl (.inl h)
                · by_cases e' : e = d
                  · subst e'; right; omega
                  · exact .inl (.inr ⟨e, h1, by omega, h3, h4⟩), fun h => by
                rcases h with (h | ⟨e, h1, h2, h3⟩) | h
                · exact .inl h
                · exact .inr ⟨e, h1, by omega, h3⟩
                · exact .inr ⟨d, hdd, by omega, by rw [h]; exact hj, by omega⟩⟩) (by omega)]
            exact inv_at (d + 1) (by omega) rfl rfl (by omega)
          · exact inv_at (d + 1) (by omega) rfl (by rw [← stay fun m h1 h2 => by omega]) (by omega)
        · exact inv_at (d + 1) (by omega) rfl (by rw [← stay fun m h1 h2 => by omega]) (by omega)
      · have hd' : d = w.fPackages[k].fDeps.length := by omega
        have e := boolsOf_congr (n := i + 1) (P := fun m => Met w i (k + 1) m ∨ ∃ e, ∃ he : e < w.fPackages[k].fDeps.length, e < d ∧ pkgIndex w w.fPackages[k].fDeps[e] = (m : Int) ∧ m < k) (Q := Met w i k) fun m _ => by
          rw [met_read hv]
          constructor
          · rintro (h | ⟨e, h1, h2, h3, h4⟩)
            · exact .inl h
            · exact .inr ⟨h4, _, by rw [hdo]; exact List.getElem_mem h1, h3⟩
          · rintro (h | ⟨h4, x, h1, h3⟩)
            · exact .inl h
            · rw [hdo] at h1
              obtain ⟨e, he, ee⟩ := List.getElem_of_mem h1
              exact .inr ⟨e, he, by omega, by rw [ee]; exact h3, h4⟩
        exact inv_at k (by omega) rfl (by rw [← e]) (by omega)
  have hn0 : n = 0 := by omega
  subst hn0
  rw [boolsOf_congr (P := Met w i 0) (Q := Vis w i) fun m hm => met_low (by omega) (by omega)]
  have hgv := hge (Vis w i)
  have hbl := boolsOf_len (Vis w i) (i + 1)
  generalize hR : boolsOf (Vis w i) (i + 1) = R at hgv hbl ⊢
  simp -implicitDefEqProofs (disch := omega) only [go_sem, hbl]
  (repeat (with_reducible refine And.intro ?_ ?_; focus first | omega | rfl | assumption | exact ⟨_, rfl, rfl⟩ | (simp; omega) | (simp; done)))
  refine aw_tok 10 1 [] rfl (by simp) ?_
  refine loop_at (ι := Nat) Tryz.checked.mixed rfl [10, 64, 65, 66] (fun m => [.c (.tsl (0, 2) ((visP w i m).map encI)), .c (.msl (0, 1)), .c (.d (.i .i64 ((i + 1 : Nat) : Int))), .c (.d (.i .i64 m))]) (fun m => [.box (w.enc.map .d), .mrow 1 R, .tok 1 ((visP w i m).map encI)] :: S)
    (fun m => m ≤ i + 1) (fun m => i + 1 - m) 0 ?_ ?_ (Nat.zero_le _) ?_
  · rfl
  · simp -implicitDefEqProofs (disch := omega) only [go_sem]
    rfl
  intro m hm
  have hml := visP_len w i m
  simp -implicitDefEqProofs (disch := omega) only [go_sem]
  with_reducible refine split2 (fun hb => ?_) (fun hb => ?_) <;> have h := hb <;> (try simp only [wf_preprocess] at h) <;> simp -implicitDefEqProofs (disch := omega) only [go_sem, hb] <;> (repeat (with_reducible refine And.intro ?_ ?_; focus first | omega | rfl | assumption | exact ⟨_, rfl, rfl⟩ | (simp; omega) | (simp; done)))
  · have hmi : m < i + 1 := by omega
    have hg := hgv m hmi
    simp -implicitDefEqProofs (disch := omega) only [go_sem, hg, hbl]
    (repeat (with_reducible refine And.intro ?_ ?_; focus first | omega | rfl | assumption | exact ⟨_, rfl, rfl⟩ | (simp; omega) | (simp; done)))
    with_reducible refine split2 (fun hb => ?_) (fun hb => ?_) <;> have h := hb <;> (try simp only [wf_preprocess] at h) <;> simp -implicitDefEqProofs (disch := omega) only [go_sem, hb] <;> (repeat (with_reducible refine And.intro ?_ ?_; focus first | omega | rfl | assumption | exact ⟨_, rfl, rfl⟩ | (simp; omega) | (simp; done)))
    · have hv := h
      (repeat (with_reducible refine And.intro ?_ ?_; focus first | omega | rfl | assumption | exact ⟨_, rfl, rfl⟩ | (simp; omega) | (simp; done)))
      rw [snocI]
      exact inv_at (m + 1) (by omega) (by rw [visP_yes hv]; rfl) (by rw [visP_yes hv]) (by omega)
    · have hv := h
      exact inv_at (m + 1) (by omega) (by rw [visP_no hv]; rfl) (by rw [visP_no hv]) (by omega)
  · have hmi : m = i + 1 := by omega
    rw [hmi]
    rfl
end Go.Proofs.YtjfhgcnoielpfaaGreat
namespace Go.Ab
noncomputable def visI (w : MProgram) (i : Int) : List Int := if 0 ≤ i ∧ i < w.fPackages.length then visL w i.toNat else []
end Go.Ab
namespace Go.Proofs.YtjfhgcnoielpfaaGreat
open Go Go.Ab
theorem specVisI_ok (w : MProgram) (i : Int) (hsz : w.sz ≤ 4194304) (hi : -9223372036854775808 ≤ i ∧ i ≤ 9223372036854775807) : PCall Tryz.prog 82 [w.v, .c (.d (.i .i64 i))] (.c (.d (.sl ((visI w i).map encI)))) := by
  have hb0 := MProgram.bounds hsz
  by_cases h : 0 ≤ i ∧ i < w.fPackages.length
  · obtain ⟨n, rfl⟩ := Int.eq_ofNat_of_zero_le h.1
    have h1 := specVis_ok w n hsz (by omega)
    unfold visI
    rw [if_pos h]
    exact h1
  · unfold visI
    rw [if_neg h]
    refine PCall.less (fun S => ?_) less_fsl
    refine acall_cw (rs := [.tmp 4]) Tryz.checked.mixed Tryz.func82 Tryz.ntmps82 rfl rfl rfl rfl rfl ?_
    simp -implicitDefEqProofs (disch := omega) only [go_sem]
    refine call_w (l1In_ok i 0 (w.fPackages.length - 1)) ?_
    simp -implicitDefEqProofs (disch := omega) only [go_sem] <;> (repeat (with_reducible refine And.intro ?_ ?_; focus first | omega | rfl | assumption | exact ⟨_, rfl, rfl⟩ | (simp; omega) | (simp; done)))
    with_reducible refine split2 (fun hb => ?_) (fun hb => ?_) <;> have h := hb <;> (try simp only [wf_preprocess] at h) <;> simp -implicitDefEqProofs (disch := omega) only [go_sem, hb] <;> (repeat (with_reducible refine And.intro ?_ ?_; focus first | omega | rfl | assumption | exact ⟨_, rfl, rfl⟩ | (simp; omega) | (simp; done)))
    · omega
theorem implVisI_ok (w : MProgram) (i : Int) (hsz : w.sz ≤ 4194304) (hi : -9223372036854775808 ≤ i ∧ i ≤ 9223372036854775807) : PCall Tryz.prog 85 [w.v, .c (.d (.i .i64 i))] (.c (.d (.sl ((visI w i).map encI)))) := by
  have hb0 := MProgram.bounds hsz
  by_cases h0 : 0 ≤ i ∧ i < w.fPackages.length
  · obtain ⟨n, rfl⟩ := Int.eq_ofNat_of_zero_le h0.1
    have h1 := implVis_ok w n hsz (by omega)
    unfold visI
    rw [if_pos h0]
    exact h1
  · unfold visI
    rw [if_neg h0]
    refine PCall.less (fun S => ?_) less_fsl
    refine acall_cw (rs := [.tmp 4]) Tryz.checked.mixed Tryz.func85 Tryz.ntmps85 rfl rfl rfl rfl rfl ?_
    simp -implicitDefEqProofs (disch := omega) only [go_sem]
    repeat' (first | with_reducible refine split2 (fun hb => ?_) (fun hb => ?_) <;> have h := hb <;> (try simp only [wf_preprocess] at h) <;> simp -implicitDefEqProofs (disch := omega) only [go_sem, hb] <;> (repeat (with_reducible refine And.intro ?_ ?_; focus first | omega | rfl | assumption | exact ⟨_, rfl, rfl⟩ | (simp; omega) | (simp; done))))
    all_goals first | omega | rfl
end Go.Proofs.YtjfhgcnoielpfaaGreat

namespace Go.Ab
theorem mem_visI {w : MProgram} {i k : Int} : k ∈ visI w i ↔ isVis w i k := by
  unfold visI isVis
  split
  · rename_i h; exact ⟨fun x => ⟨h.1, h.2, x⟩, fun x => x.2.2⟩
  · rename_i h; exact ⟨fun x => absurd x (by simp), fun x => absurd ⟨x.1, x.2.1⟩ h⟩
theorem visI_len {w : MProgram} {i : Int} (h : w.fPackages.length ≤ 4194304) : (visI w i).length ≤ 4194304 := by
  unfold visI
  split
  · rename_i hi
    have := visP_len w i.toNat (i.toNat + 1)
    unfold visL
    omega
  · simp
end Go.Ab
namespace Go.Proofs.YtjfhgcnoielpfaaGreat
open Go Go.Ab
theorem specIsVis_ok (w : MProgram) (i k : Int) (hsz : w.sz ≤ 4194304) (hi : -9223372036854775808 ≤ i ∧ i ≤ 9223372036854775807) : PCall Tryz.prog 25 [w.v, .c (.d (.i .i64 i)), .c (.d (.i .i64 k))] (.c (.d (.b (dec (isVis w i k))))) := fun S => by
  have hb0 := MProgram.bounds hsz
  have hl := visI_len (w := w) (i := i) hb0
  have hm := dec_congr (mem_visI (w := w) (i := i) (k := k))
  refine acall_cw (rs := [.tmp 6]) Tryz.checked.mixed Tryz.func25 Tryz.ntmps25 rfl rfl rfl rfl rfl ?_
  simp -implicitDefEqProofs (disch := omega) only [go_sem]
  refine call_w (specVisI_ok w i hsz hi) ?_
  simp -implicitDefEqProofs (disch := omega) only [go_sem]
  refine call_w (l1HasInt_ok (visI w i) k (by omega)) ?_
  simp -implicitDefEqProofs (disch := omega) only [go_sem] <;> (repeat (with_reducible refine And.intro ?_ ?_; focus first | omega | rfl | assumption | exact ⟨_, rfl, rfl⟩ | (simp; omega) | (simp; done)))
  exact bool_eq hm
end Go.Proofs.YtjfhgcnoielpfaaGreat

namespace Go.Ab
mutual
def nodesT : MType → List MType
  | .mk k n a => .mk k n a :: nodesL a
def nodesL : List MType → List MType
  | [] => []
  | t :: ts => nodesT t ++ nodesL ts
end
theorem nodesT_eq (t : MType) : nodesT t = t :: nodesL t.fArgs := by cases t; rw [nodesT]; rfl
theorem nodesL_drop {ts : List MType} {i : Nat} (hi : i < ts.length) : nodesL (ts.drop i) = nodesT ts[i] ++ nodesL (ts.drop (i + 1)) := by rw [List.drop_eq_getElem_cons hi, nodesL]
mutual
theorem nodes_len : ∀ t : MType, (nodesT t).length = t.cnt
  | .mk k n a => by rw [nodesT, List.length_cons, MType.cnt, nodesL_len a]; omega
theorem nodesL_len : ∀ ts : List MType, (nodesL ts).length = MType.cnts ts
  | [] => rfl
  | t :: ts => by rw [nodesL, List.length_append, MType.cnts, nodes_len t, nodesL_len ts]
end
/-! how often a variable stands in a type -/
def isV (v : List UInt8) (u : MType) : Bool := decide (u.fKind = 1 ∧ u.fName = v)
def countV (v : List UInt8) (t : MType) : Nat := (nodesT t).countP (isV v)
def countVL (v : List UInt8) (ts : List MType) : Nat := (nodesL ts).countP (isV v)
theorem countV_eq (v : List UInt8) (t : MType) : countV v t = (if isV v t then 1 else 0) + countVL v t.fArgs := by
  unfold countV countVL
  rw [nodesT_eq, List.countP_cons]
  omega
theorem countVL_drop {v : List UInt8} {ts : List MType} {i : Nat} (hi : i < ts.length) : countVL v (ts.drop i) = countV v ts[i] + countVL v (ts.drop (i + 1)) := by
  unfold countVL countV
  rw [nodesL_drop hi, List.countP_append]
theorem countV_fold (v : List UInt8) : ∀ (us : List MType) (c : Nat), us.foldl (fun c u => if isV v u then c + 1 else c) c = c + us.countP (isV v)
  | [], c => by simp
  | u :: us, c => by
    rw [List.foldl_cons, countV_fold v us, List.countP_cons]
    split <;> omega
theorem countV_le (v : List UInt8) (t : MType) : countV v t ≤ t.cnt := by
  unfold countV
  rw [← nodes_len]
  exact List.countP_le_length
def occurs (v : List UInt8) (t : MType) : Bool := decide (0 < countV v t)
def selfN : List UInt8 := [115, 101, 108, 102]
def mentions (g : MSignature) : Bool := occurs selfN g.fResult || g.fParams.any (occurs selfN)
def dynSafe (t : MTrait) : Bool := !t.fAssoc && !t.fSignatures.any mentions
end Go.Ab

namespace Go.Proofs.YtjfhgcnoielpfaaGreat
open Go Go.Ab
theorem arg_szT {x : MType} {i : Nat} (hi : i < x.fArgs.length) (h : x.sz ≤ 4194304) : x.fArgs[i].sz ≤ 4194304 ∧ x.fArgs.length ≤ 4194304 ∧ x.fName.length ≤ 4194304 := by
  have hx : x.fArgs[i].sz ≤ szRows (x.fArgs.map MType.enc) := szRows_mem (List.mem_map_of_mem (List.getElem_mem hi))
  simp only [MType.sz, MType.enc_eq, szRow, D.sz, List.length_map] at h
  omega
theorem ty_szT {x : MType} (h : x.sz ≤ 4194304) : x.fArgs.length ≤ 4194304 ∧ x.fName.length ≤ 4194304 := by
  simp only [MType.sz, MType.enc_eq, szRow, D.sz, List.length_map] at h
  omega
theorem eachType_all : ∀ n : Nat, ∀ t : MType, SizeOf.sizeOf t < n → t.sz ≤ 4194304 → ∀ (g : Nat) (caps : List (Key × Nat)) (α : Type) (st : α → Store) (I : Nat → α → Prop) (f : α → MType → α) (hf : FStep Tryz.prog g caps st I f MType.v (fun u => u.sz ≤ 4194304)) (m : Nat) (a : α), I (m + t.cnt) a →
    I m ((nodesT t).foldl f a) ∧ ACall Tryz.prog 136 [t.v, .c (.fn g caps)] (st a) (fun r S' => r = .tup [] ∧ S' = st ((nodesT t).foldl f a))
  | 0 => fun t h => by omega
  | n + 1 => by
    have ih := eachType_all n
    intro t hn hsz g caps α st I f hf m a ha
    have lArgs := MType.lt_Args t
    have hts := ty_szT hsz
    rw [MType.cnt_eq, show m + (1 + MType.cnts t.fArgs) = (m + MType.cnts t.fArgs) + 1 by omega] at ha
    have h1 := hf _ a t ha hsz
    -- the arguments
    have hI : ∀ (ts : List MType), SizeOf.sizeOf ts < n → (∀ x ∈ ts, x.sz ≤ 4194304) → ∀ a, I (m + MType.cnts ts) a → I m ((nodesL ts).foldl f a) := by
      intro ts
      induction ts with
      | nil => intro _ _ a ha; exact ha
      | cons x xs ihx =>
        intro hs hz a ha
        simp only [List.cons.sizeOf_spec] at hs
        rw [nodesL, List.foldl_append]
        rw [MType.cnts, show m + (x.cnt + MType.cnts xs) = (m + MType.cnts xs) + x.cnt by omega] at ha
        exact ihx (by omega) (fun y hy => hz y (by simp [hy])) _ (ih x (by omega) (hz x (by simp)) g caps α st I f hf _ a ha).1
    have hall : ∀ x ∈ t.fArgs, x.sz ≤ 4194304 := fun x hx => by
      obtain ⟨i, hi, e⟩ := List.getElem_of_mem hx
      rw [← e]; exact (arg_szT hi hsz).1
    refine ⟨by rw [nodesT_eq, List.foldl_cons]; exact hI t.fArgs (by omega) hall _ h1.1, ?_⟩
    refine acall_cw (rs := []) Tryz.checked.mixed Tryz.func136 Tryz.ntmps136 rfl rfl rfl rfl rfl ?_
    simp -implicitDefEqProofs (disch := omega) only [go_sem]
    refine call_d rfl (h1.2 [_]) ?_
    simp -implicitDefEqProofs (disch := omega) only [go_sem]
    refine loop_at (ι := Nat × α) Tryz.checked.mixed rfl [1, 10, 11, 12] (fun y => [.c (.fn g (upCaps 1 caps)), .c (.d (.sl (t.fArgs.map MType.enc))), .c (.d (.i .i64 t.fArgs.length)), .c (.d (.i .i64 y.1))]) (fun y => [.box [.d (.i .i64 t.fKind), .d (.s t.fName), .d (.sl (t.fArgs.map MType.enc))]] :: st y.2)
      (fun y => y.1 ≤ t.fArgs.length ∧ I (m + MType.cnts (t.fArgs.drop y.1)) y.2 ∧ (nodesL (t.fArgs.drop y.1)).foldl f y.2 = (nodesT t).foldl f a) (fun y => t.fArgs.length - y.1) (0, f a t) rfl rfl ⟨Nat.zero_le _, h1.1, by rw [nodesT_eq, List.foldl_cons]; rfl⟩ ?_
    rintro ⟨i, b⟩ ⟨p1, p2, p3⟩
    simp only at p1 p2 p3
    simp -implicitDefEqProofs (disch := omega) only [go_sem]
    with_reducible refine split2 (fun hb => ?_) (fun hb => ?_) <;> have h := hb <;> (try simp only [wf_preprocess] at h) <;> simp -implicitDefEqProofs (disch := omega) only [go_sem, hb] <;> (repeat (with_reducible refine And.intro ?_ ?_; focus first | omega | rfl | assumption | exact ⟨_, rfl, rfl⟩ | (simp; omega) | (simp; done)))
    · have hi : i < t.fArgs.length := by omega
      have hs := List.sizeOf_lt_of_mem (List.getElem_mem hi)
      rw [nodesL_drop hi, List.foldl_append] at p3
      rw [List.drop_eq_getElem_cons hi, MType.cnts, show m + (t.fArgs[i].cnt + MType.cnts (t.fArgs.drop (i + 1))) = (m + MType.cnts (t.fArgs.drop (i + 1))) + t.fArgs[i].cnt by omega] at p2
      have h2 := (ih t.fArgs[i] (by omega) (arg_szT hi hsz).1 g caps α st I f hf _ b p2).1
      (repeat (with_reducible refine And.intro ?_ ?_; focus first | omega | rfl | assumption | exact ⟨_, rfl, rfl⟩ | (simp; omega) | (simp; done)))
      refine call_d rfl (((ih t.fArgs[i] (by omega) (arg_szT hi hsz).1 g (upCaps 1 caps) α (fun a => [.box [.d (.i .i64 t.fKind), .d (.s t.fName), .d (.sl (t.fArgs.map MType.enc))], .box [.d (.i .i64 t.fArgs[i].fKind), .d (.s t.fArgs[i].fName), .d (.sl (t.fArgs[i].fArgs.map MType.enc))]] :: st a) I f (hf.push _) _ b p2)).2) ?_
      simp -implicitDefEqProofs (disch := omega) only [go_sem]
      exact inv_drop 1 (by decide) (i + 1, (nodesT t.fArgs[i]).foldl f b) (by simp only; omega) rfl rfl (by simp only [zipTm, tmRefs, List.all_cons, List.all_nil, V.refs, C.refs, refs_upCaps1, Bool.and_true]) rfl ⟨by simp only; omega, h2, p3⟩
    · have hi : i = t.fArgs.length := by omega
      rw [hi, List.drop_length, nodesL, List.foldl_nil] at p3
      rw [p3]
theorem eachType_ok {t : MType} (hsz : t.sz ≤ 4194304) {g : Nat} {caps : List (Key × Nat)} {α : Type} {st : α → Store} {I : Nat → α → Prop} {f : α → MType → α} (hf : FStep Tryz.prog g caps st I f MType.v (fun u => u.sz ≤ 4194304)) (m : Nat) (a : α) (ha : I (m + t.cnt) a) :
    I m ((nodesT t).foldl f a) ∧ ACall Tryz.prog 136 [t.v, .c (.fn g caps)] (st a) (fun r S' => r = .tup [] ∧ S' = st ((nodesT t).foldl f a)) := eachType_all _ t (Nat.lt_succ_self _) hsz g caps α st I f hf m a ha
end Go.Proofs.YtjfhgcnoielpfaaGreat

namespace Go.Proofs.YtjfhgcnoielpfaaGreat
open Go Go.Ab
theorem specCountV_all : ∀ n : Nat, ∀ t : MType, SizeOf.sizeOf t < n → t.sz ≤ 4194304 → ∀ v : List UInt8, PCall Tryz.prog 134 [t.v, .c (.d (.s v))] (.c (.d (.i .i64 (countV v t))))
  | 0 => fun t h => by omega
  | n + 1 => by
    have ih := specCountV_all n
    intro t hn hsz v S
    have lArgs := MType.lt_Args t
    have hts := ty_szT hsz
    have hcl := countV_le v t
    have hcn := cnt_le t
    have he := countV_eq v t
    refine acall_cw (rs := [.tmp 4]) Tryz.checked.mixed Tryz.func134 Tryz.ntmps134 rfl rfl rfl rfl rfl ?_
    simp -implicitDefEqProofs (disch := omega) only [go_sem]
    repeat' (first | (with_reducible refine split2 (fun hb => ?_) (fun hb => ?_) <;> have h := hb <;> (try simp only [wf_preprocess] at h) <;> simp -implicitDefEqProofs (disch := omega) only [go_sem, hb] <;> (repeat (with_reducible refine And.intro ?_ ?_; focus first | omega | rfl | assumption | exact ⟨_, rfl, rfl⟩ | (simp; omega) | (simp; done)))))
    all_goals first
      | (have hc : countV v t = 1 + countVL v t.fArgs := by rw [he, if_pos (by simp only [isV, decide_eq_true_eq]; exact ⟨by assumption, by assumption⟩)])
      | (have hc : countV v t = 0 + countVL v t.fArgs := by rw [he, if_neg (by simp only [isV, decide_eq_true_eq]; exact fun x => by have := x.1; have := x.2; contradiction)])
    all_goals
      refine loop_at (ι := Nat × Nat) Tryz.checked.mixed rfl [1, 2, 5, 6] (fun y => [.c (.d (.s v)), .c (.ptr (0, 0) 0), .c (.d (.i .i64 y.2)), .c (.d (.i .i64 y.1))]) (fun _ => [.box [.d (.i .i64 t.fKind), .d (.s t.fName), .d (.sl (t.fArgs.map MType.enc))]] :: S)
        (fun y => y.1 ≤ t.fArgs.length ∧ countV v t = y.2 + countVL v (t.fArgs.drop y.1)) (fun y => t.fArgs.length - y.1) (0, _) rfl rfl ⟨Nat.zero_le _, hc⟩ ?_
      rintro ⟨i, c⟩ ⟨p1, p2⟩
      simp only at p1 p2
      simp -implicitDefEqProofs (disch := omega) only [go_sem]
      with_reducible refine split2 (fun hb => ?_) (fun hb => ?_) <;> have h := hb <;> (try simp only [wf_preprocess] at h) <;> simp -implicitDefEqProofs (disch := omega) only [go_sem, hb] <;> (repeat (with_reducible refine And.intro ?_ ?_; focus first | omega | rfl | assumption | exact ⟨_, rfl, rfl⟩ | (simp; omega) | (simp; done)))
      · have hi : i < t.fArgs.length := by omega
        rw [countVL_drop hi] at p2
        (repeat (with_reducible refine And.intro ?_ ?_; focus first | omega | rfl | assumption | exact ⟨_, rfl, rfl⟩ | (simp; omega) | (simp; done)))
        refine call_w (ih t.fArgs[i] (by have := List.sizeOf_lt_of_mem (List.getElem_mem hi); omega) (arg_szT hi hsz).1 v) ?_
        simp -implicitDefEqProofs (disch := omega) only [go_sem] <;> (repeat (with_reducible refine And.intro ?_ ?_; focus first | omega | rfl | assumption | exact ⟨_, rfl, rfl⟩ | (simp; omega) | (simp; done)))
        rw [show (c : Int) + (countV v t.fArgs[i] : Int) = ((c + countV v t.fArgs[i] : Nat) : Int) by omega]
        exact inv_at (i + 1, c + countV v t.fArgs[i]) (by simp only; omega) rfl rfl ⟨by simp only; omega, by simp only; omega⟩
      · have hi : i = t.fArgs.length := by omega
        rw [hi, List.drop_length] at p2
        have h0 : countVL v [] = 0 := rfl
        exact int_eq (by omega)
theorem specOccurs_ok (v : List UInt8) (t : MType) (hsz : t.sz ≤ 4194304) : PCall Tryz.prog 72 [.c (.d (.s v)), t.v] (.c (.d (.b (occurs v t)))) := fun S => by
  refine acall_cw (rs := [.tmp 4]) Tryz.checked.mixed Tryz.func72 Tryz.ntmps72 rfl rfl rfl rfl rfl ?_
  simp -implicitDefEqProofs (disch := omega) only [go_sem]
  refine call_w (specCountV_all _ t (Nat.lt_succ_self _) hsz v) ?_
  simp -implicitDefEqProofs (disch := omega) only [go_sem] <;> (repeat (with_reducible refine And.intro ?_ ?_; focus first | omega | rfl | assumption | exact ⟨_, rfl, rfl⟩ | (simp; omega) | (simp; done)))
  exact bool_eq (by unfold occurs; rw [Bool.eq_iff_iff]; simp only [decide_eq_true_eq]; omega)
theorem countV1_step (v : List UInt8) (rest : List Ab.Obj) (cs : List C) (S : Store) : FStep Tryz.prog 244 [((0, 1), 0), ((0, 2), 0)] (fun c : Nat => (.box cs :: .box [.d (.s v)] :: .box [.d (.i .i64 c)] :: rest) :: S) (fun n c => c + n ≤ 1073741824) (fun c u => if isV v u then c + 1 else c) MType.v (fun u => u.sz ≤ 4194304) := by
  intro n c u hI hu
  refine ⟨by simp only; split <;> omega, fun F => ?_⟩
  simp only
  refine acall_cw (rs := []) Tryz.checked.mixed Tryz.func244 Tryz.ntmps244 rfl rfl rfl rfl rfl ?_
  simp -implicitDefEqProofs (disch := omega) only [go_sem]
  repeat' (first | (with_reducible refine split2 (fun hb => ?_) (fun hb => ?_) <;> have h := hb <;> (try simp only [wf_preprocess] at h) <;> simp -implicitDefEqProofs (disch := omega) only [go_sem, hb] <;> (repeat (with_reducible refine And.intro ?_ ?_; focus first | omega | rfl | assumption | exact ⟨_, rfl, rfl⟩ | (simp; omega) | (simp; done)))))
  all_goals first
    | (rw [if_pos (show isV v u = true by simp only [isV, decide_eq_true_eq]; exact ⟨by assumption, by assumption⟩)]; done)
    | (rw [if_pos (show isV v u = true by simp only [isV, decide_eq_true_eq]; exact ⟨by assumption, by assumption⟩)]; rfl)
    | (rw [if_neg (show ¬ isV v u = true by simp only [isV, decide_eq_true_eq]; exact fun x => by have := x.1; have := x.2; contradiction)]; done)
    | (rw [if_neg (show ¬ isV v u = true by simp only [isV, decide_eq_true_eq]; exact fun x => by have := x.1; have := x.2; contradiction)]; rfl)
theorem implCountV_ok (t : MType) (hsz : t.sz ≤ 4194304) (v : List UInt8) : PCall Tryz.prog 242 [t.v, .c (.d (.s v))] (.c (.d (.i .i64 (countV v t)))) := fun S => by
  have hcn := cnt_le t
  refine acall_cw (rs := [.tmp 4]) Tryz.checked.mixed Tryz.func242 Tryz.ntmps242 rfl rfl rfl rfl rfl ?_
  simp -implicitDefEqProofs (disch := omega) only [go_sem]
  (repeat (with_reducible refine And.intro ?_ ?_; focus first | omega | rfl | assumption | exact ⟨_, rfl, rfl⟩ | (simp; omega) | (simp; done)))
  refine call_d rfl (eachType_ok hsz (countV1_step v [] [.d (.i .i64 t.fKind), .d (.s t.fName), .d (.sl (t.fArgs.map MType.enc))] S) 0 0 (by omega)).2 ?_
  simp -implicitDefEqProofs (disch := omega) only [go_sem]
  rw [countV_fold, Nat.zero_add]
  rfl
theorem implOccurs_ok (v : List UInt8) (t : MType) (hsz : t.sz ≤ 4194304) : PCall Tryz.prog 239 [.c (.d (.s v)), t.v] (.c (.d (.b (occurs v t)))) := fun S => by
  refine acall_cw (rs := [.tmp 4]) Tryz.checked.mixed Tryz.func239 Tryz.ntmps239 rfl rfl rfl rfl rfl ?_
  simp -implicitDefEqProofs (disch := omega) only [go_sem]
  refine call_w (implCountV_ok t hsz v) ?_
  simp -implicitDefEqProofs (disch := omega) only [go_sem] <;> (repeat (with_reducible refine And.intro ?_ ?_; focus first | omega | rfl | assumption | exact ⟨_, rfl, rfl⟩ | (simp; omega) | (simp; done)))
  exact bool_eq (by unfold occurs; rw [Bool.eq_iff_iff]; simp only [decide_eq_true_eq]; omega)
end Go.Proofs.YtjfhgcnoielpfaaGreat

namespace Go.Ab
theorem MTrait.bounds {x : MTrait} (h : x.sz ≤ 4194304) : x.fName.length ≤ 4194304 ∧ x.fSupertraits.length ≤ 4194304 ∧ x.fSignatures.length ≤ 4194304 := by
  simp only [MTrait.sz, MTrait.enc_eq, szRow, szRow_append, D.sz, List.length_map] at h
  omega
theorem MTrait.sig_b {x : MTrait} {i : Nat} (hi : i < x.fSignatures.length) (h : x.sz ≤ 4194304) : x.fSignatures[i].sz ≤ 4194304 := by
  have hx : x.fSignatures[i].sz ≤ szRows (x.fSignatures.map MSignature.enc) := szRows_mem (List.mem_map_of_mem (List.getElem_mem hi))
  simp only [MTrait.sz, MTrait.enc_eq, szRow, szRow_append, D.sz, List.length_map] at h
  omega
theorem MSignature.bounds {x : MSignature} (h : x.sz ≤ 4194304) : x.fName.length ≤ 4194304 ∧ x.fParams.length ≤ 4194304 ∧ x.fResult.sz ≤ 4194304 ∧ x.fVars.length ≤ 4194304 ∧ x.fBody.sz ≤ 4194304 ∧ ∀ t ∈ x.fParams, t.sz ≤ 4194304 := by
  simp only [MSignature.sz, MSignature.enc_eq, szRow, szRow_append, D.sz, List.length_map, MType.sz_def, MExpr.sz_def] at h
  refine ⟨by omega, by omega, by omega, by omega, by omega, fun t ht => ?_⟩
  have hx : t.sz ≤ szRows (x.fParams.map MType.enc) := szRows_mem (List.mem_map_of_mem ht)
  omega
end Go.Ab
namespace Go.Proofs.YtjfhgcnoielpfaaGreat
open Go Go.Ab
theorem specDynSafe_ok (t : MTrait) (hsz : t.sz ≤ 4194304) : PCall Tryz.prog 192 [t.v] (.c (.d (.b (dynSafe t)))) := fun S => by
  have hts := MTrait.bounds hsz
  have bad : ∀ i, ∀ hi : i < t.fSignatures.length, mentions t.fSignatures[i] = true → dynSafe t = false := fun i hi h => by
    unfold dynSafe
    rw [show t.fSignatures.any mentions = true from List.any_eq_true.2 ⟨_, List.getElem_mem hi, h⟩]
    simp
  refine acall_cw (rs := [.tmp 2]) Tryz.checked.mixed Tryz.func192 Tryz.ntmps192 rfl rfl rfl rfl rfl ?_
  simp -implicitDefEqProofs (disch := omega) only [go_sem]
  refine loop_at (ι := Nat) Tryz.checked.mixed rfl [1, 3] (fun i => [.c (.ptr (0, 0) 0), .c (.d (.i .i64 i))]) (fun _ => [.box (t.enc.map .d)] :: S)
    (fun i => i ≤ t.fSignatures.length ∧ ∀ j, ∀ hj : j < t.fSignatures.length, j < i → mentions t.fSignatures[j] = false) (fun i => t.fSignatures.length - i) 0 rfl ?_ ⟨Nat.zero_le _, fun j _ h => by omega⟩ ?_
  · simp -implicitDefEqProofs (disch := omega) only [go_sem]
  rintro i ⟨p1, p2⟩
  simp -implicitDefEqProofs (disch := omega) only [go_sem]
  with_reducible refine split2 (fun hb => ?_) (fun hb => ?_) <;> have h := hb <;> (try simp only [wf_preprocess] at h) <;> simp -implicitDefEqProofs (disch := omega) only [go_sem, hb] <;> (repeat (with_reducible refine And.intro ?_ ?_; focus first | omega | rfl | assumption | exact ⟨_, rfl, rfl⟩ | (simp; omega) | (simp; done)))
  · have hi : i < t.fSignatures.length := by omega
    have hg := MSignature.bounds (MTrait.sig_b hi hsz)
    (repeat (with_reducible refine And.intro ?_ ?_; focus first | omega | rfl | assumption | exact ⟨_, rfl, rfl⟩ | (simp; omega) | (simp; done)))
    refine call_w (specOccurs_ok selfN t.fSignatures[i].fResult (by omega)) ?_
    simp -implicitDefEqProofs (disch := omega) only [go_sem] <;> (repeat (with_reducible refine And.intro ?_ ?_; focus first | omega | rfl | assumption | exact ⟨_, rfl, rfl⟩ | (simp; omega) | (simp; done)))
    with_reducible refine split2 (fun hb => ?_) (fun hb => ?_) <;> have h := hb <;> (try simp only [wf_preprocess] at h) <;> simp -implicitDefEqProofs (disch := omega) only [go_sem, hb] <;> (repeat (with_reducible refine And.intro ?_ ?_; focus first | omega | rfl | assumption | exact ⟨_, rfl, rfl⟩ | (simp; omega) | (simp; done)))
    · rw [bad i hi (by unfold mentions; rw [h]; rfl)]
    have hr := h
    refine loop_at (ι := Nat) Tryz.checked.mixed rfl [1, 3, 4] (fun k => [.c (.ptr (0, 0) 0), .c (.d (.i .i64 i)), .c (.d (.i .i64 k))]) (fun _ => [.box (t.enc.map .d)] :: S)
      (fun k => k ≤ t.fSignatures[i].fParams.length ∧ ∀ j, ∀ hj : j < t.fSignatures[i].fParams.length, j < k → occurs selfN t.fSignatures[i].fParams[j] = false) (fun k => t.fSignatures[i].fParams.length - k) 0 rfl ?_ ⟨Nat.zero_le _, fun j _ h => by omega⟩ ?_
    · simp -implicitDefEqProofs (disch := omega) only [go_sem]
    rintro k ⟨q1, q2⟩
    simp -implicitDefEqProofs (disch := omega) only [go_sem]
    (repeat (with_reducible refine And.intro ?_ ?_; focus first | omega | rfl | assumption | exact ⟨_, rfl, rfl⟩ | (simp; omega) | (simp; done)))
    with_reducible refine split2 (fun hb => ?_) (fun hb => ?_) <;> have h := hb <;> (try simp only [wf_preprocess] at h) <;> simp -implicitDefEqProofs (disch := omega) only [go_sem, hb] <;> (repeat (with_reducible refine And.intro ?_ ?_; focus first | omega | rfl | assumption | exact ⟨_, rfl, rfl⟩ | (simp; omega) | (simp; done)))
    · have hk : k < t.fSignatures[i].fParams.length := by omega
      (repeat (with_reducible refine And.intro ?_ ?_; focus first | omega | rfl | assumption | exact ⟨_, rfl, rfl⟩ | (simp; omega) | (simp; done)))
      refine call_w (specOccurs_ok selfN t.fSignatures[i].fParams[k] (hg.2.2.2.2.2 _ (List.getElem_mem hk))) ?_
      simp -implicitDefEqProofs (disch := omega) only [go_sem] <;> (repeat (with_reducible refine And.intro ?_ ?_; focus first | omega | rfl | assumption | exact ⟨_, rfl, rfl⟩ | (simp; omega) | (simp; done)))
      with_reducible refine split2 (fun hb => ?_) (fun hb => ?_) <;> have h := hb <;> (try simp only [wf_preprocess] at h) <;> simp -implicitDefEqProofs (disch := omega) only [go_sem, hb] <;> (repeat (with_reducible refine And.intro ?_ ?_; focus first | omega | rfl | assumption | exact ⟨_, rfl, rfl⟩ | (simp; omega) | (simp; done)))
      · rw [bad i hi (by unfold mentions; rw [show t.fSignatures[i].fParams.any (occurs selfN) = true from List.any_eq_true.2 ⟨_, List.getElem_mem hk, h⟩]; simp)]
      · refine inv_at (k + 1) (by omega) rfl rfl ⟨by omega, fun j hj hjk => ?_⟩
        by_cases e : j = k
        · subst e; exact h
        · exact q2 j hj (by omega)
    · refine inv_at (i + 1) (by omega) rfl rfl ⟨by omega, fun j hj hji => ?_⟩
      by_cases e : j = i
      · subst e
        unfold mentions
        rw [hr, Bool.false_or]
        refine Bool.eq_false_iff.2 fun hx => ?_
        obtain ⟨u, hu, ho⟩ := List.any_eq_true.1 hx
        obtain ⟨m, hm, e⟩ := List.getElem_of_mem hu
        rw [← e, q2 m hm (by omega)] at ho
        cases ho
      · exact p2 j hj (by omega)
  · have hn : t.fSignatures.any mentions = false := Bool.eq_false_iff.2 fun hx => by
      obtain ⟨u, hu, ho⟩ := List.any_eq_true.1 hx
      obtain ⟨m, hm, e⟩ := List.getElem_of_mem hu
      rw [← e, p2 m hm (by omega)] at ho
      cases ho
    exact bool_eq (by unfold dynSafe; rw [hn]; simp)
theorem mentionsSelf_ok (g : MSignature) (hsz : g.sz ≤ 4194304) : PCall Tryz.prog 233 [g.v] (.c (.d (.b (mentions g)))) := fun S => by
  have hg := MSignature.bounds hsz
  have hcl : ∀ x ∈ g.fParams, PCall Tryz.prog 240 [x.v] (.c (.d (.b (occurs selfN x)))) := fun x hx S => by
    refine acall_cw (rs := [.tmp 2]) Tryz.checked.mixed Tryz.func240 Tryz.ntmps240 rfl rfl rfl rfl rfl ?_
    simp -implicitDefEqProofs (disch := omega) only [go_sem]
    refine call_w (implOccurs_ok selfN x (hg.2.2.2.2.2 x hx)) ?_
    simp -implicitDefEqProofs (disch := omega) only [go_sem] <;> (repeat (with_reducible refine And.intro ?_ ?_; focus first | omega | rfl | assumption | exact ⟨_, rfl, rfl⟩ | (simp; omega) | (simp; done)))
  refine acall_cw (rs := [.tmp 2]) Tryz.checked.mixed Tryz.func233 Tryz.ntmps233 rfl rfl rfl rfl rfl ?_
  simp -implicitDefEqProofs (disch := omega) only [go_sem]
  refine call_w (implOccurs_ok selfN g.fResult (by omega)) ?_
  simp -implicitDefEqProofs (disch := omega) only [go_sem] <;> (repeat (with_reducible refine And.intro ?_ ?_; focus first | omega | rfl | assumption | exact ⟨_, rfl, rfl⟩ | (simp; omega) | (simp; done)))
  with_reducible refine split2 (fun hb => ?_) (fun hb => ?_) <;> have h := hb <;> (try simp only [wf_preprocess] at h) <;> simp -implicitDefEqProofs (disch := omega) only [go_sem, hb] <;> (repeat (with_reducible refine And.intro ?_ ?_; focus first | omega | rfl | assumption | exact ⟨_, rfl, rfl⟩ | (simp; omega) | (simp; done)))
  · exact bool_eq (by unfold mentions; rw [h]; rfl)
  · refine call_d rfl (containsFuncType_ok 240 [] _ g.fParams (occurs selfN) (by omega) fun x hx => FPure.of_pure (hcl x hx)) ?_
    simp -implicitDefEqProofs (disch := omega) only [go_sem]
    exact bool_eq (by unfold mentions; rw [h]; rfl)
theorem implDynSafe_ok (t : MTrait) (hsz : t.sz ≤ 4194304) : PCall Tryz.prog 221 [t.v] (.c (.d (.b (dynSafe t)))) := fun S => by
  have hts := MTrait.bounds hsz
  refine acall_cw (rs := [.tmp 2]) Tryz.checked.mixed Tryz.func221 Tryz.ntmps221 rfl rfl rfl rfl rfl ?_
  simp -implicitDefEqProofs (disch := omega) only [go_sem]
  with_reducible refine split2 (fun hb => ?_) (fun hb => ?_) <;> have h := hb <;> (try simp only [wf_preprocess] at h) <;> simp -implicitDefEqProofs (disch := omega) only [go_sem, hb] <;> (repeat (with_reducible refine And.intro ?_ ?_; focus first | omega | rfl | assumption | exact ⟨_, rfl, rfl⟩ | (simp; omega) | (simp; done)))
  · refine call_d rfl (containsFuncSignature_ok 233 [] _ t.fSignatures mentions (by omega) fun x hx => FPure.of_pure (mentionsSelf_ok x (by obtain ⟨i, hi, e⟩ := List.getElem_of_mem hx; rw [← e]; exact MTrait.sig_b hi hsz))) ?_
    simp -implicitDefEqProofs (disch := omega) only [go_sem]
    exact bool_eq (by unfold dynSafe; rw [h]; rfl)
  · exact bool_eq (by unfold dynSafe; rw [h]; rfl)
end Go.Proofs.YtjfhgcnoielpfaaGreat

namespace Go.Ab
noncomputable def seesO {α : Type} (w : MProgram) (i : Int) : Option (α × Nat) → Bool
  | some (_, p) => dec (isVis w i p)
  | none => false
abbrev viewV (w : MProgram) (vis : List Int) : V := .agg [.d (.sl (w.fPackages.map MPackage.enc)), .d (.sl (vis.map encI))]
theorem seesO_split {α : Type} (w : MProgram) (i : Int) (r : Option (α × Nat)) : seesO w i r = (r.isSome && dec (idxO r ∈ visI w i)) := by
  cases r with
  | none => rfl
  | some x => obtain ⟨t, p⟩ := x; simp only [seesO, Option.isSome_some, Bool.true_and, idxO]; exact dec_congr mem_visI.symm
noncomputable def dynCode (w : MProgram) (i : Int) (name : List UInt8) : Int :=
  if seesO w i (traitAt w name) = true then (match traitAt w name with | some (t, _) => if dynSafe t = true then 0 else 5 | none => 3) else 3
noncomputable def ownCode (w : MProgram) (i : Int) (k : Int) (name : List UInt8) (n : Nat) : Int :=
  if k = 1 then 0 else if k = 2 then (if builtInB name = true then 0 else if seesO w i (dataAt w name) = true then (match dataAt w name with | some (d, _) => if n = d.fVars.length then 0 else 2 | none => 1) else 1)
  else if k = 3 then (if seesO w i (traitAt w name) = true then (match traitAt w name with | some (t, _) => if t.fAssoc = true then 0 else 4 | none => 3) else 3)
  else if k = 4 then dynCode w i name else 1
mutual
noncomputable def tyCode (w : MProgram) (i : Int) : MType → Int
  | .mk k n a => if ownCode w i k n a.length = 0 then tyCodes w i a else ownCode w i k n a.length
noncomputable def tyCodes (w : MProgram) (i : Int) : List MType → Int
  | [] => 0
  | t :: ts => if tyCode w i t = 0 then tyCodes w i ts else tyCode w i t
end
theorem tyCode_eq (w : MProgram) (i : Int) (t : MType) : tyCode w i t = if ownCode w i t.fKind t.fName t.fArgs.length = 0 then tyCodes w i t.fArgs else ownCode w i t.fKind t.fName t.fArgs.length := by cases t; rw [tyCode]; rfl
theorem tyCodes_drop {w : MProgram} {i : Int} {ts : List MType} {k : Nat} (hk : k < ts.length) : tyCodes w i (ts.drop k) = if tyCode w i ts[k] = 0 then tyCodes w i (ts.drop (k + 1)) else tyCode w i ts[k] := by
  rw [List.drop_eq_getElem_cons hk, tyCodes]
theorem seesO_some {α : Type} {w : MProgram} {i : Int} {r : Option (α × Nat)} (h : seesO w i r = true) : ∃ t p, r = some (t, p) := by
  cases r with
  | none => cases h
  | some x => exact ⟨x.1, x.2, rfl⟩
theorem traitAt_sz {w : MProgram} {name : List UInt8} {t : MTrait} {p : Nat} (h : traitAt w name = some (t, p)) (hsz : w.sz ≤ 4194304) : t.sz ≤ 4194304 := by
  obtain ⟨q, h1, h2⟩ := findP_mem h
  have a : q.sz ≤ szRows (w.fPackages.map MPackage.enc) := szRows_mem (List.mem_map_of_mem h1)
  have b : t.sz ≤ szRows (q.fTraits.map MTrait.enc) := szRows_mem (List.mem_map_of_mem h2)
  simp only [MProgram.sz, MProgram.enc_eq, szRow, szRow_append, D.sz, List.length_map] at hsz
  simp only [MPackage.sz, MPackage.enc_eq, szRow, szRow_append, D.sz, List.length_map] at a
  omega
theorem dataAt_sz {w : MProgram} {name : List UInt8} {t : MDataType} {p : Nat} (h : dataAt w name = some (t, p)) (hsz : w.sz ≤ 4194304) : t.sz ≤ 4194304 := by
  obtain ⟨q, h1, h2⟩ := findP_mem h
  have a : q.sz ≤ szRows (w.fPackages.map MPackage.enc) := szRows_mem (List.mem_map_of_mem h1)
  have b : t.sz ≤ szRows (q.fDataTypes.map MDataType.enc) := szRows_mem (List.mem_map_of_mem h2)
  simp only [MProgram.sz, MProgram.enc_eq, szRow, szRow_append, D.sz, List.length_map] at hsz
  simp only [MPackage.sz, MPackage.enc_eq, szRow, szRow_append, D.sz, List.length_map] at a
  omega
theorem MDataType.vars_len {d : MDataType} (h : d.sz ≤ 4194304) : d.fVars.length ≤ 4194304 := by
  simp only [MDataType.sz, MDataType.enc_eq, szRow, szRow_append, D.sz, List.length_map] at h
  omega
end Go.Ab
namespace Go.Proofs.YtjfhgcnoielpfaaGreat
open Go Go.Ab
theorem viewOf_ok (w : MProgram) (i : Int) (hsz : w.sz ≤ 4194304) (hi : -9223372036854775808 ≤ i ∧ i ≤ 9223372036854775807) : PCall Tryz.prog 90 [w.v, .c (.d (.i .i64 i))] (viewV w (visI w i)) := fun S => by
  refine acall_cw (rs := [.cell 4 144]) Tryz.checked.mixed Tryz.func90 Tryz.ntmps90 rfl rfl rfl rfl rfl ?_
  simp -implicitDefEqProofs (disch := omega) only [go_sem]
  refine call_w (implVisI_ok w i hsz hi) ?_
  simp -implicitDefEqProofs (disch := omega) only [go_sem]
theorem sees_ok (w : MProgram) (vis : List Int) (hl : vis.length ≤ 1073741824) (k : Int) : PCall Tryz.prog 198 [viewV w vis, .c (.d (.i .i64 k))] (.c (.d (.b (dec (k ∈ vis))))) := fun S => by
  refine acall_cw (rs := [.tmp 4]) Tryz.checked.mixed Tryz.func198 Tryz.ntmps198 rfl rfl rfl rfl rfl ?_
  simp -implicitDefEqProofs (disch := omega) only [go_sem]
  refine call_w (containsI_ok vis k hl) ?_
  simp -implicitDefEqProofs (disch := omega) only [go_sem] <;> (repeat (with_reducible refine And.intro ?_ ?_; focus first | omega | rfl | assumption | exact ⟨_, rfl, rfl⟩ | (simp; omega) | (simp; done)))
theorem viewTrait_ok (w : MProgram) (i : Int) (name : List UInt8) (hsz : w.sz ≤ 4194304) : PCall Tryz.prog 154 [viewV w (visI w i), .c (.d (.s name))] (.tup [(true, trC (traitAt w name)), (false, [.d (.b (seesO w i (traitAt w name)))])]) := fun S => by
  have hb0 := MProgram.bounds hsz
  have hl := visI_len (w := w) (i := i) hb0
  have hs := seesO_split w i (traitAt w name)
  refine acall_cwl (rs := [.cell 4 57, .tmp 5]) Tryz.checked.mixed Tryz.func154 Tryz.ntmps154 rfl rfl rfl rfl rfl ?_
  simp -implicitDefEqProofs (disch := omega) only [go_sem]
  refine call_w (implTrAt_ok w name hsz) ?_
  generalize traitAt w name = r at hs ⊢
  cases r with
  | none =>
    simp -implicitDefEqProofs (disch := omega) only [go_sem, trC, idxO, Option.isSome_none]
    refine ⟨by rfl, ?_⟩
    simp -implicitDefEqProofs (disch := omega) only [go_sem]
    rfl
  | some x =>
    obtain ⟨t, p⟩ := x
    simp -implicitDefEqProofs (disch := omega) only [go_sem, trC, idxO, Option.isSome_some]
    refine call_w (sees_ok w (visI w i) (by omega) p) ?_
    simp -implicitDefEqProofs (disch := omega) only [go_sem]
    refine ⟨by rfl, ?_⟩
    simp -implicitDefEqProofs (disch := omega) only [go_sem]
    rw [hs]
    rfl
theorem viewData_ok (w : MProgram) (i : Int) (name : List UInt8) (hsz : w.sz ≤ 4194304) : PCall Tryz.prog 195 [viewV w (visI w i), .c (.d (.s name))] (.tup [(true, dtC (dataAt w name)), (false, [.d (.b (seesO w i (dataAt w name)))])]) := fun S => by
  have hb0 := MProgram.bounds hsz
  have hl := visI_len (w := w) (i := i) hb0
  have hs := seesO_split w i (dataAt w name)
  refine acall_cwl (rs := [.cell 4 208, .tmp 5]) Tryz.checked.mixed Tryz.func195 Tryz.ntmps195 rfl rfl rfl rfl rfl ?_
  simp -implicitDefEqProofs (disch := omega) only [go_sem]
  refine call_w (implDtAt_ok w name hsz) ?_
  generalize dataAt w name = r at hs ⊢
  cases r with
  | none =>
    simp -implicitDefEqProofs (disch := omega) only [go_sem, dtC, idxO, Option.isSome_none]
    refine ⟨by rfl, ?_⟩
    simp -implicitDefEqProofs (disch := omega) only [go_sem]
    rfl
  | some x =>
    obtain ⟨t, p⟩ := x
    simp -implicitDefEqProofs (disch := omega) only [go_sem, dtC, idxO, Option.isSome_some]
    refine call_w (sees_ok w (visI w i) (by omega) p) ?_
    simp -implicitDefEqProofs (disch := omega) only [go_sem]
    refine ⟨by rfl, ?_⟩
    simp -implicitDefEqProofs (disch := omega) only [go_sem]
    rw [hs]
    rfl
theorem l18Trait_ok (w : MProgram) (i : Int) (name : List UInt8) (hsz : w.sz ≤ 4194304) (hi : -9223372036854775808 ≤ i ∧ i ≤ 9223372036854775807) : PCall Tryz.prog 93 [w.v, .c (.d (.i .i64 i)), .c (.d (.s name))] (.tup [(true, trC (traitAt w name)), (false, [.d (.b (seesO w i (traitAt w name)))])]) := fun S => by
  refine acall_cwl (rs := [.cell 6 57, .tmp 7]) Tryz.checked.mixed Tryz.func93 Tryz.ntmps93 rfl rfl rfl rfl rfl ?_
  simp -implicitDefEqProofs (disch := omega) only [go_sem]
  refine call_w (specTrAt_ok w name hsz) ?_
  generalize traitAt w name = r
  cases r with
  | none =>
    simp -implicitDefEqProofs (disch := omega) only [go_sem, trC, idxO, Option.isSome_none]
    refine ⟨by rfl, ?_⟩
    simp -implicitDefEqProofs (disch := omega) only [go_sem]
    rfl
  | some x =>
    obtain ⟨t, p⟩ := x
    simp -implicitDefEqProofs (disch := omega) only [go_sem, trC, idxO, Option.isSome_some]
    refine call_w (specIsVis_ok w i p hsz hi) ?_
    simp -implicitDefEqProofs (disch := omega) only [go_sem]
    refine ⟨by rfl, ?_⟩
    simp -implicitDefEqProofs (disch := omega) only [go_sem]
    rfl
theorem l18Data_ok (w : MProgram) (i : Int) (name : List UInt8) (hsz : w.sz ≤ 4194304) (hi : -9223372036854775808 ≤ i ∧ i ≤ 9223372036854775807) : PCall Tryz.prog 150 [w.v, .c (.d (.i .i64 i)), .c (.d (.s name))] (.tup [(true, dtC (dataAt w name)), (false, [.d (.b (seesO w i (dataAt w name)))])]) := fun S => by
  refine acall_cwl (rs := [.cell 6 208, .tmp 7]) Tryz.checked.mixed Tryz.func150 Tryz.ntmps150 rfl rfl rfl rfl rfl ?_
  simp -implicitDefEqProofs (disch := omega) only [go_sem]
  refine call_w (specDtAt_ok w name hsz) ?_
  generalize dataAt w name = r
  cases r with
  | none =>
    simp -implicitDefEqProofs (disch := omega) only [go_sem, dtC, idxO, Option.isSome_none]
    refine ⟨by rfl, ?_⟩
    simp -implicitDefEqProofs (disch := omega) only [go_sem]
    rfl
  | some x =>
    obtain ⟨t, p⟩ := x
    simp -implicitDefEqProofs (disch := omega) only [go_sem, dtC, idxO, Option.isSome_some]
    refine call_w (specIsVis_ok w i p hsz hi) ?_
    simp -implicitDefEqProofs (disch := omega) only [go_sem]
    refine ⟨by rfl, ?_⟩
    simp -implicitDefEqProofs (disch := omega) only [go_sem]
    rfl
end Go.Proofs.YtjfhgcnoielpfaaGreat

namespace Go.Proofs.YtjfhgcnoielpfaaGreat
open Go Go.Ab
theorem viewDyn_ok (w : MProgram) (i : Int) (name : List UInt8) (hsz : w.sz ≤ 4194304) : PCall Tryz.prog 196 [viewV w (visI w i), .c (.d (.s name))] (.c (.d (.i .i64 (dynCode w i name)))) := fun S => by
  refine acall_cw (rs := [.tmp 4]) Tryz.checked.mixed Tryz.func196 Tryz.ntmps196 rfl rfl rfl rfl rfl ?_
  simp -implicitDefEqProofs (disch := omega) only [go_sem]
  refine call_w (viewTrait_ok w i name hsz) ?_
  simp -implicitDefEqProofs (disch := omega) only [go_sem]
  cases hs : seesO w i (traitAt w name) with
  | false =>
    cases hr : traitAt w name <;> (simp -implicitDefEqProofs (disch := omega) only [go_sem, trC]; exact int_eq (by unfold dynCode; rw [hs]; rfl))
  | true =>
    obtain ⟨t, p, ht⟩ := seesO_some hs
    have hd : dynCode w i name = if dynSafe t = true then 0 else 5 := by unfold dynCode; rw [if_pos hs, ht]
    simp -implicitDefEqProofs (disch := omega) only [go_sem, ht, trC]
    refine call_w (implDynSafe_ok t (traitAt_sz ht hsz)) ?_
    simp -implicitDefEqProofs (disch := omega) only [go_sem]
    with_reducible refine split2 (fun hb => ?_) (fun hb => ?_) <;> have h := hb <;> (try simp only [wf_preprocess] at h) <;> simp -implicitDefEqProofs (disch := omega) only [go_sem, hb] <;> (repeat (with_reducible refine And.intro ?_ ?_; focus first | omega | rfl | assumption | exact ⟨_, rfl, rfl⟩ | (simp; omega) | (simp; done)))
    · exact int_eq (by rw [hd, h]; rfl)
    · exact int_eq (by rw [hd, h]; rfl)
theorem l18Dyn_ok (w : MProgram) (i : Int) (name : List UInt8) (hsz : w.sz ≤ 4194304) (hi : -9223372036854775808 ≤ i ∧ i ≤ 9223372036854775807) : PCall Tryz.prog 148 [w.v, .c (.d (.i .i64 i)), .c (.d (.s name))] (.c (.d (.i .i64 (dynCode w i name)))) := fun S => by
  refine acall_cw (rs := [.tmp 6]) Tryz.checked.mixed Tryz.func148 Tryz.ntmps148 rfl rfl rfl rfl rfl ?_
  simp -implicitDefEqProofs (disch := omega) only [go_sem]
  refine call_w (l18Trait_ok w i name hsz hi) ?_
  simp -implicitDefEqProofs (disch := omega) only [go_sem]
  cases hs : seesO w i (traitAt w name) with
  | false =>
    cases hr : traitAt w name <;> (simp -implicitDefEqProofs (disch := omega) only [go_sem, trC]; exact int_eq (by unfold dynCode; rw [hs]; rfl))
  | true =>
    obtain ⟨t, p, ht⟩ := seesO_some hs
    have hd : dynCode w i name = if dynSafe t = true then 0 else 5 := by unfold dynCode; rw [if_pos hs, ht]
    simp -implicitDefEqProofs (disch := omega) only [go_sem, ht, trC]
    refine call_w (specDynSafe_ok t (traitAt_sz ht hsz)) ?_
    simp -implicitDefEqProofs (disch := omega) only [go_sem]
    with_reducible refine split2 (fun hb => ?_) (fun hb => ?_) <;> have h := hb <;> (try simp only [wf_preprocess] at h) <;> simp -implicitDefEqProofs (disch := omega) only [go_sem, hb] <;> (repeat (with_reducible refine And.intro ?_ ?_; focus first | omega | rfl | assumption | exact ⟨_, rfl, rfl⟩ | (simp; omega) | (simp; done)))
    · exact int_eq (by rw [hd, h]; rfl)
    · exact int_eq (by rw [hd, h]; rfl)
theorem checkOwn_ok (w : MProgram) (i : Int) (t : MType) (hsz : w.sz ≤ 4194304) (ht : t.sz ≤ 4194304) : PCall Tryz.prog 151 [viewV w (visI w i), t.v] (.c (.d (.i .i64 (ownCode w i t.fKind t.fName t.fArgs.length)))) := fun S => by
  have hl := ty_szT ht
  refine acall_cw (rs := [.tmp 4]) Tryz.checked.mixed Tryz.func151 Tryz.ntmps151 rfl rfl rfl rfl rfl ?_
  simp -implicitDefEqProofs (disch := omega) only [go_sem]
  with_reducible refine split2 (fun hb => ?_) (fun hb => ?_) <;> have h := hb <;> (try simp only [wf_preprocess] at h) <;> simp -implicitDefEqProofs (disch := omega) only [go_sem, hb] <;> (repeat (with_reducible refine And.intro ?_ ?_; focus first | omega | rfl | assumption | exact ⟨_, rfl, rfl⟩ | (simp; omega) | (simp; done)))
  · exact int_eq (by unfold ownCode; rw [if_pos h])
  have k1 := h
  with_reducible refine split2 (fun hb => ?_) (fun hb => ?_) <;> have h := hb <;> (try simp only [wf_preprocess] at h) <;> simp -implicitDefEqProofs (disch := omega) only [go_sem, hb] <;> (repeat (with_reducible refine And.intro ?_ ?_; focus first | omega | rfl | assumption | exact ⟨_, rfl, rfl⟩ | (simp; omega) | (simp; done)))
  · have k2 := h
    refine call_w (isBuiltIn_ok t.fName) ?_
    simp -implicitDefEqProofs (disch := omega) only [go_sem] <;> (repeat (with_reducible refine And.intro ?_ ?_; focus first | omega | rfl | assumption | exact ⟨_, rfl, rfl⟩ | (simp; omega) | (simp; done)))
    with_reducible refine split2 (fun hb => ?_) (fun hb => ?_) <;> have h := hb <;> (try simp only [wf_preprocess] at h) <;> simp -implicitDefEqProofs (disch := omega) only [go_sem, hb] <;> (repeat (with_reducible refine And.intro ?_ ?_; focus first | omega | rfl | assumption | exact ⟨_, rfl, rfl⟩ | (simp; omega) | (simp; done)))
    · exact int_eq (by unfold ownCode; rw [if_neg k1, if_pos k2, if_pos h])
    have k3 : ¬ builtInB t.fName = true := by rw [h]; simp
    refine call_w (viewData_ok w i t.fName hsz) ?_
    simp -implicitDefEqProofs (disch := omega) only [go_sem]
    cases hs : seesO w i (dataAt w t.fName) with
    | false =>
      cases hr : dataAt w t.fName <;> (simp -implicitDefEqProofs (disch := omega) only [go_sem, dtC]; exact int_eq (by unfold ownCode; rw [if_neg k1, if_pos k2, if_neg k3, if_neg (by rw [hs]; simp)]))
    | true =>
      obtain ⟨d, p, hd⟩ := seesO_some hs
      have hdl := MDataType.vars_len (dataAt_sz hd hsz)
      have he : ownCode w i t.fKind t.fName t.fArgs.length = if t.fArgs.length = d.fVars.length then 0 else 2 := by unfold ownCode; rw [if_neg k1, if_pos k2, if_neg k3, if_pos hs, hd]
      simp -implicitDefEqProofs (disch := omega) only [go_sem, hd, dtC]
      with_reducible refine split2 (fun hb => ?_) (fun hb => ?_) <;> have h := hb <;> (try simp only [wf_preprocess] at h) <;> simp -implicitDefEqProofs (disch := omega) only [go_sem, hb] <;> (repeat (with_reducible refine And.intro ?_ ?_; focus first | omega | rfl | assumption | exact ⟨_, rfl, rfl⟩ | (simp; omega) | (simp; done)))
      · exact int_eq (by rw [he, if_neg (by omega)])
      · exact int_eq (by rw [he, if_pos (by omega)])
  have k2 := h
  with_reducible refine split2 (fun hb => ?_) (fun hb => ?_) <;> have h := hb <;> (try simp only [wf_preprocess] at h) <;> simp -implicitDefEqProofs (disch := omega) only [go_sem, hb] <;> (repeat (with_reducible refine And.intro ?_ ?_; focus first | omega | rfl | assumption | exact ⟨_, rfl, rfl⟩ | (simp; omega) | (simp; done)))
  · have k3 := h
    refine call_w (viewTrait_ok w i t.fName hsz) ?_
    simp -implicitDefEqProofs (disch := omega) only [go_sem]
    cases hs : seesO w i (traitAt w t.fName) with
    | false =>
      cases hr : traitAt w t.fName <;> (simp -implicitDefEqProofs (disch := omega) only [go_sem, trC]; exact int_eq (by unfold ownCode; rw [if_neg k1, if_neg k2, if_pos k3, if_neg (by rw [hs]; simp)]))
    | true =>
      obtain ⟨d, p, hd⟩ := seesO_some hs
      have he : ownCode w i t.fKind t.fName t.fArgs.length = if d.fAssoc = true then 0 else 4 := by unfold ownCode; rw [if_neg k1, if_neg k2, if_pos k3, if_pos hs, hd]
      simp -implicitDefEqProofs (disch := omega) only [go_sem, hd, trC]
      with_reducible refine split2 (fun hb => ?_) (fun hb => ?_) <;> have h := hb <;> (try simp only [wf_preprocess] at h) <;> simp -implicitDefEqProofs (disch := omega) only [go_sem, hb] <;> (repeat (with_reducible refine And.intro ?_ ?_; focus first | omega | rfl | assumption | exact ⟨_, rfl, rfl⟩ | (simp; omega) | (simp; done)))
      · exact int_eq (by rw [he, h]; rfl)
      · exact int_eq (by rw [he, h]; rfl)
  have k3 := h
  with_reducible refine split2 (fun hb => ?_) (fun hb => ?_) <;> have h := hb <;> (try simp only [wf_preprocess] at h) <;> simp -implicitDefEqProofs (disch := omega) only [go_sem, hb] <;> (repeat (with_reducible refine And.intro ?_ ?_; focus first | omega | rfl | assumption | exact ⟨_, rfl, rfl⟩ | (simp; omega) | (simp; done)))
  · have k4 := h
    refine call_w (viewDyn_ok w i t.fName hsz) ?_
    simp -implicitDefEqProofs (disch := omega) only [go_sem]
    exact int_eq (by unfold ownCode; rw [if_neg k1, if_neg k2, if_neg k3, if_pos k4])
  · exact int_eq (by unfold ownCode; rw [if_neg k1, if_neg k2, if_neg k3, if_neg h])
theorem l18Here_ok (w : MProgram) (i : Int) (t : MType) (hsz : w.sz ≤ 4194304) (hi : -9223372036854775808 ≤ i ∧ i ≤ 9223372036854775807) (ht : t.sz ≤ 4194304) : PCall Tryz.prog 88 [w.v, .c (.d (.i .i64 i)), t.v] (.c (.d (.i .i64 (ownCode w i t.fKind t.fName t.fArgs.length)))) := fun S => by
  have hl := ty_szT ht
  refine acall_cw (rs := [.tmp 6]) Tryz.checked.mixed Tryz.func88 Tryz.ntmps88 rfl rfl rfl rfl rfl ?_
  simp -implicitDefEqProofs (disch := omega) only [go_sem]
  with_reducible refine split2 (fun hb => ?_) (fun hb => ?_) <;> have h := hb <;> (try simp only [wf_preprocess] at h) <;> simp -implicitDefEqProofs (disch := omega) only [go_sem, hb] <;> (repeat (with_reducible refine And.intro ?_ ?_; focus first | omega | rfl | assumption | exact ⟨_, rfl, rfl⟩ | (simp; omega) | (simp; done)))
  · exact int_eq (by unfold ownCode; rw [if_pos h])
  have k1 := h
  with_reducible refine split2 (fun hb => ?_) (fun hb => ?_) <;> have h := hb <;> (try simp only [wf_preprocess] at h) <;> simp -implicitDefEqProofs (disch := omega) only [go_sem, hb] <;> (repeat (with_reducible refine And.intro ?_ ?_; focus first | omega | rfl | assumption | exact ⟨_, rfl, rfl⟩ | (simp; omega) | (simp; done)))
  · have k4 := h
    refine call_w (l18Dyn_ok w i t.fName hsz hi) ?_
    simp -implicitDefEqProofs (disch := omega) only [go_sem]
    exact int_eq (by unfold ownCode; rw [if_neg k1, if_neg (by omega), if_neg (by omega), if_pos k4])
  have k4 := h
  with_reducible refine split2 (fun hb => ?_) (fun hb => ?_) <;> have h := hb <;> (try simp only [wf_preprocess] at h) <;> simp -implicitDefEqProofs (disch := omega) only [go_sem, hb] <;> (repeat (with_reducible refine And.intro ?_ ?_; focus first | omega | rfl | assumption | exact ⟨_, rfl, rfl⟩ | (simp; omega) | (simp; done)))
  · have k3 := h
    refine call_w (l18Trait_ok w i t.fName hsz hi) ?_
    simp -implicitDefEqProofs (disch := omega) only [go_sem]
    cases hs : seesO w i (traitAt w t.fName) with
    | false =>
      cases hr : traitAt w t.fName <;> (simp -implicitDefEqProofs (disch := omega) only [go_sem, trC]; exact int_eq (by unfold ownCode; rw [if_neg k1, if_neg (by omega), if_pos k3, if_neg (by rw [hs]; simp)]))
    | true =>
      obtain ⟨d, p, hd⟩ := seesO_some hs
      have he : ownCode w i t.fKind t.fName t.fArgs.length = if d.fAssoc = true then 0 else 4 := by unfold ownCode; rw [if_neg k1, if_neg (by omega), if_pos k3, if_pos hs, hd]
      simp -implicitDefEqProofs (disch := omega) only [go_sem, hd, trC]
      with_reducible refine split2 (fun hb => ?_) (fun hb => ?_) <;> have h := hb <;> (try simp only [wf_preprocess] at h) <;> simp -implicitDefEqProofs (disch := omega) only [go_sem, hb] <;> (repeat (with_reducible refine And.intro ?_ ?_; focus first | omega | rfl | assumption | exact ⟨_, rfl, rfl⟩ | (simp; omega) | (simp; done)))
      · exact int_eq (by rw [he, h]; rfl)
      · exact int_eq (by rw [he, h]; rfl)
  have k3 := h
  with_reducible refine split2 (fun hb => ?_) (fun hb => ?_) <;> have h := hb <;> (try simp only [wf_preprocess] at h) <;> simp -implicitDefEqProofs (disch := omega) only [go_sem, hb] <;> (repeat (with_reducible refine And.intro ?_ ?_; focus first | omega | rfl | assumption | exact ⟨_, rfl, rfl⟩ | (simp; omega) | (simp; done)))
  · have k2 := h
    refine call_w (l4Base_ok t.fName) ?_
    simp -implicitDefEqProofs (disch := omega) only [go_sem] <;> (repeat (with_reducible refine And.intro ?_ ?_; focus first | omega | rfl | assumption | exact ⟨_, rfl, rfl⟩ | (simp; omega) | (simp; done)))
    with_reducible refine split2 (fun hb => ?_) (fun hb => ?_) <;> have h := hb <;> (try simp only [wf_preprocess] at h) <;> simp -implicitDefEqProofs (disch := omega) only [go_sem, hb] <;> (repeat (with_reducible refine And.intro ?_ ?_; focus first | omega | rfl | assumption | exact ⟨_, rfl, rfl⟩ | (simp; omega) | (simp; done)))
    · exact int_eq (by unfold ownCode; rw [if_neg k1, if_pos k2, if_pos h])
    have k5 : ¬ builtInB t.fName = true := by rw [h]; simp
    refine call_w (l18Data_ok w i t.fName hsz hi) ?_
    simp -implicitDefEqProofs (disch := omega) only [go_sem]
    cases hs : seesO w i (dataAt w t.fName) with
    | false =>
      cases hr : dataAt w t.fName <;> (simp -implicitDefEqProofs (disch := omega) only [go_sem, dtC]; exact int_eq (by unfold ownCode; rw [if_neg k1, if_pos k2, if_neg k5, if_neg (by rw [hs]; simp)]))
    | true =>
      obtain ⟨d, p, hd⟩ := seesO_some hs
      have hdl := MDataType.vars_len (dataAt_sz hd hsz)
      have he : ownCode w i t.fKind t.fName t.fArgs.length = if t.fArgs.length = d.fVars.length then 0 else 2 := by unfold ownCode; rw [if_neg k1, if_pos k2, if_neg k5, if_pos hs, hd]
      simp -implicitDefEqProofs (disch := omega) only [go_sem, hd, dtC]
      with_reducible refine split2 (fun hb => ?_) (fun hb => ?_) <;> have h := hb <;> (try simp only [wf_preprocess] at h) <;> simp -implicitDefEqProofs (disch := omega) only [go_sem, hb] <;> (repeat (with_reducible refine And.intro ?_ ?_; focus first | omega | rfl | assumption | exact ⟨_, rfl, rfl⟩ | (simp; omega) | (simp; done)))
      · exact int_eq (by rw [he, if_neg (by omega)])
      · exact int_eq (by rw [he, if_pos (by omega)])
  · exact int_eq (by unfold ownCode; rw [if_neg k1, if_neg h, if_neg k3, if_neg k4])
theorem checkType_all (w : MProgram) (i : Int) (hsz : w.sz ≤ 4194304) : ∀ n : Nat, (∀ t : MType, SizeOf.sizeOf t < n → t.sz ≤ 4194304 → PCall Tryz.prog 91 [viewV w (visI w i), t.v] (.c (.d (.i .i64 (tyCode w i t))))) ∧
    (∀ ts : List MType, SizeOf.sizeOf ts < n → ts.length ≤ 4194304 → (∀ t ∈ ts, t.sz ≤ 4194304) → PCall Tryz.prog 152 [viewV w (visI w i), .c (.d (.sl (ts.map MType.enc)))] (.c (.d (.i .i64 (tyCodes w i ts))))) := by
  intro n
  induction n with
  | zero => exact ⟨fun t h => by omega, fun ts h => by omega⟩
  | succ n ih =>
    obtain ⟨ih1, ih2⟩ := ih
    refine ⟨fun t hn ht S => ?_, fun ts hn hl hall S => ?_⟩
    · have lArgs := MType.lt_Args t
      have hts := ty_szT ht
      have he := tyCode_eq w i t
      have hall : ∀ u ∈ t.fArgs, u.sz ≤ 4194304 := fun u hu => by
        obtain ⟨j, hj, e⟩ := List.getElem_of_mem hu
        rw [← e]; exact (arg_szT hj ht).1
      refine acall_cw (rs := [.tmp 4]) Tryz.checked.mixed Tryz.func91 Tryz.ntmps91 rfl rfl rfl rfl rfl ?_
      simp -implicitDefEqProofs (disch := omega) only [go_sem]
      refine call_w (checkOwn_ok w i t hsz ht) ?_
      simp -implicitDefEqProofs (disch := omega) only [go_sem]
      with_reducible refine split2 (fun hb => ?_) (fun hb => ?_) <;> have h := hb <;> (try simp only [wf_preprocess] at h) <;> simp -implicitDefEqProofs (disch := omega) only [go_sem, hb] <;> (repeat (with_reducible refine And.intro ?_ ?_; focus first | omega | rfl | assumption | exact ⟨_, rfl, rfl⟩ | (simp; omega) | (simp; done)))
      · exact int_eq (by rw [he, if_neg h])
      · have k := h
        refine call_w (ih2 t.fArgs (by omega) hts.1 hall) ?_
        simp -implicitDefEqProofs (disch := omega) only [go_sem]
        exact int_eq (by rw [he, if_pos k])
    · refine acall_cw (rs := [.tmp 4]) Tryz.checked.mixed Tryz.func152 Tryz.ntmps152 rfl rfl rfl rfl rfl ?_
      simp -implicitDefEqProofs (disch := omega) only [go_sem]
      refine loop_at (ι := Nat) Tryz.checked.mixed rfl [2, 8, 9, 10] (fun k => [.c (.ptr (0, 0) 0), .c (.d (.sl (ts.map MType.enc))), .c (.d (.i .i64 ts.length)), .c (.d (.i .i64 k))]) (fun _ => [.box [.d (.sl (w.fPackages.map MPackage.enc)), .d (.sl ((visI w i).map encI))]] :: S)
        (fun k => k ≤ ts.length ∧ tyCodes w i (ts.drop k) = tyCodes w i ts) (fun k => ts.length - k) 0 rfl rfl ⟨Nat.zero_le _, rfl⟩ ?_
      rintro k ⟨p1, p2⟩
      simp -implicitDefEqProofs (disch := omega) only [go_sem]
      with_reducible refine split2 (fun hb => ?_) (fun hb => ?_) <;> have h := hb <;> (try simp only [wf_preprocess] at h) <;> simp -implicitDefEqProofs (disch := omega) only [go_sem, hb] <;> (repeat (with_reducible refine And.intro ?_ ?_; focus first | omega | rfl | assumption | exact ⟨_, rfl, rfl⟩ | (simp; omega) | (simp; done)))
      · have hk : k < ts.length := by omega
        have hs := List.sizeOf_lt_of_mem (List.getElem_mem hk)
        rw [tyCodes_drop hk] at p2
        (repeat (with_reducible refine And.intro ?_ ?_; focus first | omega | rfl | assumption | exact ⟨_, rfl, rfl⟩ | (simp; omega) | (simp; done)))
        refine call_w (ih1 ts[k] (by omega) (hall _ (List.getElem_mem hk))) ?_
        simp -implicitDefEqProofs (disch := omega) only [go_sem]
        with_reducible refine split2 (fun hb => ?_) (fun hb => ?_) <;> have h := hb <;> (try simp only [wf_preprocess] at h) <;> simp -implicitDefEqProofs (disch := omega) only [go_sem, hb] <;> (repeat (with_reducible refine And.intro ?_ ?_; focus first | omega | rfl | assumption | exact ⟨_, rfl, rfl⟩ | (simp; omega) | (simp; done)))
        · rw [if_neg h] at p2
          exact int_eq p2
        · rw [if_pos h] at p2
          exact inv_drop 1 (by decide) (k + 1) (by omega) rfl rfl rfl rfl ⟨by omega, p2⟩
      · rw [List.drop_of_length_le (by omega), tyCodes] at p2
        exact int_eq p2
theorem specCheckType_all (w : MProgram) (i : Int) (hsz : w.sz ≤ 4194304) (hi : -9223372036854775808 ≤ i ∧ i ≤ 9223372036854775807) : ∀ n : Nat, ∀ t : MType, SizeOf.sizeOf t < n → t.sz ≤ 4194304 → PCall Tryz.prog 30 [w.v, .c (.d (.i .i64 i)), t.v] (.c (.d (.i .i64 (tyCode w i t)))) := by
  intro n
  induction n with
  | zero => intro t h; omega
  | succ n ih =>
    intro t hn ht S
    have lArgs := MType.lt_Args t
    have hts := ty_szT ht
    have he := tyCode_eq w i t
    have hall : ∀ u ∈ t.fArgs, u.sz ≤ 4194304 := fun u hu => by
      obtain ⟨j, hj, e⟩ := List.getElem_of_mem hu
      rw [← e]; exact (arg_szT hj ht).1
    refine acall_cw (rs := [.tmp 6]) Tryz.checked.mixed Tryz.func30 Tryz.ntmps30 rfl rfl rfl rfl rfl ?_
    simp -implicitDefEqProofs (disch := omega) only [go_sem]
    refine call_w (l18Here_ok w i t hsz hi ht) ?_
    simp -implicitDefEqProofs (disch := omega) only [go_sem]
    refine loop_at (ι := Nat × Int) Tryz.checked.mixed rfl [1, 3, 5, 7, 8] (fun y => [.c (.d (.i .i64 i)), .c (.ptr (0, 0) 0), .c (.ptr (0, 1) 0), .c (.d (.i .i64 y.2)), .c (.d (.i .i64 y.1))]) (fun _ => [.box (w.enc.map .d), .box (t.enc.map .d)] :: S)
      (fun y => y.1 ≤ t.fArgs.length ∧ (if y.2 = 0 then tyCodes w i (t.fArgs.drop y.1) else y.2) = tyCode w i t) (fun y => t.fArgs.length - y.1) (0, ownCode w i t.fKind t.fName t.fArgs.length) rfl ?_ ⟨Nat.zero_le _, he.symm⟩ ?_
    · simp -implicitDefEqProofs (disch := omega) only [go_sem]
    rintro ⟨k, c⟩ ⟨p1, p2⟩
    simp only at p1 p2
    simp -implicitDefEqProofs (disch := omega) only [go_sem]
    with_reducible refine split2 (fun hb => ?_) (fun hb => ?_) <;> have h := hb <;> (try simp only [wf_preprocess] at h) <;> simp -implicitDefEqProofs (disch := omega) only [go_sem, hb] <;> (repeat (with_reducible refine And.intro ?_ ?_; focus first | omega | rfl | assumption | exact ⟨_, rfl, rfl⟩ | (simp; omega) | (simp; done)))
    · have hk : k < t.fArgs.length := by omega
      have hs := List.sizeOf_lt_of_mem (List.getElem_mem hk)
      with_reducible refine split2 (fun hb => ?_) (fun hb => ?_) <;> have h := hb <;> (try simp only [wf_preprocess] at h) <;> simp -implicitDefEqProofs (disch := omega) only [go_sem, hb] <;> (repeat (with_reducible refine And.intro ?_ ?_; focus first | omega | rfl | assumption | exact ⟨_, rfl, rfl⟩ | (simp; omega) | (simp; done)))
      · rw [if_pos h, tyCodes_drop hk] at p2
        (repeat (with_reducible refine And.intro ?_ ?_; focus first | omega | rfl | assumption | exact ⟨_, rfl, rfl⟩ | (simp; omega) | (simp; done)))
        refine call_w (ih t.fArgs[k] (by omega) (hall _ (List.getElem_mem hk))) ?_
        simp -implicitDefEqProofs (disch := omega) only [go_sem]
        exact inv_at (k + 1, tyCode w i t.fArgs[k]) (by simp only; omega) rfl rfl ⟨by simp only; omega, p2⟩
      · rw [if_neg h] at p2
        exact int_eq p2
    · have hk : k = t.fArgs.length := by omega
      rw [hk, List.drop_length, tyCodes] at p2
      refine int_eq ?_
      rw [← p2]
      split <;> omega
theorem specCheckType_ok (w : MProgram) (i : Int) (t : MType) (hsz : w.sz ≤ 4194304) (ht : t.sz ≤ 4194304) (hi : -9223372036854775808 ≤ i ∧ i ≤ 9223372036854775807) : PCall Tryz.prog 30 [w.v, .c (.d (.i .i64 i)), t.v] (.c (.d (.i .i64 (tyCode w i t)))) := specCheckType_all w i hsz hi _ t (Nat.lt_succ_self _) ht
end Go.Proofs.YtjfhgcnoielpfaaGreat

namespace Go.Ab
noncomputable def boundCode (w : MProgram) (i : Int) (b : MBound) : Int := if seesO w i (traitAt w b.fTrait) = true then tyCode w i b.fType else 3
theorem MBound.ty_sz {b : MBound} (h : b.sz ≤ 4194304) : b.fType.sz ≤ 4194304 := by
  simp only [MBound.sz, MBound.enc_eq, szRow, szRow_append, D.sz, List.length_map, MType.sz_def] at h
  omega
theorem trC_down (r : Option (MTrait × Nat)) : List.mapM (C.down 0) (trC r) = some (trC r) := by
  cases r with
  | none => rfl
  | some x => rfl
theorem trC_len (r : Option (MTrait × Nat)) : (trC r).length = 5 := by
  cases r with
  | none => rfl
  | some x => rfl
end Go.Ab
namespace Go.Proofs.YtjfhgcnoielpfaaGreat
open Go Go.Ab
theorem checkBound_ok (w : MProgram) (i : Int) (b : MBound) (hsz : w.sz ≤ 4194304) (hb : b.sz ≤ 4194304) : PCall Tryz.prog 94 [viewV w (visI w i), b.v] (.c (.d (.i .i64 (boundCode w i b)))) := fun S => by
  have ht := MBound.ty_sz hb
  refine acall_cw (rs := [.tmp 4]) Tryz.checked.mixed Tryz.func94 Tryz.ntmps94 rfl rfl rfl rfl rfl ?_
  simp -implicitDefEqProofs (disch := omega) only [go_sem]
  refine call_w (viewTrait_ok w i b.fTrait hsz) ?_
  simp -implicitDefEqProofs (disch := omega) only [go_sem, trC_down, trC_len]
  with_reducible refine split2 (fun hb => ?_) (fun hb => ?_) <;> have h := hb <;> (try simp only [wf_preprocess] at h) <;> simp -implicitDefEqProofs (disch := omega) only [go_sem, hb] <;> (repeat (with_reducible refine And.intro ?_ ?_; focus first | omega | rfl | assumption | exact ⟨_, rfl, rfl⟩ | (simp; omega) | (simp; done)))
  · exact int_eq (by unfold boundCode; rw [h]; rfl)
  · have k := h
    refine call_w ((checkType_all w i hsz _).1 b.fType (Nat.lt_succ_self _) ht) ?_
    simp -implicitDefEqProofs (disch := omega) only [go_sem]
    exact int_eq (by unfold boundCode; rw [k]; rfl)
theorem implCheckBound_ok (w : MProgram) (i : Int) (b : MBound) (hsz : w.sz ≤ 4194304) (hb : b.sz ≤ 4194304) (hi : -9223372036854775808 ≤ i ∧ i ≤ 9223372036854775807) : PCall Tryz.prog 37 [w.v, .c (.d (.i .i64 i)), b.v] (.c (.d (.i .i64 (boundCode w i b)))) := fun S => by
  refine acall_cw (rs := [.tmp 6]) Tryz.checked.mixed Tryz.func37 Tryz.ntmps37 rfl rfl rfl rfl rfl ?_
  simp -implicitDefEqProofs (disch := omega) only [go_sem]
  refine call_w (viewOf_ok w i hsz hi) ?_
  simp -implicitDefEqProofs (disch := omega) only [go_sem]
  refine call_w (checkBound_ok w i b hsz hb) ?_
  simp -implicitDefEqProofs (disch := omega) only [go_sem]
theorem specCheckBound_ok (w : MProgram) (i : Int) (b : MBound) (hsz : w.sz ≤ 4194304) (hb : b.sz ≤ 4194304) (hi : -9223372036854775808 ≤ i ∧ i ≤ 9223372036854775807) : PCall Tryz.prog 35 [w.v, .c (.d (.i .i64 i)), b.v] (.c (.d (.i .i64 (boundCode w i b)))) := fun S => by
  have ht := MBound.ty_sz hb
  refine acall_cw (rs := [.tmp 6]) Tryz.checked.mixed Tryz.func35 Tryz.ntmps35 rfl rfl rfl rfl rfl ?_
  simp -implicitDefEqProofs (disch := omega) only [go_sem]
  refine call_w (l18Trait_ok w i b.fTrait hsz hi) ?_
  simp -implicitDefEqProofs (disch := omega) only [go_sem, trC_down, trC_len]
  with_reducible refine split2 (fun hb => ?_) (fun hb => ?_) <;> have h := hb <;> (try simp only [wf_preprocess] at h) <;> simp -implicitDefEqProofs (disch := omega) only [go_sem, hb] <;> (repeat (with_reducible refine And.intro ?_ ?_; focus first | omega | rfl | assumption | exact ⟨_, rfl, rfl⟩ | (simp; omega) | (simp; done)))
  · exact int_eq (by unfold boundCode; rw [h]; rfl)
  · have k := h
    refine call_w (specCheckType_ok w i b.fType hsz ht hi) ?_
    simp -implicitDefEqProofs (disch := omega) only [go_sem]
    exact int_eq (by unfold boundCode; rw [k]; rfl)
end Go.Proofs.YtjfhgcnoielpfaaGreat

namespace Go.Proofs.YtjfhgcnoielpfaaGreat.fnExactCheckBound
open Go Go.Ab
theorem law (x0 : MProgram) (x1 : Int) (x2 : MBound) (f0 : FitL x0.enc) (w1 : -9223372036854775808 ≤ x1 ∧ x1 ≤ 9223372036854775807) (f2 : FitL x2.enc) : ACall Tryz.prog 8 [x0.v, .c (.d (.i .i64 x1)), x2.v] [] (fun r _ => r = .c (.d (.b true))) := by
  refine acall_cw (rs := [.tmp 6]) Tryz.checked.mixed Tryz.func8 Tryz.ntmps8 rfl rfl rfl rfl rfl ?_
  simp -implicitDefEqProofs (disch := omega) only [go_sem]
  refine call_w (szProgram_ok x0 _ (by omega) (by omega) f0) ?_
  simp -implicitDefEqProofs (disch := omega) only [go_sem] <;> (repeat (with_reducible refine And.intro ?_ ?_; focus first | omega | rfl | assumption | exact ⟨_, rfl, rfl⟩ | (simp; omega) | (simp; done)))
  with_reducible refine split2 (fun hb => ?_) (fun hb => ?_) <;> have h := hb <;> (try simp only [wf_preprocess] at h) <;> simp -implicitDefEqProofs (disch := omega) only [go_sem, hb] <;> (repeat (with_reducible refine And.intro ?_ ?_; focus first | omega | rfl | assumption | exact ⟨_, rfl, rfl⟩ | (simp; omega) | (simp; done)))
  have h0 := sub1_nn h
  simp only [h0.1]
  refine call_w (szBound_ok x2 _ (by omega) (by omega) f2) ?_
  simp -implicitDefEqProofs (disch := omega) only [go_sem] <;> (repeat (with_reducible refine And.intro ?_ ?_; focus first | omega | rfl | assumption | exact ⟨_, rfl, rfl⟩ | (simp; omega) | (simp; done)))
  with_reducible refine split2 (fun hb => ?_) (fun hb => ?_) <;> have h := hb <;> (try simp only [wf_preprocess] at h) <;> simp -implicitDefEqProofs (disch := omega) only [go_sem, hb] <;> (repeat (with_reducible refine And.intro ?_ ?_; focus first | omega | rfl | assumption | exact ⟨_, rfl, rfl⟩ | (simp; omega) | (simp; done)))
  have h2 := sub1_nn h
  refine call_w (toProgram_ok x0 (by omega)) ?_
  simp -implicitDefEqProofs (disch := omega) only [go_sem] <;> (repeat (with_reducible refine And.intro ?_ ?_; focus first | omega | rfl | assumption | exact ⟨_, rfl, rfl⟩ | (simp; omega) | (simp; done)))
  refine call_w (toBound_ok x2 (by omega)) ?_
  simp -implicitDefEqProofs (disch := omega) only [go_sem] <;> (repeat (with_reducible refine And.intro ?_ ?_; focus first | omega | rfl | assumption | exact ⟨_, rfl, rfl⟩ | (simp; omega) | (simp; done)))
  refine call_w (specCheckBound_ok x0 x1 x2 (by omega) (by omega) w1) ?_
  simp -implicitDefEqProofs (disch := omega) only [go_sem] <;> (repeat (with_reducible refine And.intro ?_ ?_; focus first | omega | rfl | assumption | exact ⟨_, rfl, rfl⟩ | (simp; omega) | (simp; done)))
  refine call_w (toProgram_ok x0 (by omega)) ?_
  simp -implicitDefEqProofs (disch := omega) only [go_sem] <;> (repeat (with_reducible refine And.intro ?_ ?_; focus first | omega | rfl | assumption | exact ⟨_, rfl, rfl⟩ | (simp; omega) | (simp; done)))
  refine call_w (toBound_ok x2 (by omega)) ?_
  simp -implicitDefEqProofs (disch := omega) only [go_sem] <;> (repeat (with_reducible refine And.intro ?_ ?_; focus first | omega | rfl | assumption | exact ⟨_, rfl, rfl⟩ | (simp; omega) | (simp; done)))
  refine call_w (implCheckBound_ok x0 x1 x2 (by omega) (by omega) w1) ?_
  simp -implicitDefEqProofs (disch := omega) only [go_sem] <;> (repeat (with_reducible refine And.intro ?_ ?_; focus first | omega | rfl | assumption | exact ⟨_, rfl, rfl⟩ | (simp; omega) | (simp; done)))
  refine call_w (toProgram_ok x0 (by omega)) ?_
  simp -implicitDefEqProofs (disch := omega) only [go_sem] <;> (repeat (with_reducible refine And.intro ?_ ?_; focus first | omega | rfl | assumption | exact ⟨_, rfl, rfl⟩ | (simp; omega) | (simp; done)))
  refine call_w (eqProgram_ok x0 x0 (by omega)) ?_
  simp -implicitDefEqProofs (disch := omega) only [go_sem] <;> (repeat (with_reducible refine And.intro ?_ ?_; focus first | omega | rfl | assumption | exact ⟨_, rfl, rfl⟩ | (simp; omega) | (simp; done)))
  refine call_w (toBound_ok x2 (by omega)) ?_
  simp -implicitDefEqProofs (disch := omega) only [go_sem] <;> (repeat (with_reducible refine And.intro ?_ ?_; focus first | omega | rfl | assumption | exact ⟨_, rfl, rfl⟩ | (simp; omega) | (simp; done)))
  refine call_w (eqBound_ok x2 x2 (by omega)) ?_
  simp -implicitDefEqProofs (disch := omega) only [go_sem] <;> (repeat (with_reducible refine And.intro ?_ ?_; focus first | omega | rfl | assumption | exact ⟨_, rfl, rfl⟩ | (simp; omega) | (simp; done)))
end Go.Proofs.YtjfhgcnoielpfaaGreat.fnExactCheckBound

namespace Go.Ab
theorem wt_pos {P : Program} {n : Nat} {t : TypeId} {ds : List D} (h : WT P n t ds) : ∃ m, n = m + 1 := by
  cases n with
  | zero => exact h.elim
  | succ m => exact ⟨m, rfl⟩
theorem wt_bool {P : Program} {n : Nat} {t : TypeId} {ds : List D} (ht : P.underlying t = some .bool) (h : WT P n t ds) : ∃ b, ds = [.b b] := by
  obtain ⟨m, rfl⟩ := wt_pos h
  simp only [WT, ht] at h; exact h
theorem wt_int {P : Program} {n : Nat} {t : TypeId} {k : IntKind} {ds : List D} (ht : P.underlying t = some (.int k)) (h : WT P n t ds) : ∃ x, ds = [.i k x] ∧ (Lit.int k x).wf = true := by
  obtain ⟨m, rfl⟩ := wt_pos h
  simp only [WT, ht] at h; exact h
theorem wt_string {P : Program} {n : Nat} {t : TypeId} {ds : List D} (ht : P.underlying t = some .string) (h : WT P n t ds) : ∃ l, ds = [.s l] := by
  obtain ⟨m, rfl⟩ := wt_pos h
  simp only [WT, ht] at h; exact ⟨h.choose, h.choose_spec.1⟩
theorem wt_slice {P : Program} {n : Nat} {t e : TypeId} {ds : List D} (ht : P.underlying t = some (.slice e)) (h : WT P n t ds) : ∃ es m, m < n ∧ ds = [.sl es] ∧ ∀ x ∈ es, WT P m e x := by
  obtain ⟨m, rfl⟩ := wt_pos h
  simp only [WT, ht] at h
  obtain ⟨es, h1, _, h2⟩ := h
  exact ⟨es, m, by omega, h1, fun x hx => (h2 x hx).2⟩
theorem wt_struct {P : Program} {n : Nat} {t : TypeId} {fs : Array Field} {ds : List D} (ht : P.underlying t = some (.struct fs)) (h : WT P n t ds) : ∃ m, m < n ∧ WTF P (WT P m) fs.toList ds := by
  obtain ⟨m, rfl⟩ := wt_pos h
  simp only [WT, ht] at h
  exact ⟨m, by omega, h⟩
theorem list_enc {α : Type} {enc : α → List D} : ∀ {es : List (List D)}, (∀ x ∈ es, ∃ m, x = enc m) → ∃ ms : List α, es = ms.map enc
  | [], _ => ⟨[], rfl⟩
  | e :: es, h => by
    obtain ⟨m, hm⟩ := h e (by simp)
    obtain ⟨ms, hms⟩ := list_enc (es := es) fun x hx => h x (by simp [hx])
    exact ⟨m :: ms, by rw [List.map_cons, ← hm, ← hms]⟩
theorem wtf_fit {P : Program} {W : TypeId → List D → Prop} (hW : ∀ t ds, W t ds → FitL ds) : ∀ (fs : List Field) (ds : List D), WTF P W fs ds → FitL ds
  | [], ds, h => by
    have h : ds = [] := h
    rw [h]; exact fitL_nil
  | f :: fs, ds, h => by
    obtain ⟨a, b, rfl, _, h1, h2⟩ := h
    exact fitL_append.2 ⟨hW _ _ h1, wtf_fit hW fs b h2⟩
theorem wt_fit {P : Program} : ∀ (n : Nat) (t : TypeId) (ds : List D), WT P n t ds → FitL ds
  | 0, t, ds, h => h.elim
  | n + 1, t, ds, h => by
    simp only [WT] at h
    split at h
    · obtain ⟨b, rfl⟩ := h; exact fitL_cons.2 ⟨.b _, fitL_nil⟩
    · obtain ⟨b, rfl, _⟩ := h; exact fitL_cons.2 ⟨.i _ _, fitL_nil⟩
    · obtain ⟨l, rfl, hl⟩ := h; exact fitL_cons.2 ⟨.s _ hl, fitL_nil⟩
    · obtain ⟨es, rfl, hl, hh⟩ := h
      exact fitL_cons.2 ⟨.sl _ hl fun e he d hd => wt_fit n _ e (hh e he).2 d hd, fitL_nil⟩
    · exact wtf_fit (wt_fit n) _ _ h
    · exact h.elim
end Go.Ab
namespace Go.Proofs.YtjfhgcnoielpfaaGreat
open Go Go.Ab
theorem wt_Type : ∀ (n : Nat) (ds : List D), WT Tryz.prog n 27 ds → ∃ x : MType, ds = x.enc := by
  intro n
  induction n using Nat.strongRecOn with
  | _ n ih =>
    intro ds h
    obtain ⟨m, hm, h⟩ := wt_struct Tryz.underlying27 h
    simp only [WTF] at h
    obtain ⟨a0, r0, rfl, l0, h0, a1, r1, rfl, l1, h1, a2, r2, rfl, l2, h2, rfl⟩ := h
    obtain ⟨x0, rfl, _⟩ := wt_int Tryz.underlying3 h0
    obtain ⟨x1, rfl⟩ := wt_string Tryz.underlying9 h1
    obtain ⟨es2, m2, hm2, rfl, hs2⟩ := wt_slice Tryz.underlying25 h2
    obtain ⟨x2, rfl⟩ := list_enc (enc := MType.enc) fun y hy => ih m2 (by omega) y (hs2 y hy)
    refine ⟨MType.mk x0 x1 x2, ?_⟩
    rw [MType.enc_eq]
    simp [MType.fKind, MType.fName, MType.fArgs]
theorem wt_Bound : ∀ (n : Nat) (ds : List D), WT Tryz.prog n 89 ds → ∃ x : MBound, ds = x.enc := by
  intro n
  induction n using Nat.strongRecOn with
  | _ n ih =>
    intro ds h
    obtain ⟨m, hm, h⟩ := wt_struct Tryz.underlying89 h
    simp only [WTF] at h
    obtain ⟨a0, r0, rfl, l0, h0, a1, r1, rfl, l1, h1, rfl⟩ := h
    obtain ⟨x0, rfl⟩ := wt_string Tryz.underlying9 h0
    obtain ⟨x1, rfl⟩ := wt_Type m a1 h1
    refine ⟨MBound.mk x0 x1, ?_⟩
    rw [MBound.enc_eq]
    simp
theorem wt_ExprArm : ∀ (n : Nat), (∀ ds : List D, WT Tryz.prog n 31 ds → ∃ x : MExpr, ds = x.enc) ∧ (∀ ds : List D, WT Tryz.prog n 217 ds → ∃ x : MArm, ds = x.enc) := by
  intro n
  induction n using Nat.strongRecOn with
  | _ n ih =>
    refine ⟨fun ds h => ?_, fun ds h => ?_⟩
    · obtain ⟨m, hm, h⟩ := wt_struct Tryz.underlying31 h
      simp only [WTF] at h
      obtain ⟨a0, r0, rfl, l0, h0, a1, r1, rfl, l1, h1, a2, r2, rfl, l2, h2, a3, r3, rfl, l3, h3, a4, r4, rfl, l4, h4, a5, r5, rfl, l5, h5, a6, r6, rfl, l6, h6, rfl⟩ := h
      obtain ⟨x0, rfl, _⟩ := wt_int Tryz.underlying3 h0
      obtain ⟨x1, rfl⟩ := wt_string Tryz.underlying9 h1
      obtain ⟨x2, rfl⟩ := wt_string Tryz.underlying9 h2
      obtain ⟨x3, rfl, _⟩ := wt_int Tryz.underlying3 h3
      obtain ⟨x4, rfl⟩ := wt_Type m a4 h4
      obtain ⟨es5, m5, hm5, rfl, hs5⟩ := wt_slice Tryz.underlying28 h5
      obtain ⟨x5, rfl⟩ := list_enc (enc := MExpr.enc) fun y hy => (ih m5 (by omega)).1 y (hs5 y hy)
      obtain ⟨es6, m6, hm6, rfl, hs6⟩ := wt_slice Tryz.underlying29 h6
      obtain ⟨x6, rfl⟩ := list_enc (enc := MArm.enc) fun y hy => (ih m6 (by omega)).2 y (hs6 y hy)
      refine ⟨MExpr.mk x0 x1 x2 x3 x4 x5 x6, ?_⟩
      rw [MExpr.enc_eq]
      simp [MExpr.fKind, MExpr.fTrait, MExpr.fName, MExpr.fN, MExpr.fType, MExpr.fArgs, MExpr.fArms]
    · obtain ⟨m, hm, h⟩ := wt_struct Tryz.underlying217 h
      simp only [WTF] at h
      obtain ⟨a0, r0, rfl, l0, h0, a1, r1, rfl, l1, h1, a2, r2, rfl, l2, h2, rfl⟩ := h
      obtain ⟨x0, rfl⟩ := wt_string Tryz.underlying9 h0
      obtain ⟨es1, m1, hm1, rfl, hs1⟩ := wt_slice Tryz.underlying22 h1
      obtain ⟨x1, rfl⟩ := list_enc (enc := encS) fun y hy => wt_string Tryz.underlying9 (hs1 y hy)
      obtain ⟨x2, rfl⟩ := (ih m (by omega)).1 a2 h2
      refine ⟨MArm.mk x0 x1 x2, ?_⟩
      rw [MArm.enc_eq]
      simp [MArm.fConstructor, MArm.fVars, MArm.fBody]
theorem wt_Expr (n : Nat) (ds : List D) (h : WT Tryz.prog n 31 ds) : ∃ x : MExpr, ds = x.enc := (wt_ExprArm n).1 ds h
theorem wt_Signature : ∀ (n : Nat) (ds : List D), WT Tryz.prog n 173 ds → ∃ x : MSignature, ds = x.enc := by
  intro n
  induction n using Nat.strongRecOn with
  | _ n ih =>
    intro ds h
    obtain ⟨m, hm, h⟩ := wt_struct Tryz.underlying173 h
    simp only [WTF] at h
    obtain ⟨a0, r0, rfl, l0, h0, a1, r1, rfl, l1, h1, a2, r2, rfl, l2, h2, a3, r3, rfl, l3, h3, a4, r4, rfl, l4, h4, a5, r5, rfl, l5, h5, rfl⟩ := h
    obtain ⟨x0, rfl⟩ := wt_string Tryz.underlying9 h0
    obtain ⟨es1, m1, hm1, rfl, hs1⟩ := wt_slice Tryz.underlying25 h1
    obtain ⟨x1, rfl⟩ := list_enc (enc := MType.enc) fun y hy => wt_Type m1 y (hs1 y hy)
    obtain ⟨x2, rfl⟩ := wt_Type m a2 h2
    obtain ⟨x3, rfl⟩ := wt_bool Tryz.underlying4 h3
    obtain ⟨es4, m4, hm4, rfl, hs4⟩ := wt_slice Tryz.underlying22 h4
    obtain ⟨x4, rfl⟩ := list_enc (enc := encS) fun y hy => wt_string Tryz.underlying9 (hs4 y hy)
    obtain ⟨x5, rfl⟩ := wt_Expr m a5 h5
    refine ⟨MSignature.mk x0 x1 x2 x3 x4 x5, ?_⟩
    rw [MSignature.enc_eq]
    simp
theorem wt_Trait : ∀ (n : Nat) (ds : List D), WT Tryz.prog n 52 ds → ∃ x : MTrait, ds = x.enc := by
  intro n
  induction n using Nat.strongRecOn with
  | _ n ih =>
    intro ds h
    obtain ⟨m, hm, h⟩ := wt_struct Tryz.underlying52 h
    simp only [WTF] at h
    obtain ⟨a0, r0, rfl, l0, h0, a1, r1, rfl, l1, h1, a2, r2, rfl, l2, h2, a3, r3, rfl, l3, h3, a4, r4, rfl, l4, h4, rfl⟩ := h
    obtain ⟨x0, rfl⟩ := wt_string Tryz.underlying9 h0
    obtain ⟨es1, m1, hm1, rfl, hs1⟩ := wt_slice Tryz.underlying22 h1
    obtain ⟨x1, rfl⟩ := list_enc (enc := encS) fun y hy => wt_string Tryz.underlying9 (hs1 y hy)
    obtain ⟨x2, rfl⟩ := wt_bool Tryz.underlying4 h2
    obtain ⟨x3, rfl⟩ := wt_bool Tryz.underlying4 h3
    obtain ⟨es4, m4, hm4, rfl, hs4⟩ := wt_slice Tryz.underlying50 h4
    obtain ⟨x4, rfl⟩ := list_enc (enc := MSignature.enc) fun y hy => wt_Signature m4 y (hs4 y hy)
    refine ⟨MTrait.mk x0 x1 x2 x3 x4, ?_⟩
    rw [MTrait.enc_eq]
    simp
theorem wt_Constructor : ∀ (n : Nat) (ds : List D), WT Tryz.prog n 282 ds → ∃ x : MConstructor, ds = x.enc := by
  intro n
  induction n using Nat.strongRecOn with
  | _ n ih =>
    intro ds h
    obtain ⟨m, hm, h⟩ := wt_struct Tryz.underlying282 h
    simp only [WTF] at h
    obtain ⟨a0, r0, rfl, l0, h0, a1, r1, rfl, l1, h1, rfl⟩ := h
    obtain ⟨x0, rfl⟩ := wt_string Tryz.underlying9 h0
    obtain ⟨es1, m1, hm1, rfl, hs1⟩ := wt_slice Tryz.underlying25 h1
    obtain ⟨x1, rfl⟩ := list_enc (enc := MType.enc) fun y hy => wt_Type m1 y (hs1 y hy)
    refine ⟨MConstructor.mk x0 x1, ?_⟩
    rw [MConstructor.enc_eq]
    simp
theorem wt_DataType : ∀ (n : Nat) (ds : List D), WT Tryz.prog n 264 ds → ∃ x : MDataType, ds = x.enc := by
  intro n
  induction n using Nat.strongRecOn with
  | _ n ih =>
    intro ds h
    obtain ⟨m, hm, h⟩ := wt_struct Tryz.underlying264 h
    simp only [WTF] at h
    obtain ⟨a0, r0, rfl, l0, h0, a1, r1, rfl, l1, h1, a2, r2, rfl, l2, h2, rfl⟩ := h
    obtain ⟨x0, rfl⟩ := wt_string Tryz.underlying9 h0
    obtain ⟨es1, m1, hm1, rfl, hs1⟩ := wt_slice Tryz.underlying22 h1
    obtain ⟨x1, rfl⟩ := list_enc (enc := encS) fun y hy => wt_string Tryz.underlying9 (hs1 y hy)
    obtain ⟨es2, m2, hm2, rfl, hs2⟩ := wt_slice Tryz.underlying262 h2
    obtain ⟨x2, rfl⟩ := list_enc (enc := MConstructor.enc) fun y hy => wt_Constructor m2 y (hs2 y hy)
    refine ⟨MDataType.mk x0 x1 x2, ?_⟩
    rw [MDataType.enc_eq]
    simp
theorem wt_Method : ∀ (n : Nat) (ds : List D), WT Tryz.prog n 179 ds → ∃ x : MMethod, ds = x.enc := by
  intro n
  induction n using Nat.strongRecOn with
  | _ n ih =>
    intro ds h
    obtain ⟨m, hm, h⟩ := wt_struct Tryz.underlying179 h
    simp only [WTF] at h
    obtain ⟨a0, r0, rfl, l0, h0, a1, r1, rfl, l1, h1, a2, r2, rfl, l2, h2, rfl⟩ := h
    obtain ⟨x0, rfl⟩ := wt_string Tryz.underlying9 h0
    obtain ⟨es1, m1, hm1, rfl, hs1⟩ := wt_slice Tryz.underlying22 h1
    obtain ⟨x1, rfl⟩ := list_enc (enc := encS) fun y hy => wt_string Tryz.underlying9 (hs1 y hy)
    obtain ⟨x2, rfl⟩ := wt_Expr m a2 h2
    refine ⟨MMethod.mk x0 x1 x2, ?_⟩
    rw [MMethod.enc_eq]
    simp
theorem wt_Instance : ∀ (n : Nat) (ds : List D), WT Tryz.prog n 63 ds → ∃ x : MInstance, ds = x.enc := by
  intro n
  induction n using Nat.strongRecOn with
  | _ n ih =>
    intro ds h
    obtain ⟨m, hm, h⟩ := wt_struct Tryz.underlying63 h
    simp only [WTF] at h
    obtain ⟨a0, r0, rfl, l0, h0, a1, r1, rfl, l1, h1, a2, r2, rfl, l2, h2, a3, r3, rfl, l3, h3, a4, r4, rfl, l4, h4, a5, r5, rfl, l5, h5, a6, r6, rfl, l6, h6, a7, r7, rfl, l7, h7, rfl⟩ := h
    obtain ⟨x0, rfl⟩ := wt_string Tryz.underlying9 h0
    obtain ⟨es1, m1, hm1, rfl, hs1⟩ := wt_slice Tryz.underlying22 h1
    obtain ⟨x1, rfl⟩ := list_enc (enc := encS) fun y hy => wt_string Tryz.underlying9 (hs1 y hy)
    obtain ⟨x2, rfl⟩ := wt_Type m a2 h2
    obtain ⟨es3, m3, hm3, rfl, hs3⟩ := wt_slice Tryz.underlying23 h3
    obtain ⟨x3, rfl⟩ := list_enc (enc := MBound.enc) fun y hy => wt_Bound m3 y (hs3 y hy)
    obtain ⟨x4, rfl⟩ := wt_bool Tryz.underlying4 h4
    obtain ⟨x5, rfl⟩ := wt_bool Tryz.underlying4 h5
    obtain ⟨x6, rfl⟩ := wt_Type m a6 h6
    obtain ⟨es7, m7, hm7, rfl, hs7⟩ := wt_slice Tryz.underlying61 h7
    obtain ⟨x7, rfl⟩ := list_enc (enc := MMethod.enc) fun y hy => wt_Method m7 y (hs7 y hy)
    refine ⟨MInstance.mk x0 x1 x2 x3 x4 x5 x6 x7, ?_⟩
    rw [MInstance.enc_eq]
    simp
theorem wt_Param : ∀ (n : Nat) (ds : List D), WT Tryz.prog n 153 ds → ∃ x : MParam, ds = x.enc := by
  intro n
  induction n using Nat.strongRecOn with
  | _ n ih =>
    intro ds h
    obtain ⟨m, hm, h⟩ := wt_struct Tryz.underlying153 h
    simp only [WTF] at h
    obtain ⟨a0, r0, rfl, l0, h0, a1, r1, rfl, l1, h1, rfl⟩ := h
    obtain ⟨x0, rfl⟩ := wt_string Tryz.underlying9 h0
    obtain ⟨x1, rfl⟩ := wt_Type m a1 h1
    refine ⟨MParam.mk x0 x1, ?_⟩
    rw [MParam.enc_eq]
    simp
theorem wt_Function : ∀ (n : Nat) (ds : List D), WT Tryz.prog n 33 ds → ∃ x : MFunction, ds = x.enc := by
  intro n
  induction n using Nat.strongRecOn with
  | _ n ih =>
    intro ds h
    obtain ⟨m, hm, h⟩ := wt_struct Tryz.underlying33 h
    simp only [WTF] at h
    obtain ⟨a0, r0, rfl, l0, h0, a1, r1, rfl, l1, h1, a2, r2, rfl, l2, h2, a3, r3, rfl, l3, h3, a4, r4, rfl, l4, h4, a5, r5, rfl, l5, h5, rfl⟩ := h
    obtain ⟨x0, rfl⟩ := wt_string Tryz.underlying9 h0
    obtain ⟨es1, m1, hm1, rfl, hs1⟩ := wt_slice Tryz.underlying22 h1
    obtain ⟨x1, rfl⟩ := list_enc (enc := encS) fun y hy => wt_string Tryz.underlying9 (hs1 y hy)
    obtain ⟨es2, m2, hm2, rfl, hs2⟩ := wt_slice Tryz.underlying23 h2
    obtain ⟨x2, rfl⟩ := list_enc (enc := MBound.enc) fun y hy => wt_Bound m2 y (hs2 y hy)
    obtain ⟨es3, m3, hm3, rfl, hs3⟩ := wt_slice Tryz.underlying24 h3
    obtain ⟨x3, rfl⟩ := list_enc (enc := MParam.enc) fun y hy => wt_Param m3 y (hs3 y hy)
    obtain ⟨x4, rfl⟩ := wt_Type m a4 h4
    obtain ⟨x5, rfl⟩ := wt_Expr m a5 h5
    refine ⟨MFunction.mk x0 x1 x2 x3 x4 x5, ?_⟩
    rw [MFunction.enc_eq]
    simp
theorem wt_Package : ∀ (n : Nat) (ds : List D), WT Tryz.prog n 192 ds → ∃ x : MPackage, ds = x.enc := by
  intro n
  induction n using Nat.strongRecOn with
  | _ n ih =>
    intro ds h
    obtain ⟨m, hm, h⟩ := wt_struct Tryz.underlying192 h
    simp only [WTF] at h
    obtain ⟨a0, r0, rfl, l0, h0, a1, r1, rfl, l1, h1, a2, r2, rfl, l2, h2, a3, r3, rfl, l3, h3, a4, r4, rfl, l4, h4, a5, r5, rfl, l5, h5, rfl⟩ := h
    obtain ⟨x0, rfl⟩ := wt_string Tryz.underlying9 h0
    obtain ⟨es1, m1, hm1, rfl, hs1⟩ := wt_slice Tryz.underlying22 h1
    obtain ⟨x1, rfl⟩ := list_enc (enc := encS) fun y hy => wt_string Tryz.underlying9 (hs1 y hy)
    obtain ⟨es2, m2, hm2, rfl, hs2⟩ := wt_slice Tryz.underlying187 h2
    obtain ⟨x2, rfl⟩ := list_enc (enc := MTrait.enc) fun y hy => wt_Trait m2 y (hs2 y hy)
    obtain ⟨es3, m3, hm3, rfl, hs3⟩ := wt_slice Tryz.underlying188 h3
    obtain ⟨x3, rfl⟩ := list_enc (enc := MDataType.enc) fun y hy => wt_DataType m3 y (hs3 y hy)
    obtain ⟨es4, m4, hm4, rfl, hs4⟩ := wt_slice Tryz.underlying189 h4
    obtain ⟨x4, rfl⟩ := list_enc (enc := MInstance.enc) fun y hy => wt_Instance m4 y (hs4 y hy)
    obtain ⟨es5, m5, hm5, rfl, hs5⟩ := wt_slice Tryz.underlying190 h5
    obtain ⟨x5, rfl⟩ := list_enc (enc := MFunction.enc) fun y hy => wt_Function m5 y (hs5 y hy)
    refine ⟨MPackage.mk x0 x1 x2 x3 x4 x5, ?_⟩
    rw [MPackage.enc_eq]
    simp
theorem wt_Program : ∀ (n : Nat) (ds : List D), WT Tryz.prog n 74 ds → ∃ x : MProgram, ds = x.enc := by
  intro n
  induction n using Nat.strongRecOn with
  | _ n ih =>
    intro ds h
    obtain ⟨m, hm, h⟩ := wt_struct Tryz.underlying74 h
    simp only [WTF] at h
    obtain ⟨a0, r0, rfl, l0, h0, rfl⟩ := h
    obtain ⟨es0, m0, hm0, rfl, hs0⟩ := wt_slice Tryz.underlying72 h0
    obtain ⟨x0, rfl⟩ := list_enc (enc := MPackage.enc) fun y hy => wt_Package m0 y (hs0 y hy)
    refine ⟨MProgram.mk x0, ?_⟩
    rw [MProgram.enc_eq]
    simp
end Go.Proofs.YtjfhgcnoielpfaaGreat

