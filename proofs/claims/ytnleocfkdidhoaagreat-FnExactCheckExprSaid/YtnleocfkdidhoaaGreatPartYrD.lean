/-
  SEVERAL TEXTS IN ONE (merged by program): contracts and models, each with its own heading.
-/
import Derived.Test.YtnleocfkdidhoaaGreatPartYrC
set_option linter.unusedSimpArgs false
set_option linter.unusedVariables false
set_option maxRecDepth 4000
namespace Go.Proofs.YtnleocfkdidhoaaGreat
open Go Go.Ab
theorem szParam_ok (x : MParam) : ∀ left : Int, 0 ≤ left → left ≤ 1048576 → FitL x.enc → PCall Tryz.prog 256 [x.v, .c (.d (.i .i64 left))] (.c (.d (.i .i64 (sub1 left x.sz)))) := by
  intro left h0 h1 hf S
  simp only [MParam.enc_eq, List.cons_append, List.nil_append, fitL_cons, fitL_append, fitL_nil_iff, and_true] at hf
  obtain ⟨fName, fType⟩ := hf
  have hz : x.sz = x.fName.length + (x.fType.sz) := by
    simp only [MParam.sz, MParam.enc_eq, szRow, szRow_append, D.sz, List.length_map, Nat.add_zero, Nat.zero_add, MType.sz_def] <;> omega
  refine acall_cw (rs := [.tmp 4]) Tryz.checked.mixed Tryz.func256 Tryz.ntmps256 rfl rfl rfl rfl rfl ?_
  rw [hz]
  have gName := fit_s fName
  simp -implicitDefEqProofs (disch := omega) only [go_sem]
  with_reducible refine split2 (fun hb => ?_) (fun hb => ?_) <;> have h := hb <;> (try simp only [wf_preprocess] at h) <;> simp -implicitDefEqProofs (disch := omega) only [go_sem, hb] <;> (repeat (with_reducible refine And.intro ?_ ?_; focus first | omega | rfl | assumption | exact ⟨_, rfl, rfl⟩ | (simp; omega) | (simp; done)))
  · exact int_eq (sub1_no (by omega)).symm
  refine call_w (szType_ok x.fType _ (by omega) (by omega) fType) ?_
  simp -implicitDefEqProofs (disch := omega) only [go_sem]
  with_reducible refine split2 (fun hb => ?_) (fun hb => ?_) <;> have h := hb <;> (try simp only [wf_preprocess] at h) <;> simp -implicitDefEqProofs (disch := omega) only [go_sem, hb] <;> (repeat (with_reducible refine And.intro ?_ ?_; focus first | omega | rfl | assumption | exact ⟨_, rfl, rfl⟩ | (simp; omega) | (simp; done)))
  · have h' := sub1_neg h
    exact int_eq (sub1_no (by omega)).symm
  have hType := sub1_nn h
  simp only [hType.1]
  refine int_eq ?_
  rw [sub1_yes (by omega)]
  omega
theorem szParamS_ok (xs : List MParam) : ∀ left : Int, 0 ≤ left → left ≤ 1048576 → (D.sl (xs.map MParam.enc)).Fit → PCall Tryz.prog 210 [.c (.d (.sl (xs.map MParam.enc))), .c (.d (.i .i64 left))] (.c (.d (.i .i64 (sub1 left (xs.length + szRows (xs.map MParam.enc)))))) := by
  intro left h0 h1 hf S
  obtain ⟨hf1, hf2⟩ := fit_sl hf
  rw [List.length_map] at hf1
  refine acall_cw (rs := [.tmp 4]) Tryz.checked.mixed Tryz.func210 Tryz.ntmps210 rfl rfl rfl rfl rfl ?_
  simp -implicitDefEqProofs (disch := omega) only [go_sem]
  with_reducible refine split2 (fun hb => ?_) (fun hb => ?_) <;> have h := hb <;> (try simp only [wf_preprocess] at h) <;> simp -implicitDefEqProofs (disch := omega) only [go_sem, hb] <;> (repeat (with_reducible refine And.intro ?_ ?_; focus first | omega | rfl | assumption | exact ⟨_, rfl, rfl⟩ | (simp; omega) | (simp; done)))
  · exact int_eq (sub1_no (by omega)).symm
  refine loop_at (ι := Nat × Int) Tryz.checked.mixed rfl [0, 1, 5] (fun y => [.c (.d (.sl (xs.map MParam.enc))), .c (.d (.i .i64 y.2)), .c (.d (.i .i64 y.1))]) (fun _ => [] :: S)
    (fun y => y.1 ≤ xs.length ∧ 0 ≤ y.2 ∧ y.2 ≤ 1048576 ∧ sub1 y.2 (szRows ((xs.map MParam.enc).drop y.1)) = sub1 left (xs.length + szRows (xs.map MParam.enc))) (fun y => xs.length - y.1) (0, left - xs.length) rfl rfl ⟨by omega, by omega, by omega, ?_⟩ ?_
  · unfold sub1
    rw [List.drop_zero]
    split <;> split <;> omega
  rintro ⟨i, l⟩ ⟨p1, p2, p3, p4⟩
  simp only at p1 p2 p3 p4
  simp -implicitDefEqProofs (disch := omega) only [go_sem]
  with_reducible refine split2 (fun hb => ?_) (fun hb => ?_) <;> have h := hb <;> (try simp only [wf_preprocess] at h) <;> simp -implicitDefEqProofs (disch := omega) only [go_sem, hb] <;> (repeat (with_reducible refine And.intro ?_ ?_; focus first | omega | rfl | assumption | exact ⟨_, rfl, rfl⟩ | (simp; omega) | (simp; done)))
  · have hi : i < xs.length := by omega
    rw [List.drop_eq_getElem_cons (by rw [List.length_map]; exact hi), szRows, List.getElem_map, MParam.sz_def] at p4
    (repeat (with_reducible refine And.intro ?_ ?_; focus first | omega | rfl | assumption | exact ⟨_, rfl, rfl⟩ | (simp; omega) | (simp; done)))
    refine call_w (szParam_ok xs[i] _ (by omega) (by omega) (hf2 _ (List.mem_map_of_mem (List.getElem_mem hi)))) ?_
    simp -implicitDefEqProofs (disch := omega) only [go_sem]
    with_reducible refine split2 (fun hb => ?_) (fun hb => ?_) <;> have h := hb <;> (try simp only [wf_preprocess] at h) <;> simp -implicitDefEqProofs (disch := omega) only [go_sem, hb] <;> (repeat (with_reducible refine And.intro ?_ ?_; focus first | omega | rfl | assumption | exact ⟨_, rfl, rfl⟩ | (simp; omega) | (simp; done)))
    · have h' := sub1_neg h
      rw [← p4, sub1_no (by omega)]
    · have h' := sub1_nn h
      refine inv_at (i + 1, sub1 l _) (by simp only; omega) rfl rfl ⟨by simp only; omega, by simp only; omega, by simp only; omega, ?_⟩
      simp only
      rw [← p4, h'.1]
      unfold sub1
      split <;> split <;> omega
  · have hi : i = xs.length := by omega
    rw [hi, List.drop_of_length_le (by simp), szRows, sub1_yes (by omega)] at p4
    rw [← p4]
    refine int_eq ?_
    omega
theorem toParam_ok (x : MParam) : x.sz ≤ 1048576 → PCall Tryz.prog 268 [x.v] x.v := by
  intro hsz S
  simp only [MParam.sz, MParam.enc_eq, szRow, szRow_append, D.sz, List.length_map, MType.sz_def] at hsz
  refine acall_cw (rs := [.cell 2 267]) Tryz.checked.mixed Tryz.func268 Tryz.ntmps268 rfl rfl rfl rfl rfl ?_
  simp -implicitDefEqProofs (disch := omega) only [go_sem]
  refine call_w (toType_ok x.fType (by omega)) ?_
  simp -implicitDefEqProofs (disch := omega) only [go_sem]
theorem toParamS_ok (xs : List MParam) : xs.length + szRows (xs.map MParam.enc) ≤ 1048576 → PCall Tryz.prog 223 [.c (.d (.sl (xs.map MParam.enc)))] (.c (.d (.sl (xs.map MParam.enc)))) := by
  intro hsz S
  refine acall_cw (rs := [.tmp 2]) Tryz.checked.mixed Tryz.func223 Tryz.ntmps223 rfl rfl rfl rfl rfl ?_
  simp -implicitDefEqProofs (disch := omega) only [go_sem]
  (repeat (with_reducible refine And.intro ?_ ?_; focus first | omega | rfl | assumption | exact ⟨_, rfl, rfl⟩ | (simp; omega) | (simp; done)))
  refine loop_at (ι := Nat × List (List D)) Tryz.checked.mixed rfl [0, 3, 4] (fun y => [.c (.d (.sl (xs.map MParam.enc))), .c (.msl (0, 0)), .c (.d (.i .i64 y.1))]) (fun y => [.mrow 4 y.2] :: S)
    (fun y => y.1 ≤ xs.length ∧ Filled 4 y.1 y.2 (xs.map MParam.enc)) (fun y => xs.length - y.1) (0, _) rfl rfl ⟨Nat.zero_le _, Filled.start (by simp) rfl⟩ ?_
  rintro ⟨i, R⟩ ⟨p1, p2⟩
  simp only at p1 p2
  simp -implicitDefEqProofs (disch := omega) only [go_sem]
  with_reducible refine split2 (fun hb => ?_) (fun hb => ?_) <;> have h := hb <;> (try simp only [wf_preprocess] at h) <;> simp -implicitDefEqProofs (disch := omega) only [go_sem, hb] <;> (repeat (with_reducible refine And.intro ?_ ?_; focus first | omega | rfl | assumption | exact ⟨_, rfl, rfl⟩ | (simp; omega) | (simp; done)))
  · have hi : i < xs.length := by omega
    have hx : xs[i].sz ≤ szRows (xs.map MParam.enc) := szRows_mem (List.mem_map_of_mem (List.getElem_mem hi))
    (repeat (with_reducible refine And.intro ?_ ?_; focus first | omega | rfl | assumption | exact ⟨_, rfl, rfl⟩ | (simp; omega) | (simp; done)))
    refine call_w (toParam_ok xs[i] (by omega)) ?_
    simp -implicitDefEqProofs (disch := omega) only [go_sem]
    have hR := p2.1
    rw [List.length_map] at hR
    (repeat (with_reducible refine And.intro ?_ ?_; focus first | omega | rfl | assumption | exact ⟨_, rfl, rfl⟩ | (simp; omega) | (simp; done)))
    refine inv_at (i + 1, _) (by simp only; omega) rfl rfl ⟨by simp only; omega, p2.step (by simp [hi, MParam.enc_eq, MType.enc_eq]) rfl⟩
  · have hi : i = xs.length := by omega
    rw [p2.done (by rw [List.length_map]; omega)]
theorem eqParam_ok (x : MParam) : ∀ y : MParam, x.sz ≤ 1048576 → PCall Tryz.prog 280 [x.v, y.v] (.c (.d (.b (dec (x = y))))) := by
  intro y hsz S
  simp only [MParam.sz, MParam.enc_eq, szRow, szRow_append, D.sz, List.length_map, MType.sz_def] at hsz
  refine acall_cw (rs := [.tmp 4]) Tryz.checked.mixed Tryz.func280 Tryz.ntmps280 rfl rfl rfl rfl rfl ?_
  simp -implicitDefEqProofs (disch := omega) only [go_sem]
  with_reducible refine split2 (fun hb => ?_) (fun hb => ?_) <;> have h := hb <;> (try simp only [wf_preprocess] at h) <;> simp -implicitDefEqProofs (disch := omega) only [go_sem, hb] <;> (repeat (with_reducible refine And.intro ?_ ?_; focus first | omega | rfl | assumption | exact ⟨_, rfl, rfl⟩ | (simp; omega) | (simp; done)))
  · exact bool_eq (dec_false (fun e => h (by rw [e]))).symm
  have eName := h
  clear h
  refine call_w (eqType_ok x.fType _ (by omega)) ?_
  simp -implicitDefEqProofs (disch := omega) only [go_sem]
  with_reducible refine split2 (fun hb => ?_) (fun hb => ?_) <;> have h := hb <;> (try simp only [wf_preprocess] at h) <;> simp -implicitDefEqProofs (disch := omega) only [go_sem, hb] <;> (repeat (with_reducible refine And.intro ?_ ?_; focus first | omega | rfl | assumption | exact ⟨_, rfl, rfl⟩ | (simp; omega) | (simp; done)))
  · exact bool_eq (dec_false (fun e => h (by rw [e]))).symm
  have eType := h
  clear h
  exact bool_eq (dec_true (MParam.ext' eName eType)).symm
theorem eqParamS_ok (xs : List MParam) : ∀ ys : List MParam, xs.length + szRows (xs.map MParam.enc) ≤ 1048576 → PCall Tryz.prog 238 [.c (.d (.sl (xs.map MParam.enc))), .c (.d (.sl (ys.map MParam.enc)))] (.c (.d (.b (dec (xs = ys))))) := by
  intro ys hsz S
  refine acall_cw (rs := [.tmp 4]) Tryz.checked.mixed Tryz.func238 Tryz.ntmps238 rfl rfl rfl rfl rfl ?_
  simp -implicitDefEqProofs (disch := omega) only [go_sem]
  with_reducible refine split2 (fun hb => ?_) (fun hb => ?_) <;> have h := hb <;> (try simp only [wf_preprocess] at h) <;> simp -implicitDefEqProofs (disch := omega) only [go_sem, hb] <;> (repeat (with_reducible refine And.intro ?_ ?_; focus first | omega | rfl | assumption | exact ⟨_, rfl, rfl⟩ | (simp; omega) | (simp; done)))
  · exact bool_eq (dec_false (fun e => h (by rw [e]))).symm
  have hl : xs.length = ys.length := by omega
  refine loop_at (ι := Nat) Tryz.checked.mixed rfl [0, 1, 5] (fun y => [.c (.d (.sl (xs.map MParam.enc))), .c (.d (.sl (ys.map MParam.enc))), .c (.d (.i .i64 y))]) (fun y => [] :: S)
    (fun i => i ≤ xs.length ∧ ∀ j, j < i → xs[j]? = ys[j]?) (fun y => xs.length - y) 0 rfl rfl ⟨Nat.zero_le _, fun j h => by omega⟩ ?_
  rintro i ⟨p1, p2⟩
  simp -implicitDefEqProofs (disch := omega) only [go_sem]
  with_reducible refine split2 (fun hb => ?_) (fun hb => ?_) <;> have h := hb <;> (try simp only [wf_preprocess] at h) <;> simp -implicitDefEqProofs (disch := omega) only [go_sem, hb] <;> (repeat (with_reducible refine And.intro ?_ ?_; focus first | omega | rfl | assumption | exact ⟨_, rfl, rfl⟩ | (simp; omega) | (simp; done)))
  · have hi : i < xs.length := by omega
    have hi' : i < ys.length := by omega
    have hx : xs[i].sz ≤ szRows (xs.map MParam.enc) := szRows_mem (List.mem_map_of_mem (List.getElem_mem hi))
    (repeat (with_reducible refine And.intro ?_ ?_; focus first | omega | rfl | assumption | exact ⟨_, rfl, rfl⟩ | (simp; omega) | (simp; done)))
    refine call_w (eqParam_ok xs[i] ys[i] (by omega)) ?_
    simp -implicitDefEqProofs (disch := omega) only [go_sem]
    with_reducible refine split2 (fun hb => ?_) (fun hb => ?_) <;> have h := hb <;> (try simp only [wf_preprocess] at h) <;> simp -implicitDefEqProofs (disch := omega) only [go_sem, hb] <;> (repeat (with_reducible refine And.intro ?_ ?_; focus first | omega | rfl | assumption | exact ⟨_, rfl, rfl⟩ | (simp; omega) | (simp; done)))
    · exact bool_eq (dec_false (fun e => h (by simp only [e]))).symm
    refine inv_at (i + 1) (by omega) rfl rfl ⟨by omega, fun j hj => ?_⟩
    by_cases e : j = i
    · subst e
      rw [List.getElem?_eq_getElem hi, List.getElem?_eq_getElem hi', h]
    · exact p2 j (by omega)
  · have hi : i = xs.length := by omega
    refine bool_eq (dec_true (List.ext_getElem? fun j => ?_)).symm
    by_cases hj : j < i
    · exact p2 j hj
    · rw [List.getElem?_eq_none (by omega), List.getElem?_eq_none (by omega)]
end Go.Proofs.YtnleocfkdidhoaaGreat

namespace Go.Proofs.YtnleocfkdidhoaaGreat
open Go Go.Ab
theorem szFunction_ok (x : MFunction) : ∀ left : Int, 0 ≤ left → left ≤ 1048576 → FitL x.enc → PCall Tryz.prog 138 [x.v, .c (.d (.i .i64 left))] (.c (.d (.i .i64 (sub1 left x.sz)))) := by
  intro left h0 h1 hf S
  simp only [MFunction.enc_eq, List.cons_append, List.nil_append, fitL_cons, fitL_append, fitL_nil_iff, and_true] at hf
  obtain ⟨fName, fVars, fWhere, fParams, fResult, fBody⟩ := hf
  have hz : x.sz = x.fName.length + ((x.fVars.length + szRows (x.fVars.map encS)) + ((x.fWhere.length + szRows (x.fWhere.map MBound.enc)) + ((x.fParams.length + szRows (x.fParams.map MParam.enc)) + (x.fResult.sz + (x.fBody.sz))))) := by
    simp only [MFunction.sz, MFunction.enc_eq, szRow, szRow_append, D.sz, List.length_map, Nat.add_zero, Nat.zero_add, MExpr.sz_def, MType.sz_def] <;> omega
  refine acall_cw (rs := [.tmp 4]) Tryz.checked.mixed Tryz.func138 Tryz.ntmps138 rfl rfl rfl rfl rfl ?_
  rw [hz]
  have gName := fit_s fName
  simp -implicitDefEqProofs (disch := omega) only [go_sem]
  with_reducible refine split2 (fun hb => ?_) (fun hb => ?_) <;> have h := hb <;> (try simp only [wf_preprocess] at h) <;> simp -implicitDefEqProofs (disch := omega) only [go_sem, hb] <;> (repeat (with_reducible refine And.intro ?_ ?_; focus first | omega | rfl | assumption | exact ⟨_, rfl, rfl⟩ | (simp; omega) | (simp; done)))
  · exact int_eq (sub1_no (by omega)).symm
  refine call_w (szStringS_ok x.fVars _ (by omega) (by omega) fVars) ?_
  simp -implicitDefEqProofs (disch := omega) only [go_sem]
  with_reducible refine split2 (fun hb => ?_) (fun hb => ?_) <;> have h := hb <;> (try simp only [wf_preprocess] at h) <;> simp -implicitDefEqProofs (disch := omega) only [go_sem, hb] <;> (repeat (with_reducible refine And.intro ?_ ?_; focus first | omega | rfl | assumption | exact ⟨_, rfl, rfl⟩ | (simp; omega) | (simp; done)))
  · have h' := sub1_neg h
    exact int_eq (sub1_no (by omega)).symm
  have hVars := sub1_nn h
  simp only [hVars.1]
  refine call_w (szBoundS_ok x.fWhere _ (by omega) (by omega) fWhere) ?_
  simp -implicitDefEqProofs (disch := omega) only [go_sem]
  with_reducible refine split2 (fun hb => ?_) (fun hb => ?_) <;> have h := hb <;> (try simp only [wf_preprocess] at h) <;> simp -implicitDefEqProofs (disch := omega) only [go_sem, hb] <;> (repeat (with_reducible refine And.intro ?_ ?_; focus first | omega | rfl | assumption | exact ⟨_, rfl, rfl⟩ | (simp; omega) | (simp; done)))
  · have h' := sub1_neg h
    exact int_eq (sub1_no (by omega)).symm
  have hWhere := sub1_nn h
  simp only [hWhere.1]
  refine call_w (szParamS_ok x.fParams _ (by omega) (by omega) fParams) ?_
  simp -implicitDefEqProofs (disch := omega) only [go_sem]
  with_reducible refine split2 (fun hb => ?_) (fun hb => ?_) <;> have h := hb <;> (try simp only [wf_preprocess] at h) <;> simp -implicitDefEqProofs (disch := omega) only [go_sem, hb] <;> (repeat (with_reducible refine And.intro ?_ ?_; focus first | omega | rfl | assumption | exact ⟨_, rfl, rfl⟩ | (simp; omega) | (simp; done)))
  · have h' := sub1_neg h
    exact int_eq (sub1_no (by omega)).symm
  have hParams := sub1_nn h
  simp only [hParams.1]
  refine call_w (szType_ok x.fResult _ (by omega) (by omega) fResult) ?_
  simp -implicitDefEqProofs (disch := omega) only [go_sem]
  with_reducible refine split2 (fun hb => ?_) (fun hb => ?_) <;> have h := hb <;> (try simp only [wf_preprocess] at h) <;> simp -implicitDefEqProofs (disch := omega) only [go_sem, hb] <;> (repeat (with_reducible refine And.intro ?_ ?_; focus first | omega | rfl | assumption | exact ⟨_, rfl, rfl⟩ | (simp; omega) | (simp; done)))
  · have h' := sub1_neg h
    exact int_eq (sub1_no (by omega)).symm
  have hResult := sub1_nn h
  simp only [hResult.1]
  refine call_w (szExpr_ok x.fBody _ (by omega) (by omega) fBody) ?_
  simp -implicitDefEqProofs (disch := omega) only [go_sem]
  with_reducible refine split2 (fun hb => ?_) (fun hb => ?_) <;> have h := hb <;> (try simp only [wf_preprocess] at h) <;> simp -implicitDefEqProofs (disch := omega) only [go_sem, hb] <;> (repeat (with_reducible refine And.intro ?_ ?_; focus first | omega | rfl | assumption | exact ⟨_, rfl, rfl⟩ | (simp; omega) | (simp; done)))
  · have h' := sub1_neg h
    exact int_eq (sub1_no (by omega)).symm
  have hBody := sub1_nn h
  simp only [hBody.1]
  refine int_eq ?_
  rw [sub1_yes (by omega)]
  omega
theorem szFunctionS_ok (xs : List MFunction) : ∀ left : Int, 0 ≤ left → left ≤ 1048576 → (D.sl (xs.map MFunction.enc)).Fit → PCall Tryz.prog 66 [.c (.d (.sl (xs.map MFunction.enc))), .c (.d (.i .i64 left))] (.c (.d (.i .i64 (sub1 left (xs.length + szRows (xs.map MFunction.enc)))))) := by
  intro left h0 h1 hf S
  obtain ⟨hf1, hf2⟩ := fit_sl hf
  rw [List.length_map] at hf1
  refine acall_cw (rs := [.tmp 4]) Tryz.checked.mixed Tryz.func66 Tryz.ntmps66 rfl rfl rfl rfl rfl ?_
  simp -implicitDefEqProofs (disch := omega) only [go_sem]
  with_reducible refine split2 (fun hb => ?_) (fun hb => ?_) <;> have h := hb <;> (try simp only [wf_preprocess] at h) <;> simp -implicitDefEqProofs (disch := omega) only [go_sem, hb] <;> (repeat (with_reducible refine And.intro ?_ ?_; focus first | omega | rfl | assumption | exact ⟨_, rfl, rfl⟩ | (simp; omega) | (simp; done)))
  · exact int_eq (sub1_no (by omega)).symm
  refine loop_at (ι := Nat × Int) Tryz.checked.mixed rfl [0, 1, 5] (fun y => [.c (.d (.sl (xs.map MFunction.enc))), .c (.d (.i .i64 y.2)), .c (.d (.i .i64 y.1))]) (fun _ => [] :: S)
    (fun y => y.1 ≤ xs.length ∧ 0 ≤ y.2 ∧ y.2 ≤ 1048576 ∧ sub1 y.2 (szRows ((xs.map MFunction.enc).drop y.1)) = sub1 left (xs.length + szRows (xs.map MFunction.enc))) (fun y => xs.length - y.1) (0, left - xs.length) rfl rfl ⟨by omega, by omega, by omega, ?_⟩ ?_
  · unfold sub1
    rw [List.drop_zero]
    split <;> split <;> omega
  rintro ⟨i, l⟩ ⟨p1, p2, p3, p4⟩
  simp only at p1 p2 p3 p4
  simp -implicitDefEqProofs (disch := omega) only [go_sem]
  with_reducible refine split2 (fun hb => ?_) (fun hb => ?_) <;> have h := hb <;> (try simp only [wf_preprocess] at h) <;> simp -implicitDefEqProofs (disch := omega) only [go_sem, hb] <;> (repeat (with_reducible refine And.intro ?_ ?_; focus first | omega | rfl | assumption | exact ⟨_, rfl, rfl⟩ | (simp; omega) | (simp; done)))
  · have hi : i < xs.length := by omega
    rw [List.drop_eq_getElem_cons (by rw [List.length_map]; exact hi), szRows, List.getElem_map, MFunction.sz_def] at p4
    (repeat (with_reducible refine And.intro ?_ ?_; focus first | omega | rfl | assumption | exact ⟨_, rfl, rfl⟩ | (simp; omega) | (simp; done)))
    refine call_w (szFunction_ok xs[i] _ (by omega) (by omega) (hf2 _ (List.mem_map_of_mem (List.getElem_mem hi)))) ?_
    simp -implicitDefEqProofs (disch := omega) only [go_sem]
    with_reducible refine split2 (fun hb => ?_) (fun hb => ?_) <;> have h := hb <;> (try simp only [wf_preprocess] at h) <;> simp -implicitDefEqProofs (disch := omega) only [go_sem, hb] <;> (repeat (with_reducible refine And.intro ?_ ?_; focus first | omega | rfl | assumption | exact ⟨_, rfl, rfl⟩ | (simp; omega) | (simp; done)))
    · have h' := sub1_neg h
      rw [← p4, sub1_no (by omega)]
    · have h' := sub1_nn h
      refine inv_at (i + 1, sub1 l _) (by simp only; omega) rfl rfl ⟨by simp only; omega, by simp only; omega, by simp only; omega, ?_⟩
      simp only
      rw [← p4, h'.1]
      unfold sub1
      split <;> split <;> omega
  · have hi : i = xs.length := by omega
    rw [hi, List.drop_of_length_le (by simp), szRows, sub1_yes (by omega)] at p4
    rw [← p4]
    refine int_eq ?_
    omega
theorem toFunction_ok (x : MFunction) : x.sz ≤ 1048576 → PCall Tryz.prog 148 [x.v] x.v := by
  intro hsz S
  simp only [MFunction.sz, MFunction.enc_eq, szRow, szRow_append, D.sz, List.length_map, MExpr.sz_def, MType.sz_def] at hsz
  refine acall_cw (rs := [.cell 2 145]) Tryz.checked.mixed Tryz.func148 Tryz.ntmps148 rfl rfl rfl rfl rfl ?_
  simp -implicitDefEqProofs (disch := omega) only [go_sem]
  refine call_w (toStringS_ok x.fVars (by omega)) ?_
  simp -implicitDefEqProofs (disch := omega) only [go_sem]
  refine call_w (toBoundS_ok x.fWhere (by omega)) ?_
  simp -implicitDefEqProofs (disch := omega) only [go_sem]
  refine call_w (toParamS_ok x.fParams (by omega)) ?_
  simp -implicitDefEqProofs (disch := omega) only [go_sem]
  refine call_w (toType_ok x.fResult (by omega)) ?_
  simp -implicitDefEqProofs (disch := omega) only [go_sem]
  refine call_w (toExpr_ok x.fBody (by omega)) ?_
  simp -implicitDefEqProofs (disch := omega) only [go_sem]
theorem toFunctionS_ok (xs : List MFunction) : xs.length + szRows (xs.map MFunction.enc) ≤ 1048576 → PCall Tryz.prog 77 [.c (.d (.sl (xs.map MFunction.enc)))] (.c (.d (.sl (xs.map MFunction.enc)))) := by
  intro hsz S
  refine acall_cw (rs := [.tmp 2]) Tryz.checked.mixed Tryz.func77 Tryz.ntmps77 rfl rfl rfl rfl rfl ?_
  simp -implicitDefEqProofs (disch := omega) only [go_sem]
  (repeat (with_reducible refine And.intro ?_ ?_; focus first | omega | rfl | assumption | exact ⟨_, rfl, rfl⟩ | (simp; omega) | (simp; done)))
  refine loop_at (ι := Nat × List (List D)) Tryz.checked.mixed rfl [0, 3, 4] (fun y => [.c (.d (.sl (xs.map MFunction.enc))), .c (.msl (0, 0)), .c (.d (.i .i64 y.1))]) (fun y => [.mrow 16 y.2] :: S)
    (fun y => y.1 ≤ xs.length ∧ Filled 16 y.1 y.2 (xs.map MFunction.enc)) (fun y => xs.length - y.1) (0, _) rfl rfl ⟨Nat.zero_le _, Filled.start (by simp) rfl⟩ ?_
  rintro ⟨i, R⟩ ⟨p1, p2⟩
  simp only at p1 p2
  simp -implicitDefEqProofs (disch := omega) only [go_sem]
  with_reducible refine split2 (fun hb => ?_) (fun hb => ?_) <;> have h := hb <;> (try simp only [wf_preprocess] at h) <;> simp -implicitDefEqProofs (disch := omega) only [go_sem, hb] <;> (repeat (with_reducible refine And.intro ?_ ?_; focus first | omega | rfl | assumption | exact ⟨_, rfl, rfl⟩ | (simp; omega) | (simp; done)))
  · have hi : i < xs.length := by omega
    have hx : xs[i].sz ≤ szRows (xs.map MFunction.enc) := szRows_mem (List.mem_map_of_mem (List.getElem_mem hi))
    (repeat (with_reducible refine And.intro ?_ ?_; focus first | omega | rfl | assumption | exact ⟨_, rfl, rfl⟩ | (simp; omega) | (simp; done)))
    refine call_w (toFunction_ok xs[i] (by omega)) ?_
    simp -implicitDefEqProofs (disch := omega) only [go_sem]
    have hR := p2.1
    rw [List.length_map] at hR
    (repeat (with_reducible refine And.intro ?_ ?_; focus first | omega | rfl | assumption | exact ⟨_, rfl, rfl⟩ | (simp; omega) | (simp; done)))
    refine inv_at (i + 1, _) (by simp only; omega) rfl rfl ⟨by simp only; omega, p2.step (by simp [hi, MExpr.enc_eq, MFunction.enc_eq, MType.enc_eq]) rfl⟩
  · have hi : i = xs.length := by omega
    rw [p2.done (by rw [List.length_map]; omega)]
theorem eqFunction_ok (x : MFunction) : ∀ y : MFunction, x.sz ≤ 1048576 → PCall Tryz.prog 167 [x.v, y.v] (.c (.d (.b (dec (x = y))))) := by
  intro y hsz S
  simp only [MFunction.sz, MFunction.enc_eq, szRow, szRow_append, D.sz, List.length_map, MExpr.sz_def, MType.sz_def] at hsz
  refine acall_cw (rs := [.tmp 4]) Tryz.checked.mixed Tryz.func167 Tryz.ntmps167 rfl rfl rfl rfl rfl ?_
  simp -implicitDefEqProofs (disch := omega) only [go_sem]
  with_reducible refine split2 (fun hb => ?_) (fun hb => ?_) <;> have h := hb <;> (try simp only [wf_preprocess] at h) <;> simp -implicitDefEqProofs (disch := omega) only [go_sem, hb] <;> (repeat (with_reducible refine And.intro ?_ ?_; focus first | omega | rfl | assumption | exact ⟨_, rfl, rfl⟩ | (simp; omega) | (simp; done)))
  · exact bool_eq (dec_false (fun e => h (by rw [e]))).symm
  have eName := h
  clear h
  refine call_w (eqStringS_ok x.fVars _ (by omega)) ?_
  simp -implicitDefEqProofs (disch := omega) only [go_sem]
  with_reducible refine split2 (fun hb => ?_) (fun hb => ?_) <;> have h := hb <;> (try simp only [wf_preprocess] at h) <;> simp -implicitDefEqProofs (disch := omega) only [go_sem, hb] <;> (repeat (with_reducible refine And.intro ?_ ?_; focus first | omega | rfl | assumption | exact ⟨_, rfl, rfl⟩ | (simp; omega) | (simp; done)))
  · exact bool_eq (dec_false (fun e => h (by rw [e]))).symm
  have eVars := h
  clear h
  refine call_w (eqBoundS_ok x.fWhere _ (by omega)) ?_
  simp -implicitDefEqProofs (disch := omega) only [go_sem]
  with_reducible refine split2 (fun hb => ?_) (fun hb => ?_) <;> have h := hb <;> (try simp only [wf_preprocess] at h) <;> simp -implicitDefEqProofs (disch := omega) only [go_sem, hb] <;> (repeat (with_reducible refine And.intro ?_ ?_; focus first | omega | rfl | assumption | exact ⟨_, rfl, rfl⟩ | (simp; omega) | (simp; done)))
  · exact bool_eq (dec_false (fun e => h (by rw [e]))).symm
  have eWhere := h
  clear h
  refine call_w (eqParamS_ok x.fParams _ (by omega)) ?_
  simp -implicitDefEqProofs (disch := omega) only [go_sem]
  with_reducible refine split2 (fun hb => ?_) (fun hb => ?_) <;> have h := hb <;> (try simp only [wf_preprocess] at h) <;> simp -implicitDefEqProofs (disch := omega) only [go_sem, hb] <;> (repeat (with_reducible refine And.intro ?_ ?_; focus first | omega | rfl | assumption | exact ⟨_, rfl, rfl⟩ | (simp; omega) | (simp; done)))
  · exact bool_eq (dec_false (fun e => h (by rw [e]))).symm
  have eParams := h
  clear h
  refine call_w (eqType_ok x.fResult _ (by omega)) ?_
  simp -implicitDefEqProofs (disch := omega) only [go_sem]
  with_reducible refine split2 (fun hb => ?_) (fun hb => ?_) <;> have h := hb <;> (try simp only [wf_preprocess] at h) <;> simp -implicitDefEqProofs (disch := omega) only [go_sem, hb] <;> (repeat (with_reducible refine And.intro ?_ ?_; focus first | omega | rfl | assumption | exact ⟨_, rfl, rfl⟩ | (simp; omega) | (simp; done)))
  · exact bool_eq (dec_false (fun e => h (by rw [e]))).symm
  have eResult := h
  clear h
  refine call_w (eqExpr_ok x.fBody _ (by omega)) ?_
  simp -implicitDefEqProofs (disch := omega) only [go_sem]
  with_reducible refine split2 (fun hb => ?_) (fun hb => ?_) <;> have h := hb <;> (try simp only [wf_preprocess] at h) <;> simp -implicitDefEqProofs (disch := omega) only [go_sem, hb] <;> (repeat (with_reducible refine And.intro ?_ ?_; focus first | omega | rfl | assumption | exact ⟨_, rfl, rfl⟩ | (simp; omega) | (simp; done)))
  · exact bool_eq (dec_false (fun e => h (by rw [e]))).symm
  have eBody := h
  clear h
  exact bool_eq (dec_true (MFunction.ext' eName eVars eWhere eParams eResult eBody)).symm
theorem eqFunctionS_ok (xs : List MFunction) : ∀ ys : List MFunction, xs.length + szRows (xs.map MFunction.enc) ≤ 1048576 → PCall Tryz.prog 90 [.c (.d (.sl (xs.map MFunction.enc))), .c (.d (.sl (ys.map MFunction.enc)))] (.c (.d (.b (dec (xs = ys))))) := by
  intro ys hsz S
  refine acall_cw (rs := [.tmp 4]) Tryz.checked.mixed Tryz.func90 Tryz.ntmps90 rfl rfl rfl rfl rfl ?_
  simp -implicitDefEqProofs (disch := omega) only [go_sem]
  with_reducible refine split2 (fun hb => ?_) (fun hb => ?_) <;> have h := hb <;> (try simp only [wf_preprocess] at h) <;> simp -implicitDefEqProofs (disch := omega) only [go_sem, hb] <;> (repeat (with_reducible refine And.intro ?_ ?_; focus first | omega | rfl | assumption | exact ⟨_, rfl, rfl⟩ | (simp; omega) | (simp; done)))
  · exact bool_eq (dec_false (fun e => h (by rw [e]))).symm
  have hl : xs.length = ys.length := by omega
  refine loop_at (ι := Nat) Tryz.checked.mixed rfl [0, 1, 5] (fun y => [.c (.d (.sl (xs.map MFunction.enc))), .c (.d (.sl (ys.map MFunction.enc))), .c (.d (.i .i64 y))]) (fun y => [] :: S)
    (fun i => i ≤ xs.length ∧ ∀ j, j < i → xs[j]? = ys[j]?) (fun y => xs.length - y) 0 rfl rfl ⟨Nat.zero_le _, fun j h => by omega⟩ ?_
  rintro i ⟨p1, p2⟩
  simp -implicitDefEqProofs (disch := omega) only [go_sem]
  with_reducible refine split2 (fun hb => ?_) (fun hb => ?_) <;> have h := hb <;> (try simp only [wf_preprocess] at h) <;> simp -implicitDefEqProofs (disch := omega) only [go_sem, hb] <;> (repeat (with_reducible refine And.intro ?_ ?_; focus first | omega | rfl | assumption | exact ⟨_, rfl, rfl⟩ | (simp; omega) | (simp; done)))
  · have hi : i < xs.length := by omega
    have hi' : i < ys.length := by omega
    have hx : xs[i].sz ≤ szRows (xs.map MFunction.enc) := szRows_mem (List.mem_map_of_mem (List.getElem_mem hi))
    (repeat (with_reducible refine And.intro ?_ ?_; focus first | omega | rfl | assumption | exact ⟨_, rfl, rfl⟩ | (simp; omega) | (simp; done)))
    refine call_w (eqFunction_ok xs[i] ys[i] (by omega)) ?_
    simp -implicitDefEqProofs (disch := omega) only [go_sem]
    with_reducible refine split2 (fun hb => ?_) (fun hb => ?_) <;> have h := hb <;> (try simp only [wf_preprocess] at h) <;> simp -implicitDefEqProofs (disch := omega) only [go_sem, hb] <;> (repeat (with_reducible refine And.intro ?_ ?_; focus first | omega | rfl | assumption | exact ⟨_, rfl, rfl⟩ | (simp; omega) | (simp; done)))
    · exact bool_eq (dec_false (fun e => h (by simp only [e]))).symm
    refine inv_at (i + 1) (by omega) rfl rfl ⟨by omega, fun j hj => ?_⟩
    by_cases e : j = i
    · subst e
      rw [List.getElem?_eq_getElem hi, List.getElem?_eq_getElem hi', h]
    · exact p2 j (by omega)
  · have hi : i = xs.length := by omega
    refine bool_eq (dec_true (List.ext_getElem? fun j => ?_)).symm
    by_cases hj : j < i
    · exact p2 j hj
    · rw [List.getElem?_eq_none (by omega), List.getElem?_eq_none (by omega)]
end Go.Proofs.YtnleocfkdidhoaaGreat

namespace Go.Proofs.YtnleocfkdidhoaaGreat
open Go Go.Ab
theorem szPackage_ok (x : MPackage) : ∀ left : Int, 0 ≤ left → left ≤ 1048576 → FitL x.enc → PCall Tryz.prog 18 [x.v, .c (.d (.i .i64 left))] (.c (.d (.i .i64 (sub1 left x.sz)))) := by
  intro left h0 h1 hf S
  simp only [MPackage.enc_eq, List.cons_append, List.nil_append, fitL_cons, fitL_append, fitL_nil_iff, and_true] at hf
  obtain ⟨fName, fDeps, fTraits, fDataTypes, fInstances, fFunctions⟩ := hf
  have hz : x.sz = x.fName.length + ((x.fDeps.length + szRows (x.fDeps.map encS)) + ((x.fTraits.length + szRows (x.fTraits.map MTrait.enc)) + ((x.fDataTypes.length + szRows (x.fDataTypes.map MDataType.enc)) + ((x.fInstances.length + szRows (x.fInstances.map MInstance.enc)) + ((x.fFunctions.length + szRows (x.fFunctions.map MFunction.enc))))))) := by
    simp only [MPackage.sz, MPackage.enc_eq, szRow, szRow_append, D.sz, List.length_map, Nat.add_zero, Nat.zero_add] <;> omega
  refine acall_cw (rs := [.tmp 4]) Tryz.checked.mixed Tryz.func18 Tryz.ntmps18 rfl rfl rfl rfl rfl ?_
  rw [hz]
  have gName := fit_s fName
  simp -implicitDefEqProofs (disch := omega) only [go_sem]
  with_reducible refine split2 (fun hb => ?_) (fun hb => ?_) <;> have h := hb <;> (try simp only [wf_preprocess] at h) <;> simp -implicitDefEqProofs (disch := omega) only [go_sem, hb] <;> (repeat (with_reducible refine And.intro ?_ ?_; focus first | omega | rfl | assumption | exact ⟨_, rfl, rfl⟩ | (simp; omega) | (simp; done)))
  · exact int_eq (sub1_no (by omega)).symm
  refine call_w (szStringS_ok x.fDeps _ (by omega) (by omega) fDeps) ?_
  simp -implicitDefEqProofs (disch := omega) only [go_sem]
  with_reducible refine split2 (fun hb => ?_) (fun hb => ?_) <;> have h := hb <;> (try simp only [wf_preprocess] at h) <;> simp -implicitDefEqProofs (disch := omega) only [go_sem, hb] <;> (repeat (with_reducible refine And.intro ?_ ?_; focus first | omega | rfl | assumption | exact ⟨_, rfl, rfl⟩ | (simp; omega) | (simp; done)))
  · have h' := sub1_neg h
    exact int_eq (sub1_no (by omega)).symm
  have hDeps := sub1_nn h
  simp only [hDeps.1]
  refine call_w (szTraitS_ok x.fTraits _ (by omega) (by omega) fTraits) ?_
  simp -implicitDefEqProofs (disch := omega) only [go_sem]
  with_reducible refine split2 (fun hb => ?_) (fun hb => ?_) <;> have h := hb <;> (try simp only [wf_preprocess] at h) <;> simp -implicitDefEqProofs (disch := omega) only [go_sem, hb] <;> (repeat (with_reducible refine And.intro ?_ ?_; focus first | omega | rfl | assumption | exact ⟨_, rfl, rfl⟩ | (simp; omega) | (simp; done)))
  · have h' := sub1_neg h
    exact int_eq (sub1_no (by omega)).symm
  have hTraits := sub1_nn h
  simp only [hTraits.1]
  refine call_w (szDataTypeS_ok x.fDataTypes _ (by omega) (by omega) fDataTypes) ?_
  simp -implicitDefEqProofs (disch := omega) only [go_sem]
  with_reducible refine split2 (fun hb => ?_) (fun hb => ?_) <;> have h := hb <;> (try simp only [wf_preprocess] at h) <;> simp -implicitDefEqProofs (disch := omega) only [go_sem, hb] <;> (repeat (with_reducible refine And.intro ?_ ?_; focus first | omega | rfl | assumption | exact ⟨_, rfl, rfl⟩ | (simp; omega) | (simp; done)))
  · have h' := sub1_neg h
    exact int_eq (sub1_no (by omega)).symm
  have hDataTypes := sub1_nn h
  simp only [hDataTypes.1]
  refine call_w (szInstanceS_ok x.fInstances _ (by omega) (by omega) fInstances) ?_
  simp -implicitDefEqProofs (disch := omega) only [go_sem]
  with_reducible refine split2 (fun hb => ?_) (fun hb => ?_) <;> have h := hb <;> (try simp only [wf_preprocess] at h) <;> simp -implicitDefEqProofs (disch := omega) only [go_sem, hb] <;> (repeat (with_reducible refine And.intro ?_ ?_; focus first | omega | rfl | assumption | exact ⟨_, rfl, rfl⟩ | (simp; omega) | (simp; done)))
  · have h' := sub1_neg h
    exact int_eq (sub1_no (by omega)).symm
  have hInstances := sub1_nn h
  simp only [hInstances.1]
  refine call_w (szFunctionS_ok x.fFunctions _ (by omega) (by omega) fFunctions) ?_
  simp -implicitDefEqProofs (disch := omega) only [go_sem]
  with_reducible refine split2 (fun hb => ?_) (fun hb => ?_) <;> have h := hb <;> (try simp only [wf_preprocess] at h) <;> simp -implicitDefEqProofs (disch := omega) only [go_sem, hb] <;> (repeat (with_reducible refine And.intro ?_ ?_; focus first | omega | rfl | assumption | exact ⟨_, rfl, rfl⟩ | (simp; omega) | (simp; done)))
  · have h' := sub1_neg h
    exact int_eq (sub1_no (by omega)).symm
  have hFunctions := sub1_nn h
  simp only [hFunctions.1]
  refine int_eq ?_
  rw [sub1_yes (by omega)]
  omega
theorem szPackageS_ok (xs : List MPackage) : ∀ left : Int, 0 ≤ left → left ≤ 1048576 → (D.sl (xs.map MPackage.enc)).Fit → PCall Tryz.prog 47 [.c (.d (.sl (xs.map MPackage.enc))), .c (.d (.i .i64 left))] (.c (.d (.i .i64 (sub1 left (xs.length + szRows (xs.map MPackage.enc)))))) := by
  intro left h0 h1 hf S
  obtain ⟨hf1, hf2⟩ := fit_sl hf
  rw [List.length_map] at hf1
  refine acall_cw (rs := [.tmp 4]) Tryz.checked.mixed Tryz.func47 Tryz.ntmps47 rfl rfl rfl rfl rfl ?_
  simp -implicitDefEqProofs (disch := omega) only [go_sem]
  with_reducible refine split2 (fun hb => ?_) (fun hb => ?_) <;> have h := hb <;> (try simp only [wf_preprocess] at h) <;> simp -implicitDefEqProofs (disch := omega) only [go_sem, hb] <;> (repeat (with_reducible refine And.intro ?_ ?_; focus first | omega | rfl | assumption | exact ⟨_, rfl, rfl⟩ | (simp; omega) | (simp; done)))
  · exact int_eq (sub1_no (by omega)).symm
  refine loop_at (ι := Nat × Int) Tryz.checked.mixed rfl [0, 1, 5] (fun y => [.c (.d (.sl (xs.map MPackage.enc))), .c (.d (.i .i64 y.2)), .c (.d (.i .i64 y.1))]) (fun _ => [] :: S)
    (fun y => y.1 ≤ xs.length ∧ 0 ≤ y.2 ∧ y.2 ≤ 1048576 ∧ sub1 y.2 (szRows ((xs.map MPackage.enc).drop y.1)) = sub1 left (xs.length + szRows (xs.map MPackage.enc))) (fun y => xs.length - y.1) (0, left - xs.length) rfl rfl ⟨by omega, by omega, by omega, ?_⟩ ?_
  · unfold sub1
    rw [List.drop_zero]
    split <;> split <;> omega
  rintro ⟨i, l⟩ ⟨p1, p2, p3, p4⟩
  simp only at p1 p2 p3 p4
  simp -implicitDefEqProofs (disch := omega) only [go_sem]
  with_reducible refine split2 (fun hb => ?_) (fun hb => ?_) <;> have h := hb <;> (try simp only [wf_preprocess] at h) <;> simp -implicitDefEqProofs (disch := omega) only [go_sem, hb] <;> (repeat (with_reducible refine And.intro ?_ ?_; focus first | omega | rfl | assumption | exact ⟨_, rfl, rfl⟩ | (simp; omega) | (simp; done)))
  · have hi : i < xs.length := by omega
    rw [List.drop_eq_getElem_cons (by rw [List.length_map]; exact hi), szRows, List.getElem_map, MPackage.sz_def] at p4
    (repeat (with_reducible refine And.intro ?_ ?_; focus first | omega | rfl | assumption | exact ⟨_, rfl, rfl⟩ | (simp; omega) | (simp; done)))
    refine call_w (szPackage_ok xs[i] _ (by omega) (by omega) (hf2 _ (List.mem_map_of_mem (List.getElem_mem hi)))) ?_
    simp -implicitDefEqProofs (disch := omega) only [go_sem]
    with_reducible refine split2 (fun hb => ?_) (fun hb => ?_) <;> have h := hb <;> (try simp only [wf_preprocess] at h) <;> simp -implicitDefEqProofs (disch := omega) only [go_sem, hb] <;> (repeat (with_reducible refine And.intro ?_ ?_; focus first | omega | rfl | assumption | exact ⟨_, rfl, rfl⟩ | (simp; omega) | (simp; done)))
    · have h' := sub1_neg h
      rw [← p4, sub1_no (by omega)]
    · have h' := sub1_nn h
      refine inv_at (i + 1, sub1 l _) (by simp only; omega) rfl rfl ⟨by simp only; omega, by simp only; omega, by simp only; omega, ?_⟩
      simp only
      rw [← p4, h'.1]
      unfold sub1
      split <;> split <;> omega
  · have hi : i = xs.length := by omega
    rw [hi, List.drop_of_length_le (by simp), szRows, sub1_yes (by omega)] at p4
    rw [← p4]
    refine int_eq ?_
    omega
theorem toPackage_ok (x : MPackage) : x.sz ≤ 1048576 → PCall Tryz.prog 20 [x.v] x.v := by
  intro hsz S
  simp only [MPackage.sz, MPackage.enc_eq, szRow, szRow_append, D.sz, List.length_map] at hsz
  refine acall_cw (rs := [.cell 2 64]) Tryz.checked.mixed Tryz.func20 Tryz.ntmps20 rfl rfl rfl rfl rfl ?_
  simp -implicitDefEqProofs (disch := omega) only [go_sem]
  refine call_w (toStringS_ok x.fDeps (by omega)) ?_
  simp -implicitDefEqProofs (disch := omega) only [go_sem]
  refine call_w (toTraitS_ok x.fTraits (by omega)) ?_
  simp -implicitDefEqProofs (disch := omega) only [go_sem]
  refine call_w (toDataTypeS_ok x.fDataTypes (by omega)) ?_
  simp -implicitDefEqProofs (disch := omega) only [go_sem]
  refine call_w (toInstanceS_ok x.fInstances (by omega)) ?_
  simp -implicitDefEqProofs (disch := omega) only [go_sem]
  refine call_w (toFunctionS_ok x.fFunctions (by omega)) ?_
  simp -implicitDefEqProofs (disch := omega) only [go_sem]
theorem toPackageS_ok (xs : List MPackage) : xs.length + szRows (xs.map MPackage.enc) ≤ 1048576 → PCall Tryz.prog 52 [.c (.d (.sl (xs.map MPackage.enc)))] (.c (.d (.sl (xs.map MPackage.enc)))) := by
  intro hsz S
  refine acall_cw (rs := [.tmp 2]) Tryz.checked.mixed Tryz.func52 Tryz.ntmps52 rfl rfl rfl rfl rfl ?_
  simp -implicitDefEqProofs (disch := omega) only [go_sem]
  (repeat (with_reducible refine And.intro ?_ ?_; focus first | omega | rfl | assumption | exact ⟨_, rfl, rfl⟩ | (simp; omega) | (simp; done)))
  refine loop_at (ι := Nat × List (List D)) Tryz.checked.mixed rfl [0, 3, 4] (fun y => [.c (.d (.sl (xs.map MPackage.enc))), .c (.msl (0, 0)), .c (.d (.i .i64 y.1))]) (fun y => [.mrow 6 y.2] :: S)
    (fun y => y.1 ≤ xs.length ∧ Filled 6 y.1 y.2 (xs.map MPackage.enc)) (fun y => xs.length - y.1) (0, _) rfl rfl ⟨Nat.zero_le _, Filled.start (by simp) rfl⟩ ?_
  rintro ⟨i, R⟩ ⟨p1, p2⟩
  simp only at p1 p2
  simp -implicitDefEqProofs (disch := omega) only [go_sem]
  with_reducible refine split2 (fun hb => ?_) (fun hb => ?_) <;> have h := hb <;> (try simp only [wf_preprocess] at h) <;> simp -implicitDefEqProofs (disch := omega) only [go_sem, hb] <;> (repeat (with_reducible refine And.intro ?_ ?_; focus first | omega | rfl | assumption | exact ⟨_, rfl, rfl⟩ | (simp; omega) | (simp; done)))
  · have hi : i < xs.length := by omega
    have hx : xs[i].sz ≤ szRows (xs.map MPackage.enc) := szRows_mem (List.mem_map_of_mem (List.getElem_mem hi))
    (repeat (with_reducible refine And.intro ?_ ?_; focus first | omega | rfl | assumption | exact ⟨_, rfl, rfl⟩ | (simp; omega) | (simp; done)))
    refine call_w (toPackage_ok xs[i] (by omega)) ?_
    simp -implicitDefEqProofs (disch := omega) only [go_sem]
    have hR := p2.1
    rw [List.length_map] at hR
    (repeat (with_reducible refine And.intro ?_ ?_; focus first | omega | rfl | assumption | exact ⟨_, rfl, rfl⟩ | (simp; omega) | (simp; done)))
    refine inv_at (i + 1, _) (by simp only; omega) rfl rfl ⟨by simp only; omega, p2.step (by simp [hi, MPackage.enc_eq]) rfl⟩
  · have hi : i = xs.length := by omega
    rw [p2.done (by rw [List.length_map]; omega)]
theorem eqPackage_ok (x : MPackage) : ∀ y : MPackage, x.sz ≤ 1048576 → PCall Tryz.prog 22 [x.v, y.v] (.c (.d (.b (dec (x = y))))) := by
  intro y hsz S
  simp only [MPackage.sz, MPackage.enc_eq, szRow, szRow_append, D.sz, List.length_map] at hsz
  refine acall_cw (rs := [.tmp 4]) Tryz.checked.mixed Tryz.func22 Tryz.ntmps22 rfl rfl rfl rfl rfl ?_
  simp -implicitDefEqProofs (disch := omega) only [go_sem]
  with_reducible refine split2 (fun hb => ?_) (fun hb => ?_) <;> have h := hb <;> (try simp only [wf_preprocess] at h) <;> simp -implicitDefEqProofs (disch := omega) only [go_sem, hb] <;> (repeat (with_reducible refine And.intro ?_ ?_; focus first | omega | rfl | assumption | exact ⟨_, rfl, rfl⟩ | (simp; omega) | (simp; done)))
  · exact bool_eq (dec_false (fun e => h (by rw [e]))).symm
  have eName := h
  clear h
  refine call_w (eqStringS_ok x.fDeps _ (by omega)) ?_
  simp -implicitDefEqProofs (disch := omega) only [go_sem]
  with_reducible refine split2 (fun hb => ?_) (fun hb => ?_) <;> have h := hb <;> (try simp only [wf_preprocess] at h) <;> simp -implicitDefEqProofs (disch := omega) only [go_sem, hb] <;> (repeat (with_reducible refine And.intro ?_ ?_; focus first | omega | rfl | assumption | exact ⟨_, rfl, rfl⟩ | (simp; omega) | (simp; done)))
  · exact bool_eq (dec_false (fun e => h (by rw [e]))).symm
  have eDeps := h
  clear h
  refine call_w (eqTraitS_ok x.fTraits _ (by omega)) ?_
  simp -implicitDefEqProofs (disch := omega) only [go_sem]
  with_reducible refine split2 (fun hb => ?_) (fun hb => ?_) <;> have h := hb <;> (try simp only [wf_preprocess] at h) <;> simp -implicitDefEqProofs (disch := omega) only [go_sem, hb] <;> (repeat (with_reducible refine And.intro ?_ ?_; focus first | omega | rfl | assumption | exact ⟨_, rfl, rfl⟩ | (simp; omega) | (simp; done)))
  · exact bool_eq (dec_false (fun e => h (by rw [e]))).symm
  have eTraits := h
  clear h
  refine call_w (eqDataTypeS_ok x.fDataTypes _ (by omega)) ?_
  simp -implicitDefEqProofs (disch := omega) only [go_sem]
  with_reducible refine split2 (fun hb => ?_) (fun hb => ?_) <;> have h := hb <;> (try simp only [wf_preprocess] at h) <;> simp -implicitDefEqProofs (disch := omega) only [go_sem, hb] <;> (repeat (with_reducible refine And.intro ?_ ?_; focus first | omega | rfl | assumption | exact ⟨_, rfl, rfl⟩ | (simp; omega) | (simp; done)))
  · exact bool_eq (dec_false (fun e => h (by rw [e]))).symm
  have eDataTypes := h
  clear h
  refine call_w (eqInstanceS_ok x.fInstances _ (by omega)) ?_
  simp -implicitDefEqProofs (disch := omega) only [go_sem]
  with_reducible refine split2 (fun hb => ?_) (fun hb => ?_) <;> have h := hb <;> (try simp only [wf_preprocess] at h) <;> simp -implicitDefEqProofs (disch := omega) only [go_sem, hb] <;> (repeat (with_reducible refine And.intro ?_ ?_; focus first | omega | rfl | assumption | exact ⟨_, rfl, rfl⟩ | (simp; omega) | (simp; done)))
  · exact bool_eq (dec_false (fun e => h (by rw [e]))).symm
  have eInstances := h
  clear h
  refine call_w (eqFunctionS_ok x.fFunctions _ (by omega)) ?_
  simp -implicitDefEqProofs (disch := omega) only [go_sem]
  with_reducible refine split2 (fun hb => ?_) (fun hb => ?_) <;> have h := hb <;> (try simp only [wf_preprocess] at h) <;> simp -implicitDefEqProofs (disch := omega) only [go_sem, hb] <;> (repeat (with_reducible refine And.intro ?_ ?_; focus first | omega | rfl | assumption | exact ⟨_, rfl, rfl⟩ | (simp; omega) | (simp; done)))
  · exact bool_eq (dec_false (fun e => h (by rw [e]))).symm
  have eFunctions := h
  clear h
  exact bool_eq (dec_true (MPackage.ext' eName eDeps eTraits eDataTypes eInstances eFunctions)).symm
theorem eqPackageS_ok (xs : List MPackage) : ∀ ys : List MPackage, xs.length + szRows (xs.map MPackage.enc) ≤ 1048576 → PCall Tryz.prog 58 [.c (.d (.sl (xs.map MPackage.enc))), .c (.d (.sl (ys.map MPackage.enc)))] (.c (.d (.b (dec (xs = ys))))) := by
  intro ys hsz S
  refine acall_cw (rs := [.tmp 4]) Tryz.checked.mixed Tryz.func58 Tryz.ntmps58 rfl rfl rfl rfl rfl ?_
  simp -implicitDefEqProofs (disch := omega) only [go_sem]
  with_reducible refine split2 (fun hb => ?_) (fun hb => ?_) <;> have h := hb <;> (try simp only [wf_preprocess] at h) <;> simp -implicitDefEqProofs (disch := omega) only [go_sem, hb] <;> (repeat (with_reducible refine And.intro ?_ ?_; focus first | omega | rfl | assumption | exact ⟨_, rfl, rfl⟩ | (simp; omega) | (simp; done)))
  · exact bool_eq (dec_false (fun e => h (by rw [e]))).symm
  have hl : xs.length = ys.length := by omega
  refine loop_at (ι := Nat) Tryz.checked.mixed rfl [0, 1, 5] (fun y => [.c (.d (.sl (xs.map MPackage.enc))), .c (.d (.sl (ys.map MPackage.enc))), .c (.d (.i .i64 y))]) (fun y => [] :: S)
    (fun i => i ≤ xs.length ∧ ∀ j, j < i → xs[j]? = ys[j]?) (fun y => xs.length - y) 0 rfl rfl ⟨Nat.zero_le _, fun j h => by omega⟩ ?_
  rintro i ⟨p1, p2⟩
  simp -implicitDefEqProofs (disch := omega) only [go_sem]
  with_reducible refine split2 (fun hb => ?_) (fun hb => ?_) <;> have h := hb <;> (try simp only [wf_preprocess] at h) <;> simp -implicitDefEqProofs (disch := omega) only [go_sem, hb] <;> (repeat (with_reducible refine And.intro ?_ ?_; focus first | omega | rfl | assumption | exact ⟨_, rfl, rfl⟩ | (simp; omega) | (simp; done)))
  · have hi : i < xs.length := by omega
    have hi' : i < ys.length := by omega
    have hx : xs[i].sz ≤ szRows (xs.map MPackage.enc) := szRows_mem (List.mem_map_of_mem (List.getElem_mem hi))
    (repeat (with_reducible refine And.intro ?_ ?_; focus first | omega | rfl | assumption | exact ⟨_, rfl, rfl⟩ | (simp; omega) | (simp; done)))
    refine call_w (eqPackage_ok xs[i] ys[i] (by omega)) ?_
    simp -implicitDefEqProofs (disch := omega) only [go_sem]
    with_reducible refine split2 (fun hb => ?_) (fun hb => ?_) <;> have h := hb <;> (try simp only [wf_preprocess] at h) <;> simp -implicitDefEqProofs (disch := omega) only [go_sem, hb] <;> (repeat (with_reducible refine And.intro ?_ ?_; focus first | omega | rfl | assumption | exact ⟨_, rfl, rfl⟩ | (simp; omega) | (simp; done)))
    · exact bool_eq (dec_false (fun e => h (by simp only [e]))).symm
    refine inv_at (i + 1) (by omega) rfl rfl ⟨by omega, fun j hj => ?_⟩
    by_cases e : j = i
    · subst e
      rw [List.getElem?_eq_getElem hi, List.getElem?_eq_getElem hi', h]
    · exact p2 j (by omega)
  · have hi : i = xs.length := by omega
    refine bool_eq (dec_true (List.ext_getElem? fun j => ?_)).symm
    by_cases hj : j < i
    · exact p2 j hj
    · rw [List.getElem?_eq_none (by omega), List.getElem?_eq_none (by omega)]
end Go.Proofs.YtnleocfkdidhoaaGreat

namespace Go.Proofs.YtnleocfkdidhoaaGreat
open Go Go.Ab
theorem szProgram_ok (x : MProgram) : ∀ left : Int, 0 ≤ left → left ≤ 1048576 → FitL x.enc → PCall Tryz.prog 10 [x.v, .c (.d (.i .i64 left))] (.c (.d (.i .i64 (sub1 left x.sz)))) := by
  intro left h0 h1 hf S
  simp only [MProgram.enc_eq, List.cons_append, List.nil_append, fitL_cons, fitL_append, fitL_nil_iff, and_true] at hf
  have fPackages := hf
  have hz : x.sz = (x.fPackages.length + szRows (x.fPackages.map MPackage.enc)) := by
    simp only [MProgram.sz, MProgram.enc_eq, szRow, szRow_append, D.sz, List.length_map, Nat.add_zero, Nat.zero_add] <;> omega
  refine acall_cw (rs := [.tmp 4]) Tryz.checked.mixed Tryz.func10 Tryz.ntmps10 rfl rfl rfl rfl rfl ?_
  rw [hz]
  simp -implicitDefEqProofs (disch := omega) only [go_sem]
  refine call_w (szPackageS_ok x.fPackages _ (by omega) (by omega) fPackages) ?_
  simp -implicitDefEqProofs (disch := omega) only [go_sem]
  with_reducible refine split2 (fun hb => ?_) (fun hb => ?_) <;> have h := hb <;> (try simp only [wf_preprocess] at h) <;> simp -implicitDefEqProofs (disch := omega) only [go_sem, hb] <;> (repeat (with_reducible refine And.intro ?_ ?_; focus first | omega | rfl | assumption | exact ⟨_, rfl, rfl⟩ | (simp; omega) | (simp; done)))
  have h' := sub1_neg h
  exact int_eq (sub1_no (by omega)).symm
theorem toProgram_ok (x : MProgram) : x.sz ≤ 1048576 → PCall Tryz.prog 13 [x.v] x.v := by
  intro hsz S
  simp only [MProgram.sz, MProgram.enc_eq, szRow, szRow_append, D.sz, List.length_map] at hsz
  refine acall_cw (rs := [.cell 2 37]) Tryz.checked.mixed Tryz.func13 Tryz.ntmps13 rfl rfl rfl rfl rfl ?_
  simp -implicitDefEqProofs (disch := omega) only [go_sem]
  refine call_w (toPackageS_ok x.fPackages (by omega)) ?_
  simp -implicitDefEqProofs (disch := omega) only [go_sem]
theorem eqProgram_ok (x : MProgram) : ∀ y : MProgram, x.sz ≤ 1048576 → PCall Tryz.prog 16 [x.v, y.v] (.c (.d (.b (dec (x = y))))) := by
  intro y hsz S
  simp only [MProgram.sz, MProgram.enc_eq, szRow, szRow_append, D.sz, List.length_map] at hsz
  refine acall_cw (rs := [.tmp 4]) Tryz.checked.mixed Tryz.func16 Tryz.ntmps16 rfl rfl rfl rfl rfl ?_
  simp -implicitDefEqProofs (disch := omega) only [go_sem]
  refine call_w (eqPackageS_ok x.fPackages _ (by omega)) ?_
  simp -implicitDefEqProofs (disch := omega) only [go_sem]
  with_reducible refine split2 (fun hb => ?_) (fun hb => ?_) <;> have h := hb <;> (try simp only [wf_preprocess] at h) <;> simp -implicitDefEqProofs (disch := omega) only [go_sem, hb] <;> (repeat (with_reducible refine And.intro ?_ ?_; focus first | omega | rfl | assumption | exact ⟨_, rfl, rfl⟩ | (simp; omega) | (simp; done)))
  · exact bool_eq (dec_false (fun e => h (by rw [e]))).symm
  have ePackages := h
  clear h
  exact bool_eq (dec_true (MProgram.ext' ePackages)).symm
end Go.Proofs.YtnleocfkdidhoaaGreat

namespace Go.Ab
theorem MProgram.bounds {x : MProgram} (h : x.sz ≤ 4194304) : x.fPackages.length ≤ 4194304 := by
  simp only [MProgram.sz, MProgram.enc_eq, szRow, szRow_append, D.sz, List.length_map] at h
  omega
def pkgIndex (w : MProgram) (name : List UInt8) : Int := indexP (fun p : MPackage => decide (p.fName = name)) w.fPackages
end Go.Ab
namespace Go.Proofs.YtnleocfkdidhoaaGreat
open Go Go.Ab
theorem specPkgIndex_ok (w : MProgram) (name : List UInt8) (hsz : w.sz ≤ 4194304) : PCall Tryz.prog 91 [w.v, .c (.d (.s name))] (.c (.d (.i .i64 (pkgIndex w name)))) := fun S => by
  have hb0 := MProgram.bounds hsz
  refine acall_cw (rs := [.tmp 4]) Tryz.checked.mixed Tryz.func91 Tryz.ntmps91 rfl rfl rfl rfl rfl ?_
  simp -implicitDefEqProofs (disch := omega) only [go_sem]
  refine loop_at (ι := Nat) Tryz.checked.mixed rfl [1, 2, 5] (fun i => [.c (.d (.s name)), .c (.ptr (0, 0) 0), .c (.d (.i .i64 i))]) (fun _ => [.box (w.enc.map .d)] :: S)
    (fun i => i ≤ w.fPackages.length ∧ ∀ j, ∀ hj : j < w.fPackages.length, j < i → (fun p : MPackage => decide (p.fName = name)) w.fPackages[j] = false) (fun i => w.fPackages.length - i) 0 rfl ?_ ⟨Nat.zero_le _, fun j _ h => by omega⟩ ?_
  · simp -implicitDefEqProofs (disch := omega) only [go_sem]
  rintro i ⟨p1, p2⟩
  simp -implicitDefEqProofs (disch := omega) only [go_sem]
  with_reducible refine split2 (fun hb => ?_) (fun hb => ?_) <;> have h := hb <;> (try simp only [wf_preprocess] at h) <;> simp -implicitDefEqProofs (disch := omega) only [go_sem, hb] <;> (repeat (with_reducible refine And.intro ?_ ?_; focus first | omega | rfl | assumption | exact ⟨_, rfl, rfl⟩ | (simp; omega) | (simp; done)))
  · have hi : i < w.fPackages.length := by omega
    (repeat (with_reducible refine And.intro ?_ ?_; focus first | omega | rfl | assumption | exact ⟨_, rfl, rfl⟩ | (simp; omega) | (simp; done)))
    with_reducible refine split2 (fun hb => ?_) (fun hb => ?_) <;> have h := hb <;> (try simp only [wf_preprocess] at h) <;> simp -implicitDefEqProofs (disch := omega) only [go_sem, hb] <;> (repeat (with_reducible refine And.intro ?_ ?_; focus first | omega | rfl | assumption | exact ⟨_, rfl, rfl⟩ | (simp; omega) | (simp; done)))
    · unfold pkgIndex
      rw [indexP_here (p := fun p : MPackage => decide (p.fName = name)) hi p2 hb]
    · refine inv_at (i + 1) (by omega) rfl rfl ⟨by omega, fun j hj hji => ?_⟩
      by_cases e : j = i
      · subst e; exact hb
      · exact p2 j hj (by omega)
  · unfold pkgIndex
    rw [indexP_no (p := fun p : MPackage => decide (p.fName = name)) (fun j hj => p2 j hj (by omega))]
theorem pkgIndex1_pure (name : List UInt8) (cs : List C) (rest : List Ab.Obj) (S : Store) (p : MPackage) : FPure Tryz.prog 176 [((0, 1), 0)] ((.box cs :: .box [.d (.s name)] :: rest) :: S) [p.v] (.c (.d (.b (decide (p.fName = name))))) := fun F => by
  refine acall_cw (rs := [.tmp 3]) Tryz.checked.mixed Tryz.func176 Tryz.ntmps176 rfl rfl rfl rfl rfl ?_
  simp -implicitDefEqProofs (disch := omega) only [go_sem]
theorem implPkgIndex_ok (w : MProgram) (name : List UInt8) (hsz : w.sz ≤ 4194304) : PCall Tryz.prog 98 [w.v, .c (.d (.s name))] (.c (.d (.i .i64 (pkgIndex w name)))) := fun S => by
  have hb0 := MProgram.bounds hsz
  refine acall_cw (rs := [.tmp 4]) Tryz.checked.mixed Tryz.func98 Tryz.ntmps98 rfl rfl rfl rfl rfl ?_
  simp -implicitDefEqProofs (disch := omega) only [go_sem]
  refine call_d rfl (indexFuncPackage_ok 176 [((0, 1), 0)] _ w.fPackages (fun p => decide (p.fName = name)) (by omega) fun p hp => pkgIndex1_pure name _ [] S p) ?_
  simp -implicitDefEqProofs (disch := omega) only [go_sem]
  rfl
end Go.Proofs.YtnleocfkdidhoaaGreat

namespace Go.Ab
def depsOf (w : MProgram) (p : Nat) : List (List UInt8) := match w.fPackages[p]? with
  | some q => q.fDeps
  | none => []
theorem depsOf_at {w : MProgram} {p : Nat} (h : p < w.fPackages.length) : depsOf w p = w.fPackages[p].fDeps := by
  unfold depsOf; rw [List.getElem?_eq_getElem h]
/-- p depends on j directly, and j comes ahead of it. -/
def Edge (w : MProgram) (p j : Nat) : Prop := j < p ∧ ∃ d ∈ depsOf w p, pkgIndex w d = (j : Int)
inductive Vis (w : MProgram) : Nat → Nat → Prop
  | refl (p : Nat) : Vis w p p
  | step {p j k : Nat} (h : Edge w p j) (hk : Vis w j k) : Vis w p k
theorem Vis.le {w : MProgram} {p k : Nat} (h : Vis w p k) : k ≤ p := by
  induction h with
  | refl p => exact Nat.le_refl _
  | step h _ ih => have := h.1; omega
theorem Vis.trans {w : MProgram} {p j k : Nat} (h : Vis w p j) (h' : Vis w j k) : Vis w p k := by
  induction h with
  | refl p => exact h'
  | step e _ ih => exact .step e (ih h')
theorem Vis.snoc {w : MProgram} {p j k : Nat} (h : Vis w p j) (e : Edge w j k) : Vis w p k := h.trans (.step e (.refl k))
theorem Vis.last {w : MProgram} {i k : Nat} (h : Vis w i k) : k = i ∨ ∃ p, Vis w i p ∧ Edge w p k := by
  induction h with
  | refl p => exact .inl rfl
  | @step p j k e hk ih =>
    right
    rcases ih with rfl | ⟨q, h1, h2⟩
    · exact ⟨p, .refl p, e⟩
    · exact ⟨q, .step e h1, h2⟩
theorem Vis.first {w : MProgram} {p k : Nat} (h : k < p) : Vis w p k ↔ ∃ j, Edge w p j ∧ Vis w j k := by
  constructor
  · intro hv
    cases hv with
    | refl => omega
    | step e hk => exact ⟨_, e, hk⟩
  · rintro ⟨j, e, hk⟩
    exact .step e hk
/-- The packages below n that are visible from p, in order. -/
noncomputable def visP (w : MProgram) (p n : Nat) : List Int := ((List.range n).filter fun k => dec (Vis w p k)).map fun k : Nat => (k : Int)
noncomputable def visL (w : MProgram) (p : Nat) : List Int := visP w p (p + 1)
theorem visP_yes {w : MProgram} {p n : Nat} (h : Vis w p n) : visP w p (n + 1) = visP w p n ++ [(n : Int)] := by
  unfold visP
  rw [List.range_succ, List.filter_append, List.map_append]
  simp [dec_true h]
theorem visP_no {w : MProgram} {p n : Nat} (h : ¬ Vis w p n) : visP w p (n + 1) = visP w p n := by
  unfold visP
  rw [List.range_succ, List.filter_append, List.map_append]
  simp [dec_false h]
theorem visP_len (w : MProgram) (p n : Nat) : (visP w p n).length ≤ n := by
  unfold visP
  rw [List.length_map]
  exact Nat.le_trans (List.length_filter_le _ _) (by simp)
theorem mem_visP {w : MProgram} {p n : Nat} {k : Int} : k ∈ visP w p n ↔ ∃ m : Nat, m < n ∧ k = m ∧ Vis w p m := by
  unfold visP
  rw [List.mem_map]
  constructor
  · rintro ⟨m, hm, e⟩
    rw [List.mem_filter, List.mem_range, dec_eq_true] at hm
    exact ⟨m, hm.1, e.symm, hm.2⟩
  · rintro ⟨m, h1, h2, h3⟩
    exact ⟨m, by rw [List.mem_filter, List.mem_range, dec_eq_true]; exact ⟨h1, h3⟩, h2.symm⟩
theorem mem_visL {w : MProgram} {p : Nat} {k : Int} : k ∈ visL w p ↔ ∃ m : Nat, k = m ∧ Vis w p m := by
  unfold visL
  rw [mem_visP]
  constructor
  · rintro ⟨m, _, h2, h3⟩; exact ⟨m, h2, h3⟩
  · rintro ⟨m, h2, h3⟩; exact ⟨m, by have := h3.le; omega, h2, h3⟩
theorem mem_visL_nat {w : MProgram} {p k : Nat} : (k : Int) ∈ visL w p ↔ Vis w p k := by
  rw [mem_visL]
  constructor
  · rintro ⟨m, h2, h3⟩
    have : k = m := by omega
    rw [this]; exact h3
  · intro h; exact ⟨k, rfl, h⟩
/-- Is package k visible from package i? -/
def isVis (w : MProgram) (i k : Int) : Prop := 0 ≤ i ∧ i < w.fPackages.length ∧ k ∈ visL w i.toNat
/-- What has been met when the packages above n have been read. -/
def Met (w : MProgram) (i n m : Nat) : Prop := m = i ∨ ∃ p, n ≤ p ∧ Vis w i p ∧ Edge w p m
theorem met_done {w : MProgram} {i m : Nat} (h : m ≤ i) : Met w i (m + 1) m ↔ Vis w i m := by
  constructor
  · rintro (rfl | ⟨p, _, h1, h2⟩)
    · exact .refl _
    · exact h1.snoc h2
  · intro h
    rcases h.last with h1 | ⟨p, h1, h2⟩
    · exact .inl h1
    · exact .inr ⟨p, by have := h2.1; omega, h1, h2⟩
theorem met_low {w : MProgram} {i n m : Nat} (h : n ≤ m) (hm : m ≤ i) : Met w i n m ↔ Vis w i m := by
  constructor
  · rintro (rfl | ⟨p, _, h1, h2⟩)
    · exact .refl _
    · exact h1.snoc h2
  · intro h'
    rcases h'.last with h1 | ⟨p, h1, h2⟩
    · exact .inl h1
    · exact .inr ⟨p, by have := h2.1; omega, h1, h2⟩
theorem met_skip {w : MProgram} {i n m : Nat} (h : ¬ Vis w i n) : Met w i n m ↔ Met w i (n + 1) m := by
  constructor
  · rintro (h1 | ⟨p, h0, h1, h2⟩)
    · exact .inl h1
    · by_cases e : p = n
      · subst e; exact absurd h1 h
      · exact .inr ⟨p, by omega, h1, h2⟩
  · rintro (h1 | ⟨p, h0, h1, h2⟩)
    · exact .inl h1
    · exact .inr ⟨p, by omega, h1, h2⟩
theorem met_read {w : MProgram} {i n m : Nat} (h : Vis w i n) : Met w i n m ↔ Met w i (n + 1) m ∨ Edge w n m := by
  constructor
  · rintro (h1 | ⟨p, h0, h1, h2⟩)
    · exact .inl (.inl h1)
    · by_cases e : p = n
      · subst e; exact .inr h2
      · exact .inl (.inr ⟨p, by omega, h1, h2⟩)
  · rintro ((h1 | ⟨p, h0, h1, h2⟩) | h1)
    · exact .inl h1
    · exact .inr ⟨p, by omega, h1, h2⟩
    · exact .inr ⟨n, Nat.le_refl _, h, h1⟩
/-- A list of bools, from a property. -/
noncomputable def boolsOf (P : Nat → Prop) (n : Nat) : List (List D) := (List.range n).map fun m => [D.b (dec (P m))]
theorem boolsOf_len (P : Nat → Prop) (n : Nat) : (boolsOf P n).length = n := by simp [boolsOf]
theorem boolsOf_get {P : Nat → Prop} {n i : Nat} (h : i < n) : (boolsOf P n)[i]? = some [D.b (dec (P i))] := by
  simp [boolsOf, h]
theorem boolsOf_set {P Q : Nat → Prop} {n j : Nat} (h : ∀ m, m < n → (Q m ↔ P m ∨ m = j)) (hj : j < n) : (boolsOf P n).set j [D.b true] = boolsOf Q n := by
  apply List.ext_getElem?
  intro m
  rw [List.getElem?_set]
  by_cases hm : m < n
  · by_cases e : j = m
    · subst e
      rw [if_pos rfl, if_pos (by rw [boolsOf_len]; exact hj), boolsOf_get hj, dec_true ((h j hj).2 (.inr rfl))]
    · rw [if_neg e, boolsOf_get hm, boolsOf_get hm]
      rw [dec_congr ((h m hm).trans ⟨fun x => x.elim id (fun y => absurd y.symm e), .inl⟩)]
  · have h1 : (boolsOf P n)[m]? = none := List.getElem?_eq_none (by rw [boolsOf_len]; omega)
    have h2 : (boolsOf Q n)[m]? = none := List.getElem?_eq_none (by rw [boolsOf_len]; omega)
    rw [h1, h2]
    split
    · omega
    · rfl
theorem boolsOf_congr {P Q : Nat → Prop} {n : Nat} (h : ∀ m, m < n → (P m ↔ Q m)) : boolsOf P n = boolsOf Q n := by
  unfold boolsOf
  exact List.map_congr_left fun m hm => by rw [dec_congr (h m (List.mem_range.1 hm))]
end Go.Ab

namespace Go.Ab
/-- The first declaration of a kind for which p stands, and the place of its package. -/
def findP {α : Type} (f : MPackage → List α) (p : α → Bool) : List MPackage → Nat → Option (α × Nat)
  | [], _ => none
  | q :: qs, i => match (f q).find? p with
    | some t => some (t, i)
    | none => findP f p qs (i + 1)
theorem findP_drop {α : Type} {f : MPackage → List α} {p : α → Bool} {ps : List MPackage} {i : Nat} (hi : i < ps.length) : findP f p (ps.drop i) i = match (f ps[i]).find? p with
    | some t => some (t, i)
    | none => findP f p (ps.drop (i + 1)) (i + 1) := by
  rw [List.drop_eq_getElem_cons hi, findP]
theorem find_drop {α : Type} {p : α → Bool} {xs : List α} {k : Nat} (hk : k < xs.length) : (xs.drop k).find? p = if p xs[k] then some xs[k] else (xs.drop (k + 1)).find? p := by
  rw [List.drop_eq_getElem_cons hk, List.find?_cons]
  cases p xs[k] <;> rfl
def idxO {α : Type} : Option (α × Nat) → Int
  | some (_, i) => (i : Int)
  | none => 0
theorem findP_mem {α : Type} {f : MPackage → List α} {p : α → Bool} : ∀ {ps : List MPackage} {i : Nat} {t : α} {j : Nat}, findP f p ps i = some (t, j) → ∃ q ∈ ps, t ∈ f q
  | [], i, t, j, h => by cases h
  | q :: qs, i, t, j, h => by
    rw [findP] at h
    cases hf : (f q).find? p with
    | some u =>
      rw [hf] at h
      injection h with h
      injection h with h1 h2
      subst h1
      exact ⟨q, by simp, List.mem_of_find?_eq_some hf⟩
    | none =>
      rw [hf] at h
      obtain ⟨q', h1, h2⟩ := findP_mem h
      exact ⟨q', by simp [h1], h2⟩
def traitAt (w : MProgram) (name : List UInt8) : Option (MTrait × Nat) := findP MPackage.fTraits (fun t => decide (t.fName = name)) w.fPackages 0
def trC : Option (MTrait × Nat) → List C
  | some (t, _) => t.enc.map .d
  | none => [.d (.s []), .fsl [], .d (.b false), .d (.b false), .fsl []]
theorem MProgram.lenTr {w : MProgram} {i : Nat} (hi : i < w.fPackages.length) (h : w.sz ≤ 4194304) : w.fPackages[i].fTraits.length ≤ 4194304 := by
  have hx : w.fPackages[i].sz ≤ szRows (w.fPackages.map MPackage.enc) := szRows_mem (List.mem_map_of_mem (List.getElem_mem hi))
  simp only [MProgram.sz, MProgram.enc_eq, szRow, szRow_append, D.sz, List.length_map] at h
  simp only [MPackage.sz, MPackage.enc_eq, szRow, szRow_append, D.sz, List.length_map] at hx
  omega
def dataAt (w : MProgram) (name : List UInt8) : Option (MDataType × Nat) := findP MPackage.fDataTypes (fun t => decide (t.fName = name)) w.fPackages 0
def dtC : Option (MDataType × Nat) → List C
  | some (t, _) => t.enc.map .d
  | none => [.d (.s []), .fsl [], .fsl []]
theorem MProgram.lenDt {w : MProgram} {i : Nat} (hi : i < w.fPackages.length) (h : w.sz ≤ 4194304) : w.fPackages[i].fDataTypes.length ≤ 4194304 := by
  have hx : w.fPackages[i].sz ≤ szRows (w.fPackages.map MPackage.enc) := szRows_mem (List.mem_map_of_mem (List.getElem_mem hi))
  simp only [MProgram.sz, MProgram.enc_eq, szRow, szRow_append, D.sz, List.length_map] at h
  simp only [MPackage.sz, MPackage.enc_eq, szRow, szRow_append, D.sz, List.length_map] at hx
  omega
def fnAt (w : MProgram) (name : List UInt8) : Option (MFunction × Nat) := findP MPackage.fFunctions (fun t => decide (t.fName = name)) w.fPackages 0
def fnC : Option (MFunction × Nat) → List C
  | some (t, _) => t.enc.map .d
  | none => [.d (.s []), .fsl [], .fsl [], .fsl [], .d (.i .i64 0), .d (.s []), .fsl [], .d (.i .i64 0), .d (.s []), .d (.s []), .d (.i .i64 0), .d (.i .i64 0), .d (.s []), .fsl [], .fsl [], .fsl []]
theorem MProgram.lenFn {w : MProgram} {i : Nat} (hi : i < w.fPackages.length) (h : w.sz ≤ 4194304) : w.fPackages[i].fFunctions.length ≤ 4194304 := by
  have hx : w.fPackages[i].sz ≤ szRows (w.fPackages.map MPackage.enc) := szRows_mem (List.mem_map_of_mem (List.getElem_mem hi))
  simp only [MProgram.sz, MProgram.enc_eq, szRow, szRow_append, D.sz, List.length_map] at h
  simp only [MPackage.sz, MPackage.enc_eq, szRow, szRow_append, D.sz, List.length_map] at hx
  omega
end Go.Ab
namespace Go.Proofs.YtnleocfkdidhoaaGreat
open Go Go.Ab
theorem implTrAt_ok (w : MProgram) (name : List UInt8) (hsz : w.sz ≤ 4194304) : PCall Tryz.prog 246 [w.v, .c (.d (.s name))] (.tup [(true, trC (traitAt w name)), (false, [.d (.i .i64 (idxO (traitAt w name)))]), (false, [.d (.b (traitAt w name).isSome)])]) := fun S => by
  have hb0 : w.fPackages.length ≤ 4194304 := by
    simp only [MProgram.sz, MProgram.enc_eq, szRow, szRow_append, D.sz, List.length_map] at hsz
    omega
  refine acall_cw (rs := [.cell 4 139, .tmp 5, .tmp 6]) Tryz.checked.mixed Tryz.func246 Tryz.ntmps246 rfl rfl rfl rfl rfl ?_
  simp -implicitDefEqProofs (disch := omega) only [go_sem]
  refine loop_at (ι := Nat) Tryz.checked.mixed rfl [1, 4, 12, 13, 14] (fun i => [.c (.d (.s name)), .c (.ptr (0, 1) 0), .c (.d (.sl (w.fPackages.map MPackage.enc))), .c (.d (.i .i64 w.fPackages.length)), .c (.d (.i .i64 i))]) (fun _ => [.box (w.enc.map .d), .box [.d (.s []), .fsl [], .d (.b false), .d (.b false), .fsl []]] :: S)
    (fun i => i ≤ w.fPackages.length ∧ findP MPackage.fTraits (fun t => decide (t.fName = name)) (w.fPackages.drop i) i = traitAt w name) (fun i => w.fPackages.length - i) 0 rfl ?_ ⟨Nat.zero_le _, rfl⟩ ?_
  · simp -implicitDefEqProofs (disch := omega) only [go_sem]
  rintro i ⟨p1, p2⟩
  simp -implicitDefEqProofs (disch := omega) only [go_sem]
  with_reducible refine split2 (fun hb => ?_) (fun hb => ?_) <;> have h := hb <;> (try simp only [wf_preprocess] at h) <;> simp -implicitDefEqProofs (disch := omega) only [go_sem, hb] <;> (repeat (with_reducible refine And.intro ?_ ?_; focus first | omega | rfl | assumption | exact ⟨_, rfl, rfl⟩ | (simp; omega) | (simp; done)))
  · have hi : i < w.fPackages.length := by omega
    have hln := MProgram.lenTr hi hsz
    rw [findP_drop hi] at p2
    (repeat (with_reducible refine And.intro ?_ ?_; focus first | omega | rfl | assumption | exact ⟨_, rfl, rfl⟩ | (simp; omega) | (simp; done)))
    refine loop_at (ι := Nat) Tryz.checked.mixed rfl [1, 4, 7, 12, 13, 14, 20, 21, 22] (fun k => [.c (.d (.s name)), .c (.ptr (0, 1) 0), .c (.d (.i .i64 i)), .c (.d (.sl (w.fPackages.map MPackage.enc))), .c (.d (.i .i64 w.fPackages.length)), .c (.d (.i .i64 i)), .c (.d (.sl (w.fPackages[i].fTraits.map MTrait.enc))), .c (.d (.i .i64 w.fPackages[i].fTraits.length)), .c (.d (.i .i64 k))])
      (fun _ => [.box (w.enc.map .d), .box [.d (.s []), .fsl [], .d (.b false), .d (.b false), .fsl []], .box (w.fPackages[i].enc.map .d)] :: S)
      (fun k => k ≤ w.fPackages[i].fTraits.length ∧ (w.fPackages[i].fTraits.drop k).find? (fun t => decide (t.fName = name)) = w.fPackages[i].fTraits.find? (fun t => decide (t.fName = name))) (fun k => w.fPackages[i].fTraits.length - k) 0 rfl ?_ ⟨Nat.zero_le _, rfl⟩ ?_
    · simp -implicitDefEqProofs (disch := omega) only [go_sem]
    rintro k ⟨q1, q2⟩
    simp -implicitDefEqProofs (disch := omega) only [go_sem]
    with_reducible refine split2 (fun hb => ?_) (fun hb => ?_) <;> have h := hb <;> (try simp only [wf_preprocess] at h) <;> simp -implicitDefEqProofs (disch := omega) only [go_sem, hb] <;> (repeat (with_reducible refine And.intro ?_ ?_; focus first | omega | rfl | assumption | exact ⟨_, rfl, rfl⟩ | (simp; omega) | (simp; done)))
    · have hk : k < w.fPackages[i].fTraits.length := by omega
      rw [find_drop hk] at q2
      (repeat (with_reducible refine And.intro ?_ ?_; focus first | omega | rfl | assumption | exact ⟨_, rfl, rfl⟩ | (simp; omega) | (simp; done)))
      with_reducible refine split2 (fun hb => ?_) (fun hb => ?_) <;> have h := hb <;> (try simp only [wf_preprocess] at h) <;> simp -implicitDefEqProofs (disch := omega) only [go_sem, hb] <;> (repeat (with_reducible refine And.intro ?_ ?_; focus first | omega | rfl | assumption | exact ⟨_, rfl, rfl⟩ | (simp; omega) | (simp; done)))
      · rw [if_pos (by simpa using h)] at q2
        rw [← q2] at p2
        rw [← p2]
        first | rfl | (simp only [trC, idxO]; simp -implicitDefEqProofs (disch := omega) only [go_sem]; done)
      · rw [if_neg (by simpa using h)] at q2
        exact inv_drop 3 (by decide) (k + 1) (by omega) rfl rfl rfl rfl ⟨by omega, q2⟩
    · rw [List.drop_of_length_le (by omega), List.find?_nil] at q2
      rw [← q2] at p2
      exact inv_drop 2 (by decide) (i + 1) (by omega) rfl rfl rfl rfl ⟨by omega, p2⟩
  · rw [List.drop_of_length_le (by omega), findP] at p2
    rw [← p2]
    first | rfl | (simp only [trC, idxO]; simp -implicitDefEqProofs (disch := omega) only [go_sem]; done)
theorem specTrAt_ok (w : MProgram) (name : List UInt8) (hsz : w.sz ≤ 4194304) : PCall Tryz.prog 195 [w.v, .c (.d (.s name))] (.tup [(true, trC (traitAt w name)), (false, [.d (.i .i64 (idxO (traitAt w name)))]), (false, [.d (.b (traitAt w name).isSome)])]) := fun S => by
  have hb0 : w.fPackages.length ≤ 4194304 := by
    simp only [MProgram.sz, MProgram.enc_eq, szRow, szRow_append, D.sz, List.length_map] at hsz
    omega
  refine acall_cw (rs := [.cell 4 139, .tmp 5, .tmp 6]) Tryz.checked.mixed Tryz.func195 Tryz.ntmps195 rfl rfl rfl rfl rfl ?_
  simp -implicitDefEqProofs (disch := omega) only [go_sem]
  refine loop_at (ι := Nat) Tryz.checked.mixed rfl [1, 2, 4, 7] (fun i => [.c (.d (.s name)), .c (.ptr (0, 0) 0), .c (.ptr (0, 1) 0), .c (.d (.i .i64 i))]) (fun _ => [.box (w.enc.map .d), .box [.d (.s []), .fsl [], .d (.b false), .d (.b false), .fsl []]] :: S)
    (fun i => i ≤ w.fPackages.length ∧ findP MPackage.fTraits (fun t => decide (t.fName = name)) (w.fPackages.drop i) i = traitAt w name) (fun i => w.fPackages.length - i) 0 rfl ?_ ⟨Nat.zero_le _, rfl⟩ ?_
  · simp -implicitDefEqProofs (disch := omega) only [go_sem]
  rintro i ⟨p1, p2⟩
  simp -implicitDefEqProofs (disch := omega) only [go_sem]
  with_reducible refine split2 (fun hb => ?_) (fun hb => ?_) <;> have h := hb <;> (try simp only [wf_preprocess] at h) <;> simp -implicitDefEqProofs (disch := omega) only [go_sem, hb] <;> (repeat (with_reducible refine And.intro ?_ ?_; focus first | omega | rfl | assumption | exact ⟨_, rfl, rfl⟩ | (simp; omega) | (simp; done)))
  · have hi : i < w.fPackages.length := by omega
    have hln := MProgram.lenTr hi hsz
    rw [findP_drop hi] at p2
    (repeat (with_reducible refine And.intro ?_ ?_; focus first | omega | rfl | assumption | exact ⟨_, rfl, rfl⟩ | (simp; omega) | (simp; done)))
    refine loop_at (ι := Nat) Tryz.checked.mixed rfl [1, 2, 4, 7, 8] (fun k => [.c (.d (.s name)), .c (.ptr (0, 0) 0), .c (.ptr (0, 1) 0), .c (.d (.i .i64 i)), .c (.d (.i .i64 k))])
      (fun _ => [.box (w.enc.map .d), .box [.d (.s []), .fsl [], .d (.b false), .d (.b false), .fsl []]] :: S)
      (fun k => k ≤ w.fPackages[i].fTraits.length ∧ (w.fPackages[i].fTraits.drop k).find? (fun t => decide (t.fName = name)) = w.fPackages[i].fTraits.find? (fun t => decide (t.fName = name))) (fun k => w.fPackages[i].fTraits.length - k) 0 rfl ?_ ⟨Nat.zero_le _, rfl⟩ ?_
    · simp -implicitDefEqProofs (disch := omega) only [go_sem]
    rintro k ⟨q1, q2⟩
    simp -implicitDefEqProofs (disch := omega) only [go_sem]
    (repeat (with_reducible refine And.intro ?_ ?_; focus first | omega | rfl | assumption | exact ⟨_, rfl, rfl⟩ | (simp; omega) | (simp; done)))
    with_reducible refine split2 (fun hb => ?_) (fun hb => ?_) <;> have h := hb <;> (try simp only [wf_preprocess] at h) <;> simp -implicitDefEqProofs (disch := omega) only [go_sem, hb] <;> (repeat (with_reducible refine And.intro ?_ ?_; focus first | omega | rfl | assumption | exact ⟨_, rfl, rfl⟩ | (simp; omega) | (simp; done)))
    · have hk : k < w.fPackages[i].fTraits.length := by omega
      rw [find_drop hk] at q2
      (repeat (with_reducible refine And.intro ?_ ?_; focus first | omega | rfl | assumption | exact ⟨_, rfl, rfl⟩ | (simp; omega) | (simp; done)))
      with_reducible refine split2 (fun hb => ?_) (fun hb => ?_) <;> have h := hb <;> (try simp only [wf_preprocess] at h) <;> simp -implicitDefEqProofs (disch := omega) only [go_sem, hb] <;> (repeat (with_reducible refine And.intro ?_ ?_; focus first | omega | rfl | assumption | exact ⟨_, rfl, rfl⟩ | (simp; omega) | (simp; done)))
      · rw [if_pos (by simpa using h)] at q2
        rw [← q2] at p2
        (repeat (with_reducible refine And.intro ?_ ?_; focus first | omega | rfl | assumption | exact ⟨_, rfl, rfl⟩ | (simp; omega) | (simp; done)))
        rw [← p2]
        first | rfl | (simp only [trC, idxO]; simp -implicitDefEqProofs (disch := omega) only [go_sem]; done)
      · rw [if_neg (by simpa using h)] at q2
        exact inv_at (k + 1) (by omega) rfl rfl ⟨by omega, q2⟩
    · rw [List.drop_of_length_le (by omega), List.find?_nil] at q2
      rw [← q2] at p2
      exact inv_at (i + 1) (by omega) rfl rfl ⟨by omega, p2⟩
  · rw [List.drop_of_length_le (by omega), findP] at p2
    rw [← p2]
    first | rfl | (simp only [trC, idxO]; simp -implicitDefEqProofs (disch := omega) only [go_sem]; done)
theorem implDtAt_ok (w : MProgram) (name : List UInt8) (hsz : w.sz ≤ 4194304) : PCall Tryz.prog 101 [w.v, .c (.d (.s name))] (.tup [(true, dtC (dataAt w name)), (false, [.d (.i .i64 (idxO (dataAt w name)))]), (false, [.d (.b (dataAt w name).isSome)])]) := fun S => by
  have hb0 : w.fPackages.length ≤ 4194304 := by
    simp only [MProgram.sz, MProgram.enc_eq, szRow, szRow_append, D.sz, List.length_map] at hsz
    omega
  refine acall_cw (rs := [.cell 4 82, .tmp 5, .tmp 6]) Tryz.checked.mixed Tryz.func101 Tryz.ntmps101 rfl rfl rfl rfl rfl ?_
  simp -implicitDefEqProofs (disch := omega) only [go_sem]
  refine loop_at (ι := Nat) Tryz.checked.mixed rfl [1, 4, 12, 13, 14] (fun i => [.c (.d (.s name)), .c (.ptr (0, 1) 0), .c (.d (.sl (w.fPackages.map MPackage.enc))), .c (.d (.i .i64 w.fPackages.length)), .c (.d (.i .i64 i))]) (fun _ => [.box (w.enc.map .d), .box [.d (.s []), .fsl [], .fsl []]] :: S)
    (fun i => i ≤ w.fPackages.length ∧ findP MPackage.fDataTypes (fun t => decide (t.fName = name)) (w.fPackages.drop i) i = dataAt w name) (fun i => w.fPackages.length - i) 0 rfl ?_ ⟨Nat.zero_le _, rfl⟩ ?_
  · simp -implicitDefEqProofs (disch := omega) only [go_sem]
  rintro i ⟨p1, p2⟩
  simp -implicitDefEqProofs (disch := omega) only [go_sem]
  with_reducible refine split2 (fun hb => ?_) (fun hb => ?_) <;> have h := hb <;> (try simp only [wf_preprocess] at h) <;> simp -implicitDefEqProofs (disch := omega) only [go_sem, hb] <;> (repeat (with_reducible refine And.intro ?_ ?_; focus first | omega | rfl | assumption | exact ⟨_, rfl, rfl⟩ | (simp; omega) | (simp; done)))
  · have hi : i < w.fPackages.length := by omega
    have hln := MProgram.lenDt hi hsz
    rw [findP_drop hi] at p2
    (repeat (with_reducible refine And.intro ?_ ?_; focus first | omega | rfl | assumption | exact ⟨_, rfl, rfl⟩ | (simp; omega) | (simp; done)))
    refine loop_at (ι := Nat) Tryz.checked.mixed rfl [1, 4, 7, 12, 13, 14, 20, 21, 22] (fun k => [.c (.d (.s name)), .c (.ptr (0, 1) 0), .c (.d (.i .i64 i)), .c (.d (.sl (w.fPackages.map MPackage.enc))), .c (.d (.i .i64 w.fPackages.length)), .c (.d (.i .i64 i)), .c (.d (.sl (w.fPackages[i].fDataTypes.map MDataType.enc))), .c (.d (.i .i64 w.fPackages[i].fDataTypes.length)), .c (.d (.i .i64 k))])
      (fun _ => [.box (w.enc.map .d), .box [.d (.s []), .fsl [], .fsl []], .box (w.fPackages[i].enc.map .d)] :: S)
      (fun k => k ≤ w.fPackages[i].fDataTypes.length ∧ (w.fPackages[i].fDataTypes.drop k).find? (fun t => decide (t.fName = name)) = w.fPackages[i].fDataTypes.find? (fun t => decide (t.fName = name))) (fun k => w.fPackages[i].fDataTypes.length - k) 0 rfl ?_ ⟨Nat.zero_le _, rfl⟩ ?_
    · simp -implicitDefEqProofs (disch := omega) only [go_sem]
    rintro k ⟨q1, q2⟩
    simp -implicitDefEqProofs (disch := omega) only [go_sem]
    with_reducible refine split2 (fun hb => ?_) (fun hb => ?_) <;> have h := hb <;> (try simp only [wf_preprocess] at h) <;> simp -implicitDefEqProofs (disch := omega) only [go_sem, hb] <;> (repeat (with_reducible refine And.intro ?_ ?_; focus first | omega | rfl | assumption | exact ⟨_, rfl, rfl⟩ | (simp; omega) | (simp; done)))
    · have hk : k < w.fPackages[i].fDataTypes.length := by omega
      rw [find_drop hk] at q2
      (repeat (with_reducible refine And.intro ?_ ?_; focus first | omega | rfl | assumption | exact ⟨_, rfl, rfl⟩ | (simp; omega) | (simp; done)))
      with_reducible refine split2 (fun hb => ?_) (fun hb => ?_) <;> have h := hb <;> (try simp only [wf_preprocess] at h) <;> simp -implicitDefEqProofs (disch := omega) only [go_sem, hb] <;> (repeat (with_reducible refine And.intro ?_ ?_; focus first | omega | rfl | assumption | exact ⟨_, rfl, rfl⟩ | (simp; omega) | (simp; done)))
      · rw [if_pos (by simpa using h)] at q2
        rw [← q2] at p2
        rw [← p2]
        first | rfl | (simp only [dtC, idxO]; simp -implicitDefEqProofs (disch := omega) only [go_sem]; done)
      · rw [if_neg (by simpa using h)] at q2
        exact inv_drop 3 (by decide) (k + 1) (by omega) rfl rfl rfl rfl ⟨by omega, q2⟩
    · rw [List.drop_of_length_le (by omega), List.find?_nil] at q2
      rw [← q2] at p2
      exact inv_drop 2 (by decide) (i + 1) (by omega) rfl rfl rfl rfl ⟨by omega, p2⟩
  · rw [List.drop_of_length_le (by omega), findP] at p2
    rw [← p2]
    first | rfl | (simp only [dtC, idxO]; simp -implicitDefEqProofs (disch := omega) only [go_sem]; done)
theorem specDtAt_ok (w : MProgram) (name : List UInt8) (hsz : w.sz ≤ 4194304) : PCall Tryz.prog 99 [w.v, .c (.d (.s name))] (.tup [(true, dtC (dataAt w name)), (false, [.d (.i .i64 (idxO (dataAt w name)))]), (false, [.d (.b (dataAt w name).isSome)])]) := fun S => by
  have hb0 : w.fPackages.length ≤ 4194304 := by
    simp only [MProgram.sz, MProgram.enc_eq, szRow, szRow_append, D.sz, List.length_map] at hsz
    omega
  refine acall_cw (rs := [.cell 4 82, .tmp 5, .tmp 6]) Tryz.checked.mixed Tryz.func99 Tryz.ntmps99 rfl rfl rfl rfl rfl ?_
  simp -implicitDefEqProofs (disch := omega) only [go_sem]
  refine loop_at (ι := Nat) Tryz.checked.mixed rfl [1, 2, 4, 7] (fun i => [.c (.d (.s name)), .c (.ptr (0, 0) 0), .c (.ptr (0, 1) 0), .c (.d (.i .i64 i))]) (fun _ => [.box (w.enc.map .d), .box [.d (.s []), .fsl [], .fsl []]] :: S)
    (fun i => i ≤ w.fPackages.length ∧ findP MPackage.fDataTypes (fun t => decide (t.fName = name)) (w.fPackages.drop i) i = dataAt w name) (fun i => w.fPackages.length - i) 0 rfl ?_ ⟨Nat.zero_le _, rfl⟩ ?_
  · simp -implicitDefEqProofs (disch := omega) only [go_sem]
  rintro i ⟨p1, p2⟩
  simp -implicitDefEqProofs (disch := omega) only [go_sem]
  with_reducible refine split2 (fun hb => ?_) (fun hb => ?_) <;> have h := hb <;> (try simp only [wf_preprocess] at h) <;> simp -implicitDefEqProofs (disch := omega) only [go_sem, hb] <;> (repeat (with_reducible refine And.intro ?_ ?_; focus first | omega | rfl | assumption | exact ⟨_, rfl, rfl⟩ | (simp; omega) | (simp; done)))
  · have hi : i < w.fPackages.length := by omega
    have hln := MProgram.lenDt hi hsz
    rw [findP_drop hi] at p2
    (repeat (with_reducible refine And.intro ?_ ?_; focus first | omega | rfl | assumption | exact ⟨_, rfl, rfl⟩ | (simp; omega) | (simp; done)))
    refine loop_at (ι := Nat) Tryz.checked.mixed rfl [1, 2, 4, 7, 8] (fun k => [.c (.d (.s name)), .c (.ptr (0, 0) 0), .c (.ptr (0, 1) 0), .c (.d (.i .i64 i)), .c (.d (.i .i64 k))])
      (fun _ => [.box (w.enc.map .d), .box [.d (.s []), .fsl [], .fsl []]] :: S)
      (fun k => k ≤ w.fPackages[i].fDataTypes.length ∧ (w.fPackages[i].fDataTypes.drop k).find? (fun t => decide (t.fName = name)) = w.fPackages[i].fDataTypes.find? (fun t => decide (t.fName = name))) (fun k => w.fPackages[i].fDataTypes.length - k) 0 rfl ?_ ⟨Nat.zero_le _, rfl⟩ ?_
    · simp -implicitDefEqProofs (disch := omega) only [go_sem]
    rintro k ⟨q1, q2⟩
    simp -implicitDefEqProofs (disch := omega) only [go_sem]
    (repeat (with_reducible refine And.intro ?_ ?_; focus first | omega | rfl | assumption | exact ⟨_, rfl, rfl⟩ | (simp; omega) | (simp; done)))
    with_reducible refine split2 (fun hb => ?_) (fun hb => ?_) <;> have h := hb <;> (try simp only [wf_preprocess] at h) <;> simp -implicitDefEqProofs (disch := omega) only [go_sem, hb] <;> (repeat (with_reducible refine And.intro ?_ ?_; focus first | omega | rfl | assumption | exact ⟨_, rfl, rfl⟩ | (simp; omega) | (simp; done)))
    · have hk : k < w.fPackages[i].fDataTypes.length := by omega
      rw [find_drop hk] at q2
      (repeat (with_reducible refine And.intro ?_ ?_; focus first | omega | rfl | assumption | exact ⟨_, rfl, rfl⟩ | (simp; omega) | (simp; done)))
      with_reducible refine split2 (fun hb => ?_) (fun hb => ?_) <;> have h := hb <;> (try simp only [wf_preprocess] at h) <;> simp -implicitDefEqProofs (disch := omega) only [go_sem, hb] <;> (repeat (with_reducible refine And.intro ?_ ?_; focus first | omega | rfl | assumption | exact ⟨_, rfl, rfl⟩ | (simp; omega) | (simp; done)))
      · rw [if_pos (by simpa using h)] at q2
        rw [← q2] at p2
        (repeat (with_reducible refine And.intro ?_ ?_; focus first | omega | rfl | assumption | exact ⟨_, rfl, rfl⟩ | (simp; omega) | (simp; done)))
        rw [← p2]
        first | rfl | (simp only [dtC, idxO]; simp -implicitDefEqProofs (disch := omega) only [go_sem]; done)
      · rw [if_neg (by simpa using h)] at q2
        exact inv_at (k + 1) (by omega) rfl rfl ⟨by omega, q2⟩
    · rw [List.drop_of_length_le (by omega), List.find?_nil] at q2
      rw [← q2] at p2
      exact inv_at (i + 1) (by omega) rfl rfl ⟨by omega, p2⟩
  · rw [List.drop_of_length_le (by omega), findP] at p2
    rw [← p2]
    first | rfl | (simp only [dtC, idxO]; simp -implicitDefEqProofs (disch := omega) only [go_sem]; done)
theorem implFnAt_ok (w : MProgram) (name : List UInt8) (hsz : w.sz ≤ 4194304) : PCall Tryz.prog 244 [w.v, .c (.d (.s name))] (.tup [(true, fnC (fnAt w name)), (false, [.d (.i .i64 (idxO (fnAt w name)))]), (false, [.d (.b (fnAt w name).isSome)])]) := fun S => by
  have hb0 : w.fPackages.length ≤ 4194304 := by
    simp only [MProgram.sz, MProgram.enc_eq, szRow, szRow_append, D.sz, List.length_map] at hsz
    omega
  refine acall_cw (rs := [.cell 4 145, .tmp 5, .tmp 6]) Tryz.checked.mixed Tryz.func244 Tryz.ntmps244 rfl rfl rfl rfl rfl ?_
  simp -implicitDefEqProofs (disch := omega) only [go_sem]
  refine loop_at (ι := Nat) Tryz.checked.mixed rfl [1, 4, 12, 13, 14] (fun i => [.c (.d (.s name)), .c (.ptr (0, 1) 0), .c (.d (.sl (w.fPackages.map MPackage.enc))), .c (.d (.i .i64 w.fPackages.length)), .c (.d (.i .i64 i))]) (fun _ => [.box (w.enc.map .d), .box [.d (.s []), .fsl [], .fsl [], .fsl [], .d (.i .i64 0), .d (.s []), .fsl [], .d (.i .i64 0), .d (.s []), .d (.s []), .d (.i .i64 0), .d (.i .i64 0), .d (.s []), .fsl [], .fsl [], .fsl []]] :: S)
    (fun i => i ≤ w.fPackages.length ∧ findP MPackage.fFunctions (fun t => decide (t.fName = name)) (w.fPackages.drop i) i = fnAt w name) (fun i => w.fPackages.length - i) 0 rfl ?_ ⟨Nat.zero_le _, rfl⟩ ?_
  · simp -implicitDefEqProofs (disch := omega) only [go_sem]
  rintro i ⟨p1, p2⟩
  simp -implicitDefEqProofs (disch := omega) only [go_sem]
  with_reducible refine split2 (fun hb => ?_) (fun hb => ?_) <;> have h := hb <;> (try simp only [wf_preprocess] at h) <;> simp -implicitDefEqProofs (disch := omega) only [go_sem, hb] <;> (repeat (with_reducible refine And.intro ?_ ?_; focus first | omega | rfl | assumption | exact ⟨_, rfl, rfl⟩ | (simp; omega) | (simp; done)))
  · have hi : i < w.fPackages.length := by omega
    have hln := MProgram.lenFn hi hsz
    rw [findP_drop hi] at p2
    (repeat (with_reducible refine And.intro ?_ ?_; focus first | omega | rfl | assumption | exact ⟨_, rfl, rfl⟩ | (simp; omega) | (simp; done)))
    refine loop_at (ι := Nat) Tryz.checked.mixed rfl [1, 4, 7, 12, 13, 14, 20, 21, 22] (fun k => [.c (.d (.s name)), .c (.ptr (0, 1) 0), .c (.d (.i .i64 i)), .c (.d (.sl (w.fPackages.map MPackage.enc))), .c (.d (.i .i64 w.fPackages.length)), .c (.d (.i .i64 i)), .c (.d (.sl (w.fPackages[i].fFunctions.map MFunction.enc))), .c (.d (.i .i64 w.fPackages[i].fFunctions.length)), .c (.d (.i .i64 k))])
      (fun _ => [.box (w.enc.map .d), .box [.d (.s []), .fsl [], .fsl [], .fsl [], .d (.i .i64 0), .d (.s []), .fsl [], .d (.i .i64 0), .d (.s []), .d (.s []), .d (.i .i64 0), .d (.i .i64 0), .d (.s []), .fsl [], .fsl [], .fsl []], .box (w.fPackages[i].enc.map .d)] :: S)
      (fun k => k ≤ w.fPackages[i].fFunctions.length ∧ (w.fPackages[i].fFunctions.drop k).find? (fun t => decide (t.fName = name)) = w.fPackages[i].fFunctions.find? (fun t => decide (t.fName = name))) (fun k => w.fPackages[i].fFunctions.length - k) 0 rfl ?_ ⟨Nat.zero_le _, rfl⟩ ?_
    · simp -implicitDefEqProofs (disch := omega) only [go_sem]
    rintro k ⟨q1, q2⟩
    simp -implicitDefEqProofs (disch := omega) only [go_sem]
    with_reducible refine split2 (fun hb => ?_) (fun hb => ?_) <;> have h := hb <;> (try simp only [wf_preprocess] at h) <;> simp -implicitDefEqProofs (disch := omega) only [go_sem, hb] <;> (repeat (with_reducible refine And.intro ?_ ?_; focus first | omega | rfl | assumption | exact ⟨_, rfl, rfl⟩ | (simp; omega) | (simp; done)))
    · have hk : k < w.fPackages[i].fFunctions.length := by omega
      rw [find_drop hk] at q2
      (repeat (with_reducible refine And.intro ?_ ?_; focus first | omega | rfl | assumption | exact ⟨_, rfl, rfl⟩ | (simp; omega) | (simp; done)))
      with_reducible refine split2 (fun hb => ?_) (fun hb => ?_) <;> have h := hb <;> (try simp only [wf_preprocess] at h) <;> simp -implicitDefEqProofs (disch := omega) only [go_sem, hb] <;> (repeat (with_reducible refine And.intro ?_ ?_; focus first | omega | rfl | assumption | exact ⟨_, rfl, rfl⟩ | (simp; omega) | (simp; done)))
      · rw [if_pos (by simpa using h)] at q2
        rw [← q2] at p2
        rw [← p2]
        first | rfl | (simp only [fnC, idxO]; simp -implicitDefEqProofs (disch := omega) only [go_sem]; done)
      · rw [if_neg (by simpa using h)] at q2
        exact inv_drop 3 (by decide) (k + 1) (by omega) rfl rfl rfl rfl ⟨by omega, q2⟩
    · rw [List.drop_of_length_le (by omega), List.find?_nil] at q2
      rw [← q2] at p2
      exact inv_drop 2 (by decide) (i + 1) (by omega) rfl rfl rfl rfl ⟨by omega, p2⟩
  · rw [List.drop_of_length_le (by omega), findP] at p2
    rw [← p2]
    first | rfl | (simp only [fnC, idxO]; simp -implicitDefEqProofs (disch := omega) only [go_sem]; done)
theorem specFnAt_ok (w : MProgram) (name : List UInt8) (hsz : w.sz ≤ 4194304) : PCall Tryz.prog 122 [w.v, .c (.d (.s name))] (.tup [(true, fnC (fnAt w name)), (false, [.d (.i .i64 (idxO (fnAt w name)))]), (false, [.d (.b (fnAt w name).isSome)])]) := fun S => by
  have hb0 : w.fPackages.length ≤ 4194304 := by
    simp only [MProgram.sz, MProgram.enc_eq, szRow, szRow_append, D.sz, List.length_map] at hsz
    omega
  refine acall_cw (rs := [.cell 4 145, .tmp 5, .tmp 6]) Tryz.checked.mixed Tryz.func122 Tryz.ntmps122 rfl rfl rfl rfl rfl ?_
  simp -implicitDefEqProofs (disch := omega) only [go_sem]
  refine loop_at (ι := Nat) Tryz.checked.mixed rfl [1, 2, 4, 7] (fun i => [.c (.d (.s name)), .c (.ptr (0, 0) 0), .c (.ptr (0, 1) 0), .c (.d (.i .i64 i))]) (fun _ => [.box (w.enc.map .d), .box [.d (.s []), .fsl [], .fsl [], .fsl [], .d (.i .i64 0), .d (.s []), .fsl [], .d (.i .i64 0), .d (.s []), .d (.s []), .d (.i .i64 0), .d (.i .i64 0), .d (.s []), .fsl [], .fsl [], .fsl []]] :: S)
    (fun i => i ≤ w.fPackages.length ∧ findP MPackage.fFunctions (fun t => decide (t.fName = name)) (w.fPackages.drop i) i = fnAt w name) (fun i => w.fPackages.length - i) 0 rfl ?_ ⟨Nat.zero_le _, rfl⟩ ?_
  · simp -implicitDefEqProofs (disch := omega) only [go_sem]
  rintro i ⟨p1, p2⟩
  simp -implicitDefEqProofs (disch := omega) only [go_sem]
  with_reducible refine split2 (fun hb => ?_) (fun hb => ?_) <;> have h := hb <;> (try simp only [wf_preprocess] at h) <;> simp -implicitDefEqProofs (disch := omega) only [go_sem, hb] <;> (repeat (with_reducible refine And.intro ?_ ?_; focus first | omega | rfl | assumption | exact ⟨_, rfl, rfl⟩ | (simp; omega) | (simp; done)))
  · have hi : i < w.fPackages.length := by omega
    have hln := MProgram.lenFn hi hsz
    rw [findP_drop hi] at p2
    (repeat (with_reducible refine And.intro ?_ ?_; focus first | omega | rfl | assumption | exact ⟨_, rfl, rfl⟩ | (simp; omega) | (simp; done)))
    refine loop_at (ι := Nat) Tryz.checked.mixed rfl [1, 2, 4, 7, 8] (fun k => [.c (.d (.s name)), .c (.ptr (0, 0) 0), .c (.ptr (0, 1) 0), .c (.d (.i .i64 i)), .c (.d (.i .i64 k))])
      (fun _ => [.box (w.enc.map .d), .box [.d (.s []), .fsl [], .fsl [], .fsl [], .d (.i .i64 0), .d (.s []), .fsl [], .d (.i .i64 0), .d (.s []), .d (.s []), .d (.i .i64 0), .d (.i .i64 0), .d (.s []), .fsl [], .fsl [], .fsl []]] :: S)
      (fun k => k ≤ w.fPackages[i].fFunctions.length ∧ (w.fPackages[i].fFunctions.drop k).find? (fun t => decide (t.fName = name)) = w.fPackages[i].fFunctions.find? (fun t => decide (t.fName = name))) (fun k => w.fPackages[i].fFunctions.length - k) 0 rfl ?_ ⟨Nat.zero_le _, rfl⟩ ?_
    · simp -implicitDefEqProofs (disch := omega) only [go_sem]
    rintro k ⟨q1, q2⟩
    simp -implicitDefEqProofs (disch := omega) only [go_sem]
    (repeat (with_reducible refine And.intro ?_ ?_; focus first | omega | rfl | assumption | exact ⟨_, rfl, rfl⟩ | (simp; omega) | (simp; done)))
    with_reducible refine split2 (fun hb => ?_) (fun hb => ?_) <;> have h := hb <;> (try simp only [wf_preprocess] at h) <;> simp -implicitDefEqProofs (disch := omega) only [go_sem, hb] <;> (repeat (with_reducible refine And.intro ?_ ?_; focus first | omega | rfl | assumption | exact ⟨_, rfl, rfl⟩ | (simp; omega) | (simp; done)))
    · have hk : k < w.fPackages[i].fFunctions.length := by omega
      rw [find_drop hk] at q2
      (repeat (with_reducible refine And.intro ?_ ?_; focus first | omega | rfl | assumption | exact ⟨_, rfl, rfl⟩ | (simp; omega) | (simp; done)))
      with_reducible refine split2 (fun hb => ?_) (fun hb => ?_) <;> have h := hb <;> (try simp only [wf_preprocess] at h) <;> simp -implicitDefEqProofs (disch := omega) only [go_sem, hb] <;> (repeat (with_reducible refine And.intro ?_ ?_; focus first | omega | rfl | assumption | exact ⟨_, rfl, rfl⟩ | (simp; omega) | (simp; done)))
      · rw [if_pos (by simpa using h)] at q2
        rw [← q2] at p2
        (repeat (with_reducible refine And.intro ?_ ?_; focus first | omega | rfl | assumption | exact ⟨_, rfl, rfl⟩ | (simp; omega) | (simp; done)))
        rw [← p2]
        first | rfl | (simp only [fnC, idxO]; simp -implicitDefEqProofs (disch := omega) only [go_sem]; done)
      · rw [if_neg (by simpa using h)] at q2
        exact inv_at (k + 1) (by omega) rfl rfl ⟨by omega, q2⟩
    · rw [List.drop_of_length_le (by omega), List.find?_nil] at q2
      rw [← q2] at p2
      exact inv_at (i + 1) (by omega) rfl rfl ⟨by omega, p2⟩
  · rw [List.drop_of_length_le (by omega), findP] at p2
    rw [← p2]
    first | rfl | (simp only [fnC, idxO]; simp -implicitDefEqProofs (disch := omega) only [go_sem]; done)
end Go.Proofs.YtnleocfkdidhoaaGreat

namespace Go.Ab
def mgK (n : Nat) : Key → Key
  | (0, j) => (0, n + j)
  | (l + 1, j) => (l, j)
def C.mg (n : Nat) : C → C
  | .d x => .d x
  | .any => .any
  | .tsl k es => .tsl (mgK n k) es
  | .fsl es => .fsl es
  | .ptr k off => .ptr (mgK n k) off
  | .rptr cs => .rptr cs
  | .eptr k i off => .eptr (mgK n k) i off
  | .msl k => .msl (mgK n k)
  | .fn f caps => .fn f (caps.map fun x => (mgK n x.1, x.2))
  | .mp k => .mp (mgK n k)
  | .lfl m es => .lfl m es
  | .xp k r p => .xp (mgK n k) r p
  | .xq k r p z i off => .xq (mgK n k) r p z i off
def V.mg (n : Nat) : V → V
  | .c x => .c (x.mg n)
  | .agg cs => .agg (cs.map (C.mg n))
  | .tup xs => .tup (xs.map fun y => (y.1, y.2.map (C.mg n)))
  | .any => .any
def Obj.mg (n : Nat) : Obj → Obj
  | .box cs => .box (cs.map (C.mg n))
  | o => o
section
variable {P : Program} {w : World} {σ : Nat → Nat} {own own0 : List Obj} {Ω : Store} {bo bo0 : List Value} {bΩ : Hs}
end
/-- What is asked where a function ends whose objects live on. -/
def escQ (P : Program) (rs : List ResultVar) (post : V → Store → Prop) (e : Exit) (s : St) : Prop :=
  match e with
  | .normal | .ret => (resV P rs s).1 ∧ match s.st with
    | own :: own0 :: Ω => post ((resV P rs s).2.mg own0.length) ((own0 ++ own.map (Obj.mg own0.length)) :: Ω)
    | _ => False
  | _ => False
section
variable {P : Program} {N : Nat} {s : St}
def escS (P : Program) (rs : List ResultVar) (post : V → Store → Prop) (s : St) (r : R) : Prop := r.1 ∧ match s.st with
  | own :: own0 :: Ω => post (r.2.mg own0.length) ((own0 ++ own.map (Obj.mg own0.length)) :: Ω)
  | _ => False
@[congr] theorem escS_congr {rs : List ResultVar} {post : V → Store → Prop} {s s' : St} {r r' : R} (h1 : s = s') (h2 : r = r') : escS P rs post s r = escS P rs post s' r' := by rw [h1, h2]
theorem escQ_ret {rs : List ResultVar} {post : V → Store → Prop} {tm : List (Nat × V)} {S : Store} : escQ P rs post .ret ⟨tm, S⟩ = escS P rs post ⟨tm, S⟩ (resV P rs ⟨tm, S⟩) := rfl
theorem escQ_normal {rs : List ResultVar} {post : V → Store → Prop} {tm : List (Nat × V)} {S : Store} : escQ P rs post .normal ⟨tm, S⟩ = escS P rs post ⟨tm, S⟩ (resV P rs ⟨tm, S⟩) := rfl
theorem escS_mk {rs : List ResultVar} {post : V → Store → Prop} {tm : List (Nat × V)} {own own0 : List Obj} {Ω : Store} {p : Prop} {v : V} :
    escS P rs post ⟨tm, own :: own0 :: Ω⟩ (p, v) = (p ∧ post (v.mg own0.length) ((own0 ++ own.map (Obj.mg own0.length)) :: Ω)) := rfl
theorem mgK_0 {n j : Nat} : mgK n (0, j) = (0, n + j) := rfl
theorem mgK_1 {n l j : Nat} : mgK n (1 + l, j) = (l, j) := by rw [Nat.add_comm]; rfl
end
attribute [go_sem ↓] escQ_ret escQ_normal
attribute [go_sem] escS_mk V.mg C.mg Obj.mg mgK_0 mgK_1
end Go.Ab

namespace Go.Ab
section
variable {P : Program} {N : Nat} {S : Store} {s : St} {tm : List (Nat × V)}
def loneK (E : Md) (R : Array Oper) (K : St → Prop) (s : St) : Prop := loneB E R s.tm = true ∧ K s
@[congr] theorem loneK_congr {E : Md} {R : Array Oper} {K : St → Prop} {s s' : St} (h2 : s = s') : loneK E R K s = loneK E R K s' := by rw [h2]
def CWL (P : Program) (N : Nat) : Code → (Exit → St → Prop) → St → Prop
  | .seq x y, Q, s => CWL P N x (thenK (CWL P N y Q) Q) s
  | .region _ R true, Q, s => dops P (autoEL R N) R R.toList s (loneK (autoEL R N) R (Q .normal))
  | .region id R false, Q, s => CW P N (.region id R false) Q s
  | .cond c x y, Q, s => CW P N (.cond c x y) Q s
  | .block id c, Q, s => CW P N (.block id c) Q s
  | .exit id, Q, s => CW P N (.exit id) Q s
  | .ret, Q, s => CW P N .ret Q s
  | .skip, Q, s => CW P N .skip Q s
  | .loop c, Q, s => CW P N (.loop c) Q s
  | _, _, _ => False
def codeOkL (N : Nat) : Code → Bool
  | .seq x y => codeOkL N x && codeOkL N y
  | .region _ R true => drawOkL (autoEL R N) R N
  | c => codeOk N c
theorem cwl_sound (hmix : P.follows .mixedOrders = true) : ∀ (c : Code) (Q : Exit → St → Prop) (s : St), codeOkL N c = true → CWL P N c Q s → AW P N c Q s
  | .seq x y, Q, s, ok, h => by
    simp only [codeOkL, Bool.and_eq_true] at ok
    refine aw_seq (AW.mono (cwl_sound hmix x _ s ok.1 h) fun e s' h' => ?_)
    cases e with
    | normal => exact cwl_sound hmix y Q s' ok.2 h'
    | _ => exact h'
  | .region _ R true, Q, s, ok, h => aw_draw_lone hmix ok h
  | .region id R false, Q, s, ok, h => cw_sound hmix _ Q s ok h
  | .cond c x y, Q, s, ok, h => cw_sound hmix _ Q s ok h
  | .block id c, Q, s, ok, h => cw_sound hmix _ Q s ok h
  | .exit id, Q, s, ok, h => cw_sound hmix _ Q s ok h
  | .ret, Q, s, ok, h => cw_sound hmix _ Q s ok h
  | .skip, Q, s, ok, h => cw_sound hmix _ Q s ok h
  | .loop c, Q, s, ok, h => cw_sound hmix _ Q s ok h
  | .rangeFunc _ _ _ _, Q, s, ok, h => h.elim
  | .scope _, Q, s, ok, h => h.elim
  | .label _, Q, s, ok, h => h.elim
  | .goto _, Q, s, ok, h => h.elim
  | .refuse _, Q, s, ok, h => h.elim
theorem cwl_seq {x y : Code} {Q : Exit → St → Prop} : CWL P N (.seq x y) Q s = CWL P N x (thenK (CWL P N y Q) Q) s := by rw [CWL]
theorem cwl_draw {id : Nat} {l : List Oper} {Q : Exit → St → Prop} : CWL P N (.region id ⟨l⟩ true) Q s = dops P (autoEL ⟨l⟩ N) ⟨l⟩ l s (loneK (autoEL ⟨l⟩ N) ⟨l⟩ (Q .normal)) := by rw [CWL]
theorem cwl_region {id : Nat} {l : List Oper} {Q : Exit → St → Prop} : CWL P N (.region id ⟨l⟩ false) Q s = CW P N (.region id ⟨l⟩ false) Q s := by rw [CWL]
theorem cwl_cond {c : Operand} {x y : Code} {Q : Exit → St → Prop} : CWL P N (.cond c x y) Q s = CW P N (.cond c x y) Q s := by rw [CWL]
theorem cwl_ret {Q : Exit → St → Prop} : CWL P N .ret Q s = CW P N .ret Q s := by rw [CWL]
theorem cwl_skip {Q : Exit → St → Prop} : CWL P N .skip Q s = CW P N .skip Q s := by rw [CWL]
theorem acall_cwl {f : FuncId} {fn : Func} {c : Code} {args : List V} {post : V → Store → Prop} {rs : List ResultVar} (hmix : P.follows .mixedOrders = true) (hf : P.funcs[f]? = some fn) (hN : fn.ntmps = N)
    (hb : fn.body = some c) (hn : (fn.name == "runtime.NumGoroutine") = false) (hr : fn.results.toList = rs) (hl : Nat.ble args.length N = true) (hok : codeOkL N c = true)
    (h : CWL P N c (retF P rs post) ⟨argTm (args.map (V.up 1)) 0, [] :: S⟩) : ACall P f args S post := by
  subst hN
  subst hr
  exact acall_enter hf hb hn (Nat.le_of_ble_eq_true hl) (aw_end frzAll_ghost (cwl_sound hmix c _ _ hok h))
end
attribute [go_sem ↓] cwl_seq cwl_draw cwl_region cwl_cond cwl_ret cwl_skip
end Go.Ab

namespace Go.Ab
theorem MProgram.pkg_sz {w : MProgram} {i : Nat} (hi : i < w.fPackages.length) (h : w.sz ≤ 4194304) : w.fPackages[i].sz ≤ 4194304 := by
  have hx : w.fPackages[i].sz ≤ szRows (w.fPackages.map MPackage.enc) := szRows_mem (List.mem_map_of_mem (List.getElem_mem hi))
  simp only [MProgram.sz, MProgram.enc_eq, szRow, szRow_append, D.sz, List.length_map] at h
  omega
theorem MPackage.deps_len {p : MPackage} (h : p.sz ≤ 4194304) : p.fDeps.length ≤ 4194304 := by
  simp only [MPackage.sz, MPackage.enc_eq, szRow, szRow_append, D.sz, List.length_map] at h
  omega
theorem snocI (xs : List Int) (n : Int) : xs.map encI ++ [[D.i .i64 n]] = (xs ++ [n]).map encI := by simp [encI]
theorem set_true {P Q : Nat → Prop} {n j : Nat} (h : ∀ m, m < n → (Q m ↔ P m ∨ m = j)) (hj : j < n) : (boolsOf P n).set j (spliceD ((boolsOf P n).getD j []) 0 [D.b true]) = boolsOf Q n := by
  have : (boolsOf P n).getD j [] = [D.b (dec (P j))] := by simp [boolsOf, List.getD, hj]
  rw [this]
  exact boolsOf_set h hj
theorem bools_zero (n : Nat) : List.replicate n [D.b false] = boolsOf (fun _ => False) n := by
  apply List.ext_getElem?
  intro m
  by_cases h : m < n
  · rw [boolsOf_get h, List.getElem?_replicate, if_pos h, dec_False]
  · rw [List.getElem?_replicate, if_neg h, List.getElem?_eq_none (by rw [boolsOf_len]; omega)]
theorem PCall.less {P : Program} {f : FuncId} {args : List V} {r r' : V} (h : PCall P f args r) (hl : Less r r') : PCall P f args r' :=
  fun S => (h S).kill (0, 0) fun r1 S' e => ⟨r', by rw [e.1]; exact hl, .inl ⟨rfl, e.2⟩⟩
theorem less_fsl {es : List (List D)} : Less (.c (.fsl es)) (.c (.d (.sl es))) := fun w σ S β v h => ⟨h.1.1, h.2⟩
end Go.Ab
namespace Go.Proofs.YtnleocfkdidhoaaGreat
open Go Go.Ab
theorem l1HasInt_ok (xs : List Int) (x : Int) (hl : xs.length ≤ 1073741824) : PCall Tryz.prog 97 [.c (.d (.sl (xs.map encI))), .c (.d (.i .i64 x))] (.c (.d (.b (dec (x ∈ xs))))) := fun S => by
  refine acall_cw (rs := [.tmp 4]) Tryz.checked.mixed Tryz.func97 Tryz.ntmps97 rfl rfl rfl rfl rfl ?_
  simp -implicitDefEqProofs (disch := omega) only [go_sem]
  refine loop_at (ι := Nat) Tryz.checked.mixed rfl [0, 1, 5] (fun i => [.c (.d (.sl (xs.map encI))), .c (.d (.i .i64 x)), .c (.d (.i .i64 i))]) (fun _ => [] :: S)
    (fun i => i ≤ xs.length ∧ ∀ j, j < i → ∀ h : j < xs.length, xs[j] ≠ x) (fun i => xs.length - i) 0 rfl rfl ⟨Nat.zero_le _, fun j h => by omega⟩ ?_
  rintro i ⟨p1, p2⟩
  simp -implicitDefEqProofs (disch := omega) only [go_sem]
  with_reducible refine split2 (fun hb => ?_) (fun hb => ?_) <;> have h := hb <;> (try simp only [wf_preprocess] at h) <;> simp -implicitDefEqProofs (disch := omega) only [go_sem, hb] <;> (repeat (with_reducible refine And.intro ?_ ?_; focus first | omega | rfl | assumption | exact ⟨_, rfl, rfl⟩ | (simp; omega) | (simp; done)))
  · have hi : i < xs.length := by omega
    with_reducible refine split2 (fun hb => ?_) (fun hb => ?_) <;> have h := hb <;> (try simp only [wf_preprocess] at h) <;> simp -implicitDefEqProofs (disch := omega) only [go_sem, hb] <;> (repeat (with_reducible refine And.intro ?_ ?_; focus first | omega | rfl | assumption | exact ⟨_, rfl, rfl⟩ | (simp; omega) | (simp; done)))
    · exact bool_eq (dec_true (by rw [← h]; exact List.getElem_mem hi)).symm
    · refine inv_at (i + 1) (by omega) rfl rfl ⟨by omega, fun j hj hl => ?_⟩
      by_cases e : j = i
      · subst e; exact h
      · exact p2 j (by omega) hl
  · refine bool_eq (dec_false fun hm => ?_).symm
    obtain ⟨j, h1, h2⟩ := List.getElem_of_mem hm
    exact p2 j (by omega) h1 h2
theorem indexI_ok (xs : List Int) (x : Int) (hl : xs.length ≤ 1073741824) : PCall Tryz.prog 309 [.c (.d (.sl (xs.map encI))), .c (.d (.i .i64 x))] (.c (.d (.i .i64 (indexP (fun y => decide (y = x)) xs)))) := fun S => by
  refine acall_cw (rs := [.tmp 4]) Tryz.checked.mixed Tryz.func309 Tryz.ntmps309 rfl rfl rfl rfl rfl ?_
  simp -implicitDefEqProofs (disch := omega) only [go_sem]
  refine loop_at (ι := Nat) Tryz.checked.mixed rfl [0, 1, 7, 8] (fun i => [.c (.d (.sl (xs.map encI))), .c (.d (.i .i64 x)), .c (.d (.i .i64 xs.length)), .c (.d (.i .i64 i))]) (fun _ => [] :: S)
    (fun i => i ≤ xs.length ∧ ∀ j, ∀ hj : j < xs.length, j < i → (fun y => decide (y = x)) xs[j] = false) (fun i => xs.length - i) 0 rfl rfl ⟨Nat.zero_le _, fun j _ h => by omega⟩ ?_
  rintro i ⟨p1, p2⟩
  simp -implicitDefEqProofs (disch := omega) only [go_sem]
  with_reducible refine split2 (fun hb => ?_) (fun hb => ?_) <;> have h := hb <;> (try simp only [wf_preprocess] at h) <;> simp -implicitDefEqProofs (disch := omega) only [go_sem, hb] <;> (repeat (with_reducible refine And.intro ?_ ?_; focus first | omega | rfl | assumption | exact ⟨_, rfl, rfl⟩ | (simp; omega) | (simp; done)))
  · have hi : i < xs.length := by omega
    with_reducible refine split2 (fun hb => ?_) (fun hb => ?_) <;> have h := hb <;> (try simp only [wf_preprocess] at h) <;> simp -implicitDefEqProofs (disch := omega) only [go_sem, hb] <;> (repeat (with_reducible refine And.intro ?_ ?_; focus first | omega | rfl | assumption | exact ⟨_, rfl, rfl⟩ | (simp; omega) | (simp; done)))
    · rw [indexP_here (p := fun y => decide (y = x)) hi p2 (by first | simpa using h | simpa using h.symm)]
    · refine inv_at (i + 1) (by omega) rfl rfl ⟨by omega, fun j hj hji => ?_⟩
      by_cases e : j = i
      · subst e; simp only [decide_eq_false_iff_not]; exact fun y => h y.symm
      · exact p2 j hj (by omega)
  · rw [indexP_no (p := fun y => decide (y = x)) (fun j hj => p2 j hj (by omega))]
theorem containsI_ok (xs : List Int) (x : Int) (hl : xs.length ≤ 1073741824) : PCall Tryz.prog 281 [.c (.d (.sl (xs.map encI))), .c (.d (.i .i64 x))] (.c (.d (.b (dec (x ∈ xs))))) := fun S => by
  refine acall_cw (rs := [.tmp 4]) Tryz.checked.mixed Tryz.func281 Tryz.ntmps281 rfl rfl rfl rfl rfl ?_
  simp -implicitDefEqProofs (disch := omega) only [go_sem]
  refine call_w (indexI_ok xs x hl) ?_
  simp -implicitDefEqProofs (disch := omega) only [go_sem] <;> (repeat (with_reducible refine And.intro ?_ ?_; focus first | omega | rfl | assumption | exact ⟨_, rfl, rfl⟩ | (simp; omega) | (simp; done)))
  refine bool_eq (indexP_pos.trans ?_)
  by_cases h : x ∈ xs
  · rw [dec_true h]; exact List.any_eq_true.2 ⟨x, h, by simp⟩
  · rw [dec_false h]; exact Bool.eq_false_iff.2 fun hx => by
      obtain ⟨y, hy, e⟩ := List.any_eq_true.1 hx
      simp at e
      exact h (e ▸ hy)
theorem specVis_ok (w : MProgram) (i : Nat) (hsz : w.sz ≤ 4194304) (hi : i < w.fPackages.length) : PCall Tryz.prog 31 [w.v, .c (.d (.i .i64 i))] (.c (.d (.sl ((visL w i).map encI)))) := fun S => by
  have hb0 := MProgram.bounds hsz
  have hl : ∀ p, (visL w p).length ≤ p + 1 := fun p => visP_len w p (p + 1)
  have rg : ∀ n j : Nat, j < n → ((List.range n).map fun q => [D.sl ((visL w q).map encI)]).getD j [] = [D.sl ((visL w j).map encI)] := fun n j h => by simp [List.getD, h]
  refine acall_cw (rs := [.tmp 4]) Tryz.checked.mixed Tryz.func31 Tryz.ntmps31 rfl rfl rfl rfl rfl ?_
  simp -implicitDefEqProofs (disch := omega) only [go_sem]
  refine call_w (l1In_ok i 0 (w.fPackages.length - 1)) ?_
  simp -implicitDefEqProofs (disch := omega) only [go_sem] <;> (repeat (with_reducible refine And.intro ?_ ?_; focus first | omega | rfl | assumption | exact ⟨_, rfl, rfl⟩ | (simp; omega) | (simp; done)))
  with_reducible refine split2 (fun hb => ?_) (fun hb => ?_) <;> have h := hb <;> (try simp only [wf_preprocess] at h) <;> simp -implicitDefEqProofs (disch := omega) only [go_sem, hb] <;> (repeat (with_reducible refine And.intro ?_ ?_; focus first | omega | rfl | assumption | exact ⟨_, rfl, rfl⟩ | (simp; omega) | (simp; done)))
  · omega
  (repeat (with_reducible refine And.intro ?_ ?_; focus first | omega | rfl | assumption | exact ⟨_, rfl, rfl⟩ | (simp; omega) | (simp; done)))
  refine aw_tok 5 1 [] rfl (by simp) ?_
  refine loop_at (ι := Nat) Tryz.checked.mixed rfl [1, 2, 5, 6] (fun p => [.c (.d (.i .i64 i)), .c (.ptr (0, 0) 0), .c (.tsl (0, 1) ((List.range p).map fun q => [.sl ((visL w q).map encI)])), .c (.d (.i .i64 p))]) (fun p => [.box (w.enc.map .d), .tok 1 ((List.range p).map fun q => [.sl ((visL w q).map encI)])] :: S)
    (fun p => p ≤ i + 1) (fun p => i + 1 - p) 0 rfl ?_ (Nat.zero_le _) ?_
  · simp -implicitDefEqProofs (disch := omega) only [go_sem]
    rfl
  intro p hp
  simp -implicitDefEqProofs (disch := omega) only [go_sem]
  with_reducible refine split2 (fun hb => ?_) (fun hb => ?_) <;> have h := hb <;> (try simp only [wf_preprocess] at h) <;> simp -implicitDefEqProofs (disch := omega) only [go_sem, hb] <;> (repeat (with_reducible refine And.intro ?_ ?_; focus first | omega | rfl | assumption | exact ⟨_, rfl, rfl⟩ | (simp; omega) | (simp; done)))
  · have hpi : p ≤ i := by omega
    (repeat (with_reducible refine And.intro ?_ ?_; focus first | omega | rfl | assumption | exact ⟨_, rfl, rfl⟩ | (simp; omega) | (simp; done)))
    refine aw_tok 7 1 [] rfl (by simp) ?_
    refine loop_at (ι := Nat) Tryz.checked.mixed rfl [1, 2, 5, 6, 7, 8] (fun k => [.c (.d (.i .i64 i)), .c (.ptr (0, 0) 0), .c (.tsl (0, 1) ((List.range p).map fun q => [.sl ((visL w q).map encI)])), .c (.d (.i .i64 p)), .c (.tsl (0, 2) ((visP w p k).map encI)), .c (.d (.i .i64 k))])
      (fun k => [.box (w.enc.map .d), .tok 1 ((List.range p).map fun q => [.sl ((visL w q).map encI)]), .tok 1 ((visP w p k).map encI)] :: S)
      (fun k => k ≤ p) (fun k => p - k) 0 rfl ?_ (Nat.zero_le _) ?_
    · simp -implicitDefEqProofs (disch := omega) only [go_sem]
      rfl
    intro k hk
    have hkl := visP_len w p k
    simp -implicitDefEqProofs (disch := omega) only [go_sem]
    with_reducible refine split2 (fun hb => ?_) (fun hb => ?_) <;> have h := hb <;> (try simp only [wf_preprocess] at h) <;> simp -implicitDefEqProofs (disch := omega) only [go_sem, hb] <;> (repeat (with_reducible refine And.intro ?_ ?_; focus first | omega | rfl | assumption | exact ⟨_, rfl, rfl⟩ | (simp; omega) | (simp; done)))
    · have hkp : k < p := by omega
      have hf := Vis.first (w := w) hkp
      have hpl : p < w.fPackages.length := by omega
      have hdl := MPackage.deps_len (MProgram.pkg_sz hpl hsz)
      have hdo := depsOf_at hpl
      refine loop_at (ι := Nat) Tryz.checked.mixed rfl [1, 2, 5, 6, 7, 8, 9] (fun d => [.c (.d (.i .i64 i)), .c (.ptr (0, 0) 0), .c (.tsl (0, 1) ((List.range p).map fun q => [.sl ((visL w q).map encI)])), .c (.d (.i .i64 p)), .c (.tsl (0, 2) ((visP w p k).map encI)), .c (.d (.i .i64 k)), .c (.d (.i .i64 d))])
        (fun _ => [.box (w.enc.map .d), .tok 1 ((List.range p).map fun q => [.sl ((visL w q).map encI)]), .tok 1 ((visP w p k).map encI)] :: S)
        (fun d => d ≤ w.fPackages[p].fDeps.length ∧ ∀ e, ∀ he : e < w.fPackages[p].fDeps.length, e < d → ∀ j : Nat, j < p → pkgIndex w w.fPackages[p].fDeps[e] = (j : Int) → ¬ Vis w j k) (fun d => w.fPackages[p].fDeps.length - d) 0 rfl ?_ ⟨Nat.zero_le _, fun e he h => by omega⟩ ?_
      · simp -implicitDefEqProofs (disch := omega) only [go_sem]
      rintro d ⟨q1, q2⟩
      simp -implicitDefEqProofs (disch := omega) only [go_sem]
      (repeat (with_reducible refine And.intro ?_ ?_; focus first | omega | rfl | assumption | exact ⟨_, rfl, rfl⟩ | (simp; omega) | (simp; done)))
      with_reducible refine split2 (fun hb => ?_) (fun hb => ?_) <;> have h := hb <;> (try simp only [wf_preprocess] at h) <;> simp -implicitDefEqProofs (disch := omega) only [go_sem, hb] <;> (repeat (with_reducible refine And.intro ?_ ?_; focus first | omega | rfl | assumption | exact ⟨_, rfl, rfl⟩ | (simp; omega) | (simp; done)))
      · have hd : d < w.fPackages[p].fDeps.length := by omega
        (repeat (with_reducible refine And.intro ?_ ?_; focus first | omega | rfl | assumption | exact ⟨_, rfl, rfl⟩ | (simp; omega) | (simp; done)))
        refine call_w (specPkgIndex_ok w w.fPackages[p].fDeps[d] hsz) ?_
        simp -implicitDefEqProofs (disch := omega) only [go_sem] <;> (repeat (with_reducible refine And.intro ?_ ?_; focus first | omega | rfl | assumption | exact ⟨_, rfl, rfl⟩ | (simp; omega) | (simp; done)))
        have miss : (∀ j : Nat, j < p → pkgIndex w w.fPackages[p].fDeps[d] = (j : Int) → ¬ Vis w j k) → ∀ e, ∀ he : e < w.fPackages[p].fDeps.length, e < d + 1 → ∀ j : Nat, j < p → pkgIndex w w.fPackages[p].fDeps[e] = (j : Int) → ¬ Vis w j k := fun h e he hed => by
          by_cases e' : e = d
          · subst e'; exact h
          · exact q2 e he (by omega)
        with_reducible refine split2 (fun hb => ?_) (fun hb => ?_) <;> have h := hb <;> (try simp only [wf_preprocess] at h) <;> simp -implicitDefEqProofs (disch := omega) only [go_sem, hb] <;> (repeat (with_reducible refine And.intro ?_ ?_; focus first | omega | rfl | assumption | exact ⟨_, rfl, rfl⟩ | (simp; omega) | (simp; done)))
        · have h0 := h
          with_reducible refine split2 (fun hb => ?_) (fun hb => ?_) <;> have h := hb <;> (try simp only [wf_preprocess] at h) <;> simp -implicitDefEqProofs (disch := omega) only [go_sem, hb] <;> (repeat (with_reducible refine And.intro ?_ ?_; focus first | omega | rfl | assumption | exact ⟨_, rfl, rfl⟩ | (simp; omega) | (simp; done)))
          · obtain ⟨j, hj⟩ : ∃ j : Nat, pkgIndex w w.fPackages[p].fDeps[d] = (j : Int) := ⟨_, (Int.toNat_of_nonneg h0).symm⟩
            have hjp : j < p := by omega
            have hlj := hl j
            have hr := rg p j hjp
            rw [hj]
            simp -implicitDefEqProofs (disch := omega) only [go_sem, List.length_range, hr]
            (repeat (with_reducible refine And.intro ?_ ?_; focus first | omega | rfl | assumption | exact ⟨_, rfl, rfl⟩ | (simp; omega) | (simp; done)))
            refine call_w (l1HasInt_ok (visL w j) k (by omega)) ?_
            simp -implicitDefEqProofs (disch := omega) only [go_sem] <;> (repeat (with_reducible refine And.intro ?_ ?_; focus first | omega | rfl | assumption | exact ⟨_, rfl, rfl⟩ | (simp; omega) | (simp; done)))
            rw [dec_congr mem_visL_nat]
            with_reducible refine split2 (fun hb => ?_) (fun hb => ?_) <;> have h := hb <;> (try simp only [wf_preprocess] at h) <;> simp -implicitDefEqProofs (disch := omega) only [go_sem, hb] <;> (repeat (with_reducible refine And.intro ?_ ?_; focus first | omega | rfl | assumption | exact ⟨_, rfl, rfl⟩ | (simp; omega) | (simp; done)))
            · have hv : Vis w p k := hf.2 ⟨j, ⟨hjp, _, by rw [hdo]; exact List.getElem_mem hd, hj⟩, h⟩
              (repeat (with_reducible refine And.intro ?_ ?_; focus first | omega | rfl | assumption | exact ⟨_, rfl, rfl⟩ | (simp; omega) | (simp; done)))
              rw [snocI]
              exact inv_at (k + 1) (by omega) (by rw [visP_yes hv]; rfl) (by rw [visP_yes hv]) (by omega)
            · have hnv := h
              (repeat (with_reducible refine And.intro ?_ ?_; focus first | omega | rfl | assumption | exact ⟨_, rfl, rfl⟩ | (simp; omega) | (simp; done)))
              exact inv_at (d + 1) (by omega) rfl rfl ⟨by omega, miss fun j' h1 h2 => by
                have : j' = j := by omega
                rw [this]; exact hnv⟩
          · exact inv_at (d + 1) (by omega) rfl rfl ⟨by omega, miss fun j' h1 h2 => by omega⟩
        · exact inv_at (d + 1) (by omega) rfl rfl ⟨by omega, miss fun j' h1 h2 => by omega⟩
      · have hd : d = w.fPackages[p].fDeps.length := by omega
        have hv : ¬ Vis w p k := fun hv => by
          obtain ⟨j, ⟨h1, x, h2, h3⟩, h4⟩ := hf.1 hv
          rw [hdo] at h2
          obtain ⟨e, he, ee⟩ := List.getElem_of_mem h2
          exact q2 e he (by omega) j h1 (by rw [ee]; exact h3) h4
        exact inv_at (k + 1) (by omega) (by rw [visP_no hv]; rfl) (by rw [visP_no hv]) (by omega)
    · have hkp : k = p := by omega
      subst hkp
      have e1 := visP_yes (Vis.refl (w := w) k)
      have e2 : (List.range (k + 1)).map (fun q => [D.sl ((visL w q).map encI)]) = (List.range k).map (fun q => [D.sl ((visL w q).map encI)]) ++ [[D.sl ((visL w k).map encI)]] := by rw [List.range_succ, List.map_append]; rfl
      first | refine ⟨by simp only [List.length_range]; omega, ?_⟩ | skip
      (repeat (with_reducible refine And.intro ?_ ?_; focus first | omega | rfl | assumption | exact ⟨_, rfl, rfl⟩ | (simp; omega) | (simp; done)))
      rw [snocI, ← e1]
      exact inv_drop 2 (by decide) (k + 1) (by omega) (by rw [e2]; rfl) (by rw [e2]; rfl) rfl rfl (by omega)
  · have hp : p = i + 1 := by omega
    subst hp
    have hr := rg (i + 1) i (by omega)
    have hrl : ((List.range (i + 1)).map fun q => [D.sl ((visL w q).map encI)]).length = i + 1 := by simp
    generalize ((List.range (i + 1)).map fun q => [D.sl ((visL w q).map encI)]) = R at hr hrl ⊢
    simp -implicitDefEqProofs (disch := omega) only [go_sem, hr, hrl]
    first | exact ⟨by omega, by simp⟩ | trace_state
set_option maxHeartbeats 1000000 in
theorem implVis_ok (w : MProgram) (i : Nat) (hsz : w.sz ≤ 4194304) (hi : i < w.fPackages.length) : PCall Tryz.prog 32 [w.v, .c (.d (.i .i64 i))] (.c (.d (.sl ((visL w i).map encI)))) := fun S => by
  have hb0 := MProgram.bounds hsz
  have hge : ∀ P : Nat → Prop, ∀ j, j < i + 1 → (boolsOf P (i + 1)).getD j [] = [D.b (dec (P j))] := fun P j h => by simp [boolsOf, List.getD, h]
  refine acall_cw (rs := [.tmp 4]) Tryz.checked.mixed Tryz.func32 Tryz.ntmps32 rfl rfl rfl rfl rfl ?_
  simp -implicitDefEqProofs (disch := omega) only [go_sem]
  with_reducible refine split2 (fun hb => ?_) (fun hb => ?_) <;> have h := hb <;> (try simp only [wf_preprocess] at h) <;> simp -implicitDefEqProofs (disch := omega) only [go_sem, hb] <;> (repeat (with_reducible refine And.intro ?_ ?_; focus first | omega | rfl | assumption | exact ⟨_, rfl, rfl⟩ | (simp; omega) | (simp; done)))
  · omega
  with_reducible refine split2 (fun hb => ?_) (fun hb => ?_) <;> have h := hb <;> (try simp only [wf_preprocess] at h) <;> simp -implicitDefEqProofs (disch := omega) only [go_sem, hb] <;> (repeat (with_reducible refine And.intro ?_ ?_; focus first | omega | rfl | assumption | exact ⟨_, rfl, rfl⟩ | (simp; omega) | (simp; done)))
  · omega
  (repeat (with_reducible refine And.intro ?_ ?_; focus first | omega | rfl | assumption | exact ⟨_, rfl, rfl⟩ | (simp; omega) | (simp; done)))
  rw [show ((i : Int) + 1).toNat = i + 1 by omega, bools_zero, set_true (Q := Met w i (i + 1)) (fun m hm => ⟨fun h => .inr (h.elim id fun ⟨p, h1, h2, _⟩ => by have := h2.le; omega), fun h => h.elim False.elim .inl⟩) (by omega)]
  refine loop_at (ι := Nat) Tryz.checked.mixed rfl [2, 5, 6] (fun n => [.c (.ptr (0, 0) 0), .c (.msl (0, 1)), .c (.d (.i .i64 ((n : Int) - 1)))]) (fun n => [.box (w.enc.map .d), .mrow 1 (boolsOf (Met w i n) (i + 1))] :: S)
    (fun n => n ≤ i + 1) (fun n => n) (i + 1) ?_ ?_ (Nat.le_refl _) ?_
  · simp only [List.map_cons, List.map_nil]
    simp -implicitDefEqProofs (disch := omega) only [go_sem]
    simp
  · simp -implicitDefEqProofs (disch := omega) only [go_sem]
  intro n hn
  simp -implicitDefEqProofs (disch := omega) only [go_sem]
  with_reducible refine split2 (fun hb => ?_) (fun hb => ?_) <;> have h := hb <;> (try simp only [wf_preprocess] at h) <;> simp -implicitDefEqProofs (disch := omega) only [go_sem, hb] <;> (repeat (with_reducible refine And.intro ?_ ?_; focus first | omega | rfl | assumption | exact ⟨_, rfl, rfl⟩ | (simp; omega) | (simp; done)))
  · obtain ⟨k, rfl⟩ : ∃ k, n = k + 1 := ⟨n - 1, by omega⟩
    have ek : ((k + 1 : Nat) : Int) - 1 = (k : Int) := by omega
    have hk := hge (Met w i (k + 1)) k (by omega)
    have hkl : k < w.fPackages.length := by omega
    rw [ek]
    simp -implicitDefEqProofs (disch := omega) only [go_sem, hk, boolsOf_len]
    (repeat (with_reducible refine And.intro ?_ ?_; focus first | omega | rfl | assumption | exact ⟨_, rfl, rfl⟩ | (simp; omega) | (simp; done)))
    rw [dec_congr (met_done (w := w) (i := i) (m := k) (by omega))]
    with_reducible refine split2 (fun hb => ?_) (fun hb => ?_) <;> have h := hb <;> (try simp only [wf_preprocess] at h) <;> simp -implicitDefEqProofs (disch := omega) only [go_sem, hb] <;> (repeat (with_reducible refine And.intro ?_ ?_; focus first | omega | rfl | assumption | exact ⟨_, rfl, rfl⟩ | (simp; omega) | (simp; done)))
    · have hv := h
      have e := boolsOf_congr (n := i + 1) (P := Met w i (k + 1)) (Q := Met w i k) fun m _ => (met_skip hv).symm
      (repeat (with_reducible refine And.intro ?_ ?_; focus first | omega | rfl | assumption | exact ⟨_, rfl, rfl⟩ | (simp; omega) | (simp; done)))
      exact inv_at k (by omega) rfl (by rw [← e]) (by omega)
    · have hv := h
      have hdl := MPackage.deps_len (MProgram.pkg_sz hkl hsz)
      have hdo := depsOf_at hkl
      (repeat (with_reducible refine And.intro ?_ ?_; focus first | omega | rfl | assumption | exact ⟨_, rfl, rfl⟩ | (simp; omega) | (simp; done)))
      refine loop_at (ι := Nat) Tryz.checked.mixed rfl [2, 5, 6, 43, 44, 45] (fun d => [.c (.ptr (0, 0) 0), .c (.msl (0, 1)), .c (.d (.i .i64 k)), .c (.d (.sl (w.fPackages[k].fDeps.map encS))), .c (.d (.i .i64 w.fPackages[k].fDeps.length)), .c (.d (.i .i64 d))])
        (fun d => [.box (w.enc.map .d), .mrow 1 (boolsOf (fun m => Met w i (k + 1) m ∨ ∃ e, ∃ he : e < w.fPackages[k].fDeps.length, e < d ∧ pkgIndex w w.fPackages[k].fDeps[e] = (m : Int) ∧ m < k) (i + 1))] :: S)
        (fun d => d ≤ w.fPackages[k].fDeps.length) (fun d => w.fPackages[k].fDeps.length - d) 0 rfl ?_ (Nat.zero_le _) ?_
      · simp -implicitDefEqProofs (disch := omega) only [go_sem]
        rw [boolsOf_congr (P := Met w i (k + 1)) (Q := fun m => Met w i (k + 1) m ∨ ∃ e, ∃ he : e < w.fPackages[k].fDeps.length, e < 0 ∧ pkgIndex w w.fPackages[k].fDeps[e] = (m : Int) ∧ m < k) fun m _ => ⟨.inl, fun h => h.elim id fun ⟨e, _, h, _⟩ => by omega⟩]
      intro d hd
      simp -implicitDefEqProofs (disch := omega) only [go_sem]
      with_reducible refine split2 (fun hb => ?_) (fun hb => ?_) <;> have h := hb <;> (try simp only [wf_preprocess] at h) <;> simp -implicitDefEqProofs (disch := omega) only [go_sem, hb] <;> (repeat (with_reducible refine And.intro ?_ ?_; focus first | omega | rfl | assumption | exact ⟨_, rfl, rfl⟩ | (simp; omega) | (simp; done)))
      · have hdd : d < w.fPackages[k].fDeps.length := by omega
        have stay : (∀ m : Nat, pkgIndex w w.fPackages[k].fDeps[d] = (m : Int) → ¬ m < k) → boolsOf (fun m => Met w i (k + 1) m ∨ ∃ e, ∃ he : e < w.fPackages[k].fDeps.length, e < d ∧ pkgIndex w w.fPackages[k].fDeps[e] = (m : Int) ∧ m < k) (i + 1) = boolsOf (fun m => Met w i (k + 1) m ∨ ∃ e, ∃ he : e < w.fPackages[k].fDeps.length, e < d + 1 ∧ pkgIndex w w.fPackages[k].fDeps[e] = (m : Int) ∧ m < k) (i + 1) := fun hno =>
          boolsOf_congr fun m _ => ⟨fun h => h.imp id fun ⟨e, h1, h2, h3⟩ => ⟨e, h1, by omega, h3⟩, fun h => h.imp id fun ⟨e, h1, h2, h3, h4⟩ => by
            by_cases e' : e = d
            · subst e'; exact absurd h4 (hno m h3)
            · exact ⟨e, h1, by omega, h3, h4⟩⟩
        (repeat (with_reducible refine And.intro ?_ ?_; focus first | omega | rfl | assumption | exact ⟨_, rfl, rfl⟩ | (simp; omega) | (simp; done)))
        refine call_w (implPkgIndex_ok w w.fPackages[k].fDeps[d] hsz) ?_
        simp -implicitDefEqProofs (disch := omega) only [go_sem] <;> (repeat (with_reducible refine And.intro ?_ ?_; focus first | omega | rfl | assumption | exact ⟨_, rfl, rfl⟩ | (simp; omega) | (simp; done)))
        with_reducible refine split2 (fun hb => ?_) (fun hb => ?_) <;> have h := hb <;> (try simp only [wf_preprocess] at h) <;> simp -implicitDefEqProofs (disch := omega) only [go_sem, hb] <;> (repeat (with_reducible refine And.intro ?_ ?_; focus first | omega | rfl | assumption | exact ⟨_, rfl, rfl⟩ | (simp; omega) | (simp; done)))
        · have h0 := h
          with_reducible refine split2 (fun hb => ?_) (fun hb => ?_) <;> have h := hb <;> (try simp only [wf_preprocess] at h) <;> simp -implicitDefEqProofs (disch := omega) only [go_sem, hb] <;> (repeat (with_reducible refine And.intro ?_ ?_; focus first | omega | rfl | assumption | exact ⟨_, rfl, rfl⟩ | (simp; omega) | (simp; done)))
          · obtain ⟨j, hj⟩ : ∃ j : Nat, pkgIndex w w.fPackages[k].fDeps[d] = (j : Int) := ⟨_, (Int.toNat_of_nonneg h0).symm⟩
            have hjk : j < k := by omega
            rw [hj]
            simp -implicitDefEqProofs (disch := omega) only [go_sem, boolsOf_len]
            (repeat (with_reducible refine And.intro ?_ ?_; focus first | omega | rfl | assumption | exact ⟨_, rfl, rfl⟩ | (simp; omega) | (simp; done)))
            rw [set_true (Q := fun m => Met w i (k + 1) m ∨ ∃ e, ∃ he : e < w.fPackages[k].fDeps.length, e < d + 1 ∧ pkgIndex w w.fPackages[k].fDeps[e] = (m : Int) ∧ m < k) (fun m _ => ⟨fun h => by
                rcases h with h | ⟨e, h1, h2, h3, h4⟩
                · exact .inl (.inl h)
                · by_cases e' : e = d
                  · subst e'; right; omega
                  · exact .inl (.inr ⟨e, h1, by omega, h3, h4⟩), fun h => by
                rcases h with (h | ⟨e, h1, h2, h3⟩) | h
                · exact .inl h
                · exact .inr ⟨e, h1, by omega, h3⟩
                · exact .inr ⟨d, hdd, by omega, by rw [h]; exact hj, by omega⟩⟩) (by omega)]
            exact inv_at (d + 1) (by omega) rfl rfl (by omega)
          · exact inv_at (d + 1) (by omega) rfl (by rw [← stay fun m h1 h2 => by omega]) (by omega)
        · exact inv_at (d + 1) (by omega) rfl (by rw [← stay fun m h1 h2 => by omega]) (by omega)
      · have hd' : d = w.fPackages[k].fDeps.length := by omega
        have e := boolsOf_congr (n := i + 1) (P := fun m => Met w i (k + 1) m ∨ ∃ e, ∃ he : e < w.fPackages[k].fDeps.length, e < d ∧ pkgIndex w w.fPackages[k].fDeps[e] = (m : Int) ∧ m < k) (Q := Met w i k) fun m _ => by
          rw [met_read hv]
          constructor
          · rintro (h | ⟨e, h1, h2, h3, h4⟩)
            · exact .inl h
            · exact .inr ⟨h4, _, by rw [hdo]; exact List.getElem_mem h1, h3⟩
          · rintro (h | ⟨h4, x, h1, h3⟩)
            · exact .inl h
            · rw [hdo] at h1
              obtain ⟨e, he, ee⟩ := List.getElem_of_mem h1
              exact .inr ⟨e, he, by omega, by rw [ee]; exact h3, h4⟩
        exact inv_at k (by omega) rfl (by rw [← e]) (by omega)
  have hn0 : n = 0 := by omega
  subst hn0
  rw [boolsOf_congr (P := Met w i 0) (Q := Vis w i) fun m hm => met_low (by omega) (by omega)]
  have hgv := hge (Vis w i)
  have hbl := boolsOf_len (Vis w i) (i + 1)
  generalize hR : boolsOf (Vis w i) (i + 1) = R at hgv hbl ⊢
  simp -implicitDefEqProofs (disch := omega) only [go_sem, hbl]
  (repeat (with_reducible refine And.intro ?_ ?_; focus first | omega | rfl | assumption | exact ⟨_, rfl, rfl⟩ | (simp; omega) | (simp; done)))
  refine aw_tok 10 1 [] rfl (by simp) ?_
  refine loop_at (ι := Nat) Tryz.checked.mixed rfl [10, 64, 65, 66] (fun m => [.c (.tsl (0, 2) ((visP w i m).map encI)), .c (.msl (0, 1)), .c (.d (.i .i64 ((i + 1 : Nat) : Int))), .c (.d (.i .i64 m))]) (fun m => [.box (w.enc.map .d), .mrow 1 R, .tok 1 ((visP w i m).map encI)] :: S)
    (fun m => m ≤ i + 1) (fun m => i + 1 - m) 0 ?_ ?_ (Nat.zero_le _) ?_
  · rfl
  · simp -implicitDefEqProofs (disch := omega) only [go_sem]
    rfl
  intro m hm
  have hml := visP_len w i m
  simp -implicitDefEqProofs (disch := omega) only [go_sem]
  with_reducible refine split2 (fun hb => ?_) (fun hb => ?_) <;> have h := hb <;> (try simp only [wf_preprocess] at h) <;> simp -implicitDefEqProofs (disch := omega) only [go_sem, hb] <;> (repeat (with_reducible refine And.intro ?_ ?_; focus first | omega | rfl | assumption | exact ⟨_, rfl, rfl⟩ | (simp; omega) | (simp; done)))
  · have hmi : m < i + 1 := by omega
    have hg := hgv m hmi
    simp -implicitDefEqProofs (disch := omega) only [go_sem, hg, hbl]
    (repeat (with_reducible refine And.intro ?_ ?_; focus first | omega | rfl | assumption | exact ⟨_, rfl, rfl⟩ | (simp; omega) | (simp; done)))
    with_reducible refine split2 (fun hb => ?_) (fun hb => ?_) <;> have h := hb <;> (try simp only [wf_preprocess] at h) <;> simp -implicitDefEqProofs (disch := omega) only [go_sem, hb] <;> (repeat (with_reducible refine And.intro ?_ ?_; focus first | omega | rfl | assumption | exact ⟨_, rfl, rfl⟩ | (simp; omega) | (simp; done)))
    · have hv := h
      (repeat (with_reducible refine And.intro ?_ ?_; focus first | omega | rfl | assumption | exact ⟨_, rfl, rfl⟩ | (simp; omega) | (simp; done)))
      rw [snocI]
      exact inv_at (m + 1) (by omega) (by rw [visP_yes hv]; rfl) (by rw [visP_yes hv]) (by omega)
    · have hv := h
      exact inv_at (m + 1) (by omega) (by rw [visP_no hv]; rfl) (by rw [visP_no hv]) (by omega)
  · have hmi : m = i + 1 := by omega
    rw [hmi]
    rfl
end Go.Proofs.YtnleocfkdidhoaaGreat
namespace Go.Ab
noncomputable def visI (w : MProgram) (i : Int) : List Int := if 0 ≤ i ∧ i < w.fPackages.length then visL w i.toNat else []
end Go.Ab
namespace Go.Proofs.YtnleocfkdidhoaaGreat
open Go Go.Ab
theorem specVisI_ok (w : MProgram) (i : Int) (hsz : w.sz ≤ 4194304) (hi : -9223372036854775808 ≤ i ∧ i ≤ 9223372036854775807) : PCall Tryz.prog 31 [w.v, .c (.d (.i .i64 i))] (.c (.d (.sl ((visI w i).map encI)))) := by
  have hb0 := MProgram.bounds hsz
  by_cases h : 0 ≤ i ∧ i < w.fPackages.length
  · obtain ⟨n, rfl⟩ := Int.eq_ofNat_of_zero_le h.1
    have h1 := specVis_ok w n hsz (by omega)
    unfold visI
    rw [if_pos h]
    exact h1
  · unfold visI
    rw [if_neg h]
    refine PCall.less (fun S => ?_) less_fsl
    refine acall_cw (rs := [.tmp 4]) Tryz.checked.mixed Tryz.func31 Tryz.ntmps31 rfl rfl rfl rfl rfl ?_
    simp -implicitDefEqProofs (disch := omega) only [go_sem]
    refine call_w (l1In_ok i 0 (w.fPackages.length - 1)) ?_
    simp -implicitDefEqProofs (disch := omega) only [go_sem] <;> (repeat (with_reducible refine And.intro ?_ ?_; focus first | omega | rfl | assumption | exact ⟨_, rfl, rfl⟩ | (simp; omega) | (simp; done)))
    with_reducible refine split2 (fun hb => ?_) (fun hb => ?_) <;> have h := hb <;> (try simp only [wf_preprocess] at h) <;> simp -implicitDefEqProofs (disch := omega) only [go_sem, hb] <;> (repeat (with_reducible refine And.intro ?_ ?_; focus first | omega | rfl | assumption | exact ⟨_, rfl, rfl⟩ | (simp; omega) | (simp; done)))
    · omega
theorem implVisI_ok (w : MProgram) (i : Int) (hsz : w.sz ≤ 4194304) (hi : -9223372036854775808 ≤ i ∧ i ≤ 9223372036854775807) : PCall Tryz.prog 32 [w.v, .c (.d (.i .i64 i))] (.c (.d (.sl ((visI w i).map encI)))) := by
  have hb0 := MProgram.bounds hsz
  by_cases h0 : 0 ≤ i ∧ i < w.fPackages.length
  · obtain ⟨n, rfl⟩ := Int.eq_ofNat_of_zero_le h0.1
    have h1 := implVis_ok w n hsz (by omega)
    unfold visI
    rw [if_pos h0]
    exact h1
  · unfold visI
    rw [if_neg h0]
    refine PCall.less (fun S => ?_) less_fsl
    refine acall_cw (rs := [.tmp 4]) Tryz.checked.mixed Tryz.func32 Tryz.ntmps32 rfl rfl rfl rfl rfl ?_
    simp -implicitDefEqProofs (disch := omega) only [go_sem]
    repeat' (first | with_reducible refine split2 (fun hb => ?_) (fun hb => ?_) <;> have h := hb <;> (try simp only [wf_preprocess] at h) <;> simp -implicitDefEqProofs (disch := omega) only [go_sem, hb] <;> (repeat (with_reducible refine And.intro ?_ ?_; focus first | omega | rfl | assumption | exact ⟨_, rfl, rfl⟩ | (simp; omega) | (simp; done))))
    all_goals first | omega | rfl
end Go.Proofs.YtnleocfkdidhoaaGreat

namespace Go.Ab
theorem mem_visI {w : MProgram} {i k : Int} : k ∈ visI w i ↔ isVis w i k := by
  unfold visI isVis
  split
  · rename_i h; exact ⟨fun x => ⟨h.1, h.2, x⟩, fun x => x.2.2⟩
  · rename_i h; exact ⟨fun x => absurd x (by simp), fun x => absurd ⟨x.1, x.2.1⟩ h⟩
theorem visI_len {w : MProgram} {i : Int} (h : w.fPackages.length ≤ 4194304) : (visI w i).length ≤ 4194304 := by
  unfold visI
  split
  · rename_i hi
    have := visP_len w i.toNat (i.toNat + 1)
    unfold visL
    omega
  · simp
end Go.Ab
namespace Go.Proofs.YtnleocfkdidhoaaGreat
open Go Go.Ab
theorem specIsVis_ok (w : MProgram) (i k : Int) (hsz : w.sz ≤ 4194304) (hi : -9223372036854775808 ≤ i ∧ i ≤ 9223372036854775807) : PCall Tryz.prog 123 [w.v, .c (.d (.i .i64 i)), .c (.d (.i .i64 k))] (.c (.d (.b (dec (isVis w i k))))) := fun S => by
  have hb0 := MProgram.bounds hsz
  have hl := visI_len (w := w) (i := i) hb0
  have hm := dec_congr (mem_visI (w := w) (i := i) (k := k))
  refine acall_cw (rs := [.tmp 6]) Tryz.checked.mixed Tryz.func123 Tryz.ntmps123 rfl rfl rfl rfl rfl ?_
  simp -implicitDefEqProofs (disch := omega) only [go_sem]
  refine call_w (specVisI_ok w i hsz hi) ?_
  simp -implicitDefEqProofs (disch := omega) only [go_sem]
  refine call_w (l1HasInt_ok (visI w i) k (by omega)) ?_
  simp -implicitDefEqProofs (disch := omega) only [go_sem] <;> (repeat (with_reducible refine And.intro ?_ ?_; focus first | omega | rfl | assumption | exact ⟨_, rfl, rfl⟩ | (simp; omega) | (simp; done)))
  exact bool_eq hm
end Go.Proofs.YtnleocfkdidhoaaGreat

namespace Go.Ab
mutual
def nodesT : MType → List MType
  | .mk k n a => .mk k n a :: nodesL a
def nodesL : List MType → List MType
  | [] => []
  | t :: ts => nodesT t ++ nodesL ts
end
theorem nodesT_eq (t : MType) : nodesT t = t :: nodesL t.fArgs := by cases t; rw [nodesT]; rfl
theorem nodesL_drop {ts : List MType} {i : Nat} (hi : i < ts.length) : nodesL (ts.drop i) = nodesT ts[i] ++ nodesL (ts.drop (i + 1)) := by rw [List.drop_eq_getElem_cons hi, nodesL]
mutual
theorem nodes_len : ∀ t : MType, (nodesT t).length = t.cnt
  | .mk k n a => by rw [nodesT, List.length_cons, MType.cnt, nodesL_len a]; omega
theorem nodesL_len : ∀ ts : List MType, (nodesL ts).length = MType.cnts ts
  | [] => rfl
  | t :: ts => by rw [nodesL, List.length_append, MType.cnts, nodes_len t, nodesL_len ts]
end
/-! how often a variable stands in a type -/
def isV (v : List UInt8) (u : MType) : Bool := decide (u.fKind = 1 ∧ u.fName = v)
def countV (v : List UInt8) (t : MType) : Nat := (nodesT t).countP (isV v)
def countVL (v : List UInt8) (ts : List MType) : Nat := (nodesL ts).countP (isV v)
theorem countV_eq (v : List UInt8) (t : MType) : countV v t = (if isV v t then 1 else 0) + countVL v t.fArgs := by
  unfold countV countVL
  rw [nodesT_eq, List.countP_cons]
  omega
theorem countVL_drop {v : List UInt8} {ts : List MType} {i : Nat} (hi : i < ts.length) : countVL v (ts.drop i) = countV v ts[i] + countVL v (ts.drop (i + 1)) := by
  unfold countVL countV
  rw [nodesL_drop hi, List.countP_append]
theorem countV_fold (v : List UInt8) : ∀ (us : List MType) (c : Nat), us.foldl (fun c u => if isV v u then c + 1 else c) c = c + us.countP (isV v)
  | [], c => by simp
  | u :: us, c => by
    rw [List.foldl_cons, countV_fold v us, List.countP_cons]
    split <;> omega
theorem countV_le (v : List UInt8) (t : MType) : countV v t ≤ t.cnt := by
  unfold countV
  rw [← nodes_len]
  exact List.countP_le_length
def occurs (v : List UInt8) (t : MType) : Bool := decide (0 < countV v t)
def selfN : List UInt8 := [115, 101, 108, 102]
def mentions (g : MSignature) : Bool := occurs selfN g.fResult || g.fParams.any (occurs selfN)
def dynSafe (t : MTrait) : Bool := !t.fAssoc && !t.fSignatures.any mentions
end Go.Ab

namespace Go.Proofs.YtnleocfkdidhoaaGreat
open Go Go.Ab
theorem arg_szT {x : MType} {i : Nat} (hi : i < x.fArgs.length) (h : x.sz ≤ 4194304) : x.fArgs[i].sz ≤ 4194304 ∧ x.fArgs.length ≤ 4194304 ∧ x.fName.length ≤ 4194304 := by
  have hx : x.fArgs[i].sz ≤ szRows (x.fArgs.map MType.enc) := szRows_mem (List.mem_map_of_mem (List.getElem_mem hi))
  simp only [MType.sz, MType.enc_eq, szRow, D.sz, List.length_map] at h
  omega
theorem ty_szT {x : MType} (h : x.sz ≤ 4194304) : x.fArgs.length ≤ 4194304 ∧ x.fName.length ≤ 4194304 := by
  simp only [MType.sz, MType.enc_eq, szRow, D.sz, List.length_map] at h
  omega
theorem eachType_all : ∀ n : Nat, ∀ t : MType, SizeOf.sizeOf t < n → t.sz ≤ 4194304 → ∀ (g : Nat) (caps : List (Key × Nat)) (α : Type) (st : α → Store) (I : Nat → α → Prop) (f : α → MType → α) (hf : FStep Tryz.prog g caps st I f MType.v (fun u => u.sz ≤ 4194304)) (m : Nat) (a : α), I (m + t.cnt) a →
    I m ((nodesT t).foldl f a) ∧ ACall Tryz.prog 229 [t.v, .c (.fn g caps)] (st a) (fun r S' => r = .tup [] ∧ S' = st ((nodesT t).foldl f a))
  | 0 => fun t h => by omega
  | n + 1 => by
    have ih := eachType_all n
    intro t hn hsz g caps α st I f hf m a ha
    have lArgs := MType.lt_Args t
    have hts := ty_szT hsz
    rw [MType.cnt_eq, show m + (1 + MType.cnts t.fArgs) = (m + MType.cnts t.fArgs) + 1 by omega] at ha
    have h1 := hf _ a t ha hsz
    -- the arguments
    have hI : ∀ (ts : List MType), SizeOf.sizeOf ts < n → (∀ x ∈ ts, x.sz ≤ 4194304) → ∀ a, I (m + MType.cnts ts) a → I m ((nodesL ts).foldl f a) := by
      intro ts
      induction ts with
      | nil => intro _ _ a ha; exact ha
      | cons x xs ihx =>
        intro hs hz a ha
        simp only [List.cons.sizeOf_spec] at hs
        rw [nodesL, List.foldl_append]
        rw [MType.cnts, show m + (x.cnt + MType.cnts xs) = (m + MType.cnts xs) + x.cnt by omega] at ha
        exact ihx (by omega) (fun y hy => hz y (by simp [hy])) _ (ih x (by omega) (hz x (by simp)) g caps α st I f hf _ a ha).1
    have hall : ∀ x ∈ t.fArgs, x.sz ≤ 4194304 := fun x hx => by
      obtain ⟨i, hi, e⟩ := List.getElem_of_mem hx
      rw [← e]; exact (arg_szT hi hsz).1
    refine ⟨by rw [nodesT_eq, List.foldl_cons]; exact hI t.fArgs (by omega) hall _ h1.1, ?_⟩
    refine acall_cw (rs := []) Tryz.checked.mixed Tryz.func229 Tryz.ntmps229 rfl rfl rfl rfl rfl ?_
    simp -implicitDefEqProofs (disch := omega) only [go_sem]
    refine call_d rfl (h1.2 [_]) ?_
    simp -implicitDefEqProofs (disch := omega) only [go_sem]
    refine loop_at (ι := Nat × α) Tryz.checked.mixed rfl [1, 10, 11, 12] (fun y => [.c (.fn g (upCaps 1 caps)), .c (.d (.sl (t.fArgs.map MType.enc))), .c (.d (.i .i64 t.fArgs.length)), .c (.d (.i .i64 y.1))]) (fun y => [.box [.d (.i .i64 t.fKind), .d (.s t.fName), .d (.sl (t.fArgs.map MType.enc))]] :: st y.2)
      (fun y => y.1 ≤ t.fArgs.length ∧ I (m + MType.cnts (t.fArgs.drop y.1)) y.2 ∧ (nodesL (t.fArgs.drop y.1)).foldl f y.2 = (nodesT t).foldl f a) (fun y => t.fArgs.length - y.1) (0, f a t) rfl rfl ⟨Nat.zero_le _, h1.1, by rw [nodesT_eq, List.foldl_cons]; rfl⟩ ?_
    rintro ⟨i, b⟩ ⟨p1, p2, p3⟩
    simp only at p1 p2 p3
    simp -implicitDefEqProofs (disch := omega) only [go_sem]
    with_reducible refine split2 (fun hb => ?_) (fun hb => ?_) <;> have h := hb <;> (try simp only [wf_preprocess] at h) <;> simp -implicitDefEqProofs (disch := omega) only [go_sem, hb] <;> (repeat (with_reducible refine And.intro ?_ ?_; focus first | omega | rfl | assumption | exact ⟨_, rfl, rfl⟩ | (simp; omega) | (simp; done)))
    · have hi : i < t.fArgs.length := by omega
      have hs := List.sizeOf_lt_of_mem (List.getElem_mem hi)
      rw [nodesL_drop hi, List.foldl_append] at p3
      rw [List.drop_eq_getElem_cons hi, MType.cnts, show m + (t.fArgs[i].cnt + MType.cnts (t.fArgs.drop (i + 1))) = (m + MType.cnts (t.fArgs.drop (i + 1))) + t.fArgs[i].cnt by omega] at p2
      have h2 := (ih t.fArgs[i] (by omega) (arg_szT hi hsz).1 g caps α st I f hf _ b p2).1
      (repeat (with_reducible refine And.intro ?_ ?_; focus first | omega | rfl | assumption | exact ⟨_, rfl, rfl⟩ | (simp; omega) | (simp; done)))
      refine call_d rfl (((ih t.fArgs[i] (by omega) (arg_szT hi hsz).1 g (upCaps 1 caps) α (fun a => [.box [.d (.i .i64 t.fKind), .d (.s t.fName), .d (.sl (t.fArgs.map MType.enc))], .box [.d (.i .i64 t.fArgs[i].fKind), .d (.s t.fArgs[i].fName), .d (.sl (t.fArgs[i].fArgs.map MType.enc))]] :: st a) I f (hf.push _) _ b p2)).2) ?_
      simp -implicitDefEqProofs (disch := omega) only [go_sem]
      exact inv_drop 1 (by decide) (i + 1, (nodesT t.fArgs[i]).foldl f b) (by simp only; omega) rfl rfl (by simp only [zipTm, tmRefs, List.all_cons, List.all_nil, V.refs, C.refs, refs_upCaps1, Bool.and_true]) rfl ⟨by simp only; omega, h2, p3⟩
    · have hi : i = t.fArgs.length := by omega
      rw [hi, List.drop_length, nodesL, List.foldl_nil] at p3
      rw [p3]
theorem eachType_ok {t : MType} (hsz : t.sz ≤ 4194304) {g : Nat} {caps : List (Key × Nat)} {α : Type} {st : α → Store} {I : Nat → α → Prop} {f : α → MType → α} (hf : FStep Tryz.prog g caps st I f MType.v (fun u => u.sz ≤ 4194304)) (m : Nat) (a : α) (ha : I (m + t.cnt) a) :
    I m ((nodesT t).foldl f a) ∧ ACall Tryz.prog 229 [t.v, .c (.fn g caps)] (st a) (fun r S' => r = .tup [] ∧ S' = st ((nodesT t).foldl f a)) := eachType_all _ t (Nat.lt_succ_self _) hsz g caps α st I f hf m a ha
end Go.Proofs.YtnleocfkdidhoaaGreat

namespace Go.Proofs.YtnleocfkdidhoaaGreat
open Go Go.Ab
theorem specCountV_all : ∀ n : Nat, ∀ t : MType, SizeOf.sizeOf t < n → t.sz ≤ 4194304 → ∀ v : List UInt8, PCall Tryz.prog 261 [t.v, .c (.d (.s v))] (.c (.d (.i .i64 (countV v t))))
  | 0 => fun t h => by omega
  | n + 1 => by
    have ih := specCountV_all n
    intro t hn hsz v S
    have lArgs := MType.lt_Args t
    have hts := ty_szT hsz
    have hcl := countV_le v t
    have hcn := cnt_le t
    have he := countV_eq v t
    refine acall_cw (rs := [.tmp 4]) Tryz.checked.mixed Tryz.func261 Tryz.ntmps261 rfl rfl rfl rfl rfl ?_
    simp -implicitDefEqProofs (disch := omega) only [go_sem]
    repeat' (first | (with_reducible refine split2 (fun hb => ?_) (fun hb => ?_) <;> have h := hb <;> (try simp only [wf_preprocess] at h) <;> simp -implicitDefEqProofs (disch := omega) only [go_sem, hb] <;> (repeat (with_reducible refine And.intro ?_ ?_; focus first | omega | rfl | assumption | exact ⟨_, rfl, rfl⟩ | (simp; omega) | (simp; done)))))
    all_goals first
      | (have hc : countV v t = 1 + countVL v t.fArgs := by rw [he, if_pos (by simp only [isV, decide_eq_true_eq]; exact ⟨by assumption, by assumption⟩)])
      | (have hc : countV v t = 0 + countVL v t.fArgs := by rw [he, if_neg (by simp only [isV, decide_eq_true_eq]; exact fun x => by have := x.1; have := x.2; contradiction)])
    all_goals
      refine loop_at (ι := Nat × Nat) Tryz.checked.mixed rfl [1, 2, 5, 6] (fun y => [.c (.d (.s v)), .c (.ptr (0, 0) 0), .c (.d (.i .i64 y.2)), .c (.d (.i .i64 y.1))]) (fun _ => [.box [.d (.i .i64 t.fKind), .d (.s t.fName), .d (.sl (t.fArgs.map MType.enc))]] :: S)
        (fun y => y.1 ≤ t.fArgs.length ∧ countV v t = y.2 + countVL v (t.fArgs.drop y.1)) (fun y => t.fArgs.length - y.1) (0, _) rfl rfl ⟨Nat.zero_le _, hc⟩ ?_
      rintro ⟨i, c⟩ ⟨p1, p2⟩
      simp only at p1 p2
      simp -implicitDefEqProofs (disch := omega) only [go_sem]
      with_reducible refine split2 (fun hb => ?_) (fun hb => ?_) <;> have h := hb <;> (try simp only [wf_preprocess] at h) <;> simp -implicitDefEqProofs (disch := omega) only [go_sem, hb] <;> (repeat (with_reducible refine And.intro ?_ ?_; focus first | omega | rfl | assumption | exact ⟨_, rfl, rfl⟩ | (simp; omega) | (simp; done)))
      · have hi : i < t.fArgs.length := by omega
        rw [countVL_drop hi] at p2
        (repeat (with_reducible refine And.intro ?_ ?_; focus first | omega | rfl | assumption | exact ⟨_, rfl, rfl⟩ | (simp; omega) | (simp; done)))
        refine call_w (ih t.fArgs[i] (by have := List.sizeOf_lt_of_mem (List.getElem_mem hi); omega) (arg_szT hi hsz).1 v) ?_
        simp -implicitDefEqProofs (disch := omega) only [go_sem] <;> (repeat (with_reducible refine And.intro ?_ ?_; focus first | omega | rfl | assumption | exact ⟨_, rfl, rfl⟩ | (simp; omega) | (simp; done)))
        rw [show (c : Int) + (countV v t.fArgs[i] : Int) = ((c + countV v t.fArgs[i] : Nat) : Int) by omega]
        exact inv_at (i + 1, c + countV v t.fArgs[i]) (by simp only; omega) rfl rfl ⟨by simp only; omega, by simp only; omega⟩
      · have hi : i = t.fArgs.length := by omega
        rw [hi, List.drop_length] at p2
        have h0 : countVL v [] = 0 := rfl
        exact int_eq (by omega)
theorem specOccurs_ok (v : List UInt8) (t : MType) (hsz : t.sz ≤ 4194304) : PCall Tryz.prog 216 [.c (.d (.s v)), t.v] (.c (.d (.b (occurs v t)))) := fun S => by
  refine acall_cw (rs := [.tmp 4]) Tryz.checked.mixed Tryz.func216 Tryz.ntmps216 rfl rfl rfl rfl rfl ?_
  simp -implicitDefEqProofs (disch := omega) only [go_sem]
  refine call_w (specCountV_all _ t (Nat.lt_succ_self _) hsz v) ?_
  simp -implicitDefEqProofs (disch := omega) only [go_sem] <;> (repeat (with_reducible refine And.intro ?_ ?_; focus first | omega | rfl | assumption | exact ⟨_, rfl, rfl⟩ | (simp; omega) | (simp; done)))
  exact bool_eq (by unfold occurs; rw [Bool.eq_iff_iff]; simp only [decide_eq_true_eq]; omega)
theorem countV1_step (v : List UInt8) (rest : List Ab.Obj) (cs : List C) (S : Store) : FStep Tryz.prog 326 [((0, 1), 0), ((0, 2), 0)] (fun c : Nat => (.box cs :: .box [.d (.s v)] :: .box [.d (.i .i64 c)] :: rest) :: S) (fun n c => c + n ≤ 1073741824) (fun c u => if isV v u then c + 1 else c) MType.v (fun u => u.sz ≤ 4194304) := by
  intro n c u hI hu
  refine ⟨by simp only; split <;> omega, fun F => ?_⟩
  simp only
  refine acall_cw (rs := []) Tryz.checked.mixed Tryz.func326 Tryz.ntmps326 rfl rfl rfl rfl rfl ?_
  simp -implicitDefEqProofs (disch := omega) only [go_sem]
  repeat' (first | (with_reducible refine split2 (fun hb => ?_) (fun hb => ?_) <;> have h := hb <;> (try simp only [wf_preprocess] at h) <;> simp -implicitDefEqProofs (disch := omega) only [go_sem, hb] <;> (repeat (with_reducible refine And.intro ?_ ?_; focus first | omega | rfl | assumption | exact ⟨_, rfl, rfl⟩ | (simp; omega) | (simp; done)))))
  all_goals first
    | (rw [if_pos (show isV v u = true by simp only [isV, decide_eq_true_eq]; exact ⟨by assumption, by assumption⟩)]; done)
    | (rw [if_pos (show isV v u = true by simp only [isV, decide_eq_true_eq]; exact ⟨by assumption, by assumption⟩)]; rfl)
    | (rw [if_neg (show ¬ isV v u = true by simp only [isV, decide_eq_true_eq]; exact fun x => by have := x.1; have := x.2; contradiction)]; done)
    | (rw [if_neg (show ¬ isV v u = true by simp only [isV, decide_eq_true_eq]; exact fun x => by have := x.1; have := x.2; contradiction)]; rfl)
theorem implCountV_ok (t : MType) (hsz : t.sz ≤ 4194304) (v : List UInt8) : PCall Tryz.prog 323 [t.v, .c (.d (.s v))] (.c (.d (.i .i64 (countV v t)))) := fun S => by
  have hcn := cnt_le t
  refine acall_cw (rs := [.tmp 4]) Tryz.checked.mixed Tryz.func323 Tryz.ntmps323 rfl rfl rfl rfl rfl ?_
  simp -implicitDefEqProofs (disch := omega) only [go_sem]
  (repeat (with_reducible refine And.intro ?_ ?_; focus first | omega | rfl | assumption | exact ⟨_, rfl, rfl⟩ | (simp; omega) | (simp; done)))
  refine call_d rfl (eachType_ok hsz (countV1_step v [] [.d (.i .i64 t.fKind), .d (.s t.fName), .d (.sl (t.fArgs.map MType.enc))] S) 0 0 (by omega)).2 ?_
  simp -implicitDefEqProofs (disch := omega) only [go_sem]
  rw [countV_fold, Nat.zero_add]
  rfl
theorem implOccurs_ok (v : List UInt8) (t : MType) (hsz : t.sz ≤ 4194304) : PCall Tryz.prog 311 [.c (.d (.s v)), t.v] (.c (.d (.b (occurs v t)))) := fun S => by
  refine acall_cw (rs := [.tmp 4]) Tryz.checked.mixed Tryz.func311 Tryz.ntmps311 rfl rfl rfl rfl rfl ?_
  simp -implicitDefEqProofs (disch := omega) only [go_sem]
  refine call_w (implCountV_ok t hsz v) ?_
  simp -implicitDefEqProofs (disch := omega) only [go_sem] <;> (repeat (with_reducible refine And.intro ?_ ?_; focus first | omega | rfl | assumption | exact ⟨_, rfl, rfl⟩ | (simp; omega) | (simp; done)))
  exact bool_eq (by unfold occurs; rw [Bool.eq_iff_iff]; simp only [decide_eq_true_eq]; omega)
end Go.Proofs.YtnleocfkdidhoaaGreat

namespace Go.Ab
theorem MTrait.bounds {x : MTrait} (h : x.sz ≤ 4194304) : x.fName.length ≤ 4194304 ∧ x.fSupertraits.length ≤ 4194304 ∧ x.fSignatures.length ≤ 4194304 := by
  simp only [MTrait.sz, MTrait.enc_eq, szRow, szRow_append, D.sz, List.length_map] at h
  omega
theorem MTrait.sig_b {x : MTrait} {i : Nat} (hi : i < x.fSignatures.length) (h : x.sz ≤ 4194304) : x.fSignatures[i].sz ≤ 4194304 := by
  have hx : x.fSignatures[i].sz ≤ szRows (x.fSignatures.map MSignature.enc) := szRows_mem (List.mem_map_of_mem (List.getElem_mem hi))
  simp only [MTrait.sz, MTrait.enc_eq, szRow, szRow_append, D.sz, List.length_map] at h
  omega
theorem MSignature.bounds {x : MSignature} (h : x.sz ≤ 4194304) : x.fName.length ≤ 4194304 ∧ x.fParams.length ≤ 4194304 ∧ x.fResult.sz ≤ 4194304 ∧ x.fVars.length ≤ 4194304 ∧ x.fBody.sz ≤ 4194304 ∧ ∀ t ∈ x.fParams, t.sz ≤ 4194304 := by
  simp only [MSignature.sz, MSignature.enc_eq, szRow, szRow_append, D.sz, List.length_map, MType.sz_def, MExpr.sz_def] at h
  refine ⟨by omega, by omega, by omega, by omega, by omega, fun t ht => ?_⟩
  have hx : t.sz ≤ szRows (x.fParams.map MType.enc) := szRows_mem (List.mem_map_of_mem ht)
  omega
end Go.Ab
namespace Go.Proofs.YtnleocfkdidhoaaGreat
open Go Go.Ab
theorem specDynSafe_ok (t : MTrait) (hsz : t.sz ≤ 4194304) : PCall Tryz.prog 197 [t.v] (.c (.d (.b (dynSafe t)))) := fun S => by
  have hts := MTrait.bounds hsz
  have bad : ∀ i, ∀ hi : i < t.fSignatures.length, mentions t.fSignatures[i] = true → dynSafe t = false := fun i hi h => by
    unfold dynSafe
    rw [show t.fSignatures.any mentions = true from List.any_eq_true.2 ⟨_, List.getElem_mem hi, h⟩]
    simp
  refine acall_cw (rs := [.tmp 2]) Tryz.checked.mixed Tryz.func197 Tryz.ntmps197 rfl rfl rfl rfl rfl ?_
  simp -implicitDefEqProofs (disch := omega) only [go_sem]
  refine loop_at (ι := Nat) Tryz.checked.mixed rfl [1, 3] (fun i => [.c (.ptr (0, 0) 0), .c (.d (.i .i64 i))]) (fun _ => [.box (t.enc.map .d)] :: S)
    (fun i => i ≤ t.fSignatures.length ∧ ∀ j, ∀ hj : j < t.fSignatures.length, j < i → mentions t.fSignatures[j] = false) (fun i => t.fSignatures.length - i) 0 rfl ?_ ⟨Nat.zero_le _, fun j _ h => by omega⟩ ?_
  · simp -implicitDefEqProofs (disch := omega) only [go_sem]
  rintro i ⟨p1, p2⟩
  simp -implicitDefEqProofs (disch := omega) only [go_sem]
  with_reducible refine split2 (fun hb => ?_) (fun hb => ?_) <;> have h := hb <;> (try simp only [wf_preprocess] at h) <;> simp -implicitDefEqProofs (disch := omega) only [go_sem, hb] <;> (repeat (with_reducible refine And.intro ?_ ?_; focus first | omega | rfl | assumption | exact ⟨_, rfl, rfl⟩ | (simp; omega) | (simp; done)))
  · have hi : i < t.fSignatures.length := by omega
    have hg := MSignature.bounds (MTrait.sig_b hi hsz)
    (repeat (with_reducible refine And.intro ?_ ?_; focus first | omega | rfl | assumption | exact ⟨_, rfl, rfl⟩ | (simp; omega) | (simp; done)))
    refine call_w (specOccurs_ok selfN t.fSignatures[i].fResult (by omega)) ?_
    simp -implicitDefEqProofs (disch := omega) only [go_sem] <;> (repeat (with_reducible refine And.intro ?_ ?_; focus first | omega | rfl | assumption | exact ⟨_, rfl, rfl⟩ | (simp; omega) | (simp; done)))
    with_reducible refine split2 (fun hb => ?_) (fun hb => ?_) <;> have h := hb <;> (try simp only [wf_preprocess] at h) <;> simp -implicitDefEqProofs (disch := omega) only [go_sem, hb] <;> (repeat (with_reducible refine And.intro ?_ ?_; focus first | omega | rfl | assumption | exact ⟨_, rfl, rfl⟩ | (simp; omega) | (simp; done)))
    · rw [bad i hi (by unfold mentions; rw [h]; rfl)]
    have hr := h
    refine loop_at (ι := Nat) Tryz.checked.mixed rfl [1, 3, 4] (fun k => [.c (.ptr (0, 0) 0), .c (.d (.i .i64 i)), .c (.d (.i .i64 k))]) (fun _ => [.box (t.enc.map .d)] :: S)
      (fun k => k ≤ t.fSignatures[i].fParams.length ∧ ∀ j, ∀ hj : j < t.fSignatures[i].fParams.length, j < k → occurs selfN t.fSignatures[i].fParams[j] = false) (fun k => t.fSignatures[i].fParams.length - k) 0 rfl ?_ ⟨Nat.zero_le _, fun j _ h => by omega⟩ ?_
    · simp -implicitDefEqProofs (disch := omega) only [go_sem]
    rintro k ⟨q1, q2⟩
    simp -implicitDefEqProofs (disch := omega) only [go_sem]
    (repeat (with_reducible refine And.intro ?_ ?_; focus first | omega | rfl | assumption | exact ⟨_, rfl, rfl⟩ | (simp; omega) | (simp; done)))
    with_reducible refine split2 (fun hb => ?_) (fun hb => ?_) <;> have h := hb <;> (try simp only [wf_preprocess] at h) <;> simp -implicitDefEqProofs (disch := omega) only [go_sem, hb] <;> (repeat (with_reducible refine And.intro ?_ ?_; focus first | omega | rfl | assumption | exact ⟨_, rfl, rfl⟩ | (simp; omega) | (simp; done)))
    · have hk : k < t.fSignatures[i].fParams.length := by omega
      (repeat (with_reducible refine And.intro ?_ ?_; focus first | omega | rfl | assumption | exact ⟨_, rfl, rfl⟩ | (simp; omega) | (simp; done)))
      refine call_w (specOccurs_ok selfN t.fSignatures[i].fParams[k] (hg.2.2.2.2.2 _ (List.getElem_mem hk))) ?_
      simp -implicitDefEqProofs (disch := omega) only [go_sem] <;> (repeat (with_reducible refine And.intro ?_ ?_; focus first | omega | rfl | assumption | exact ⟨_, rfl, rfl⟩ | (simp; omega) | (simp; done)))
      with_reducible refine split2 (fun hb => ?_) (fun hb => ?_) <;> have h := hb <;> (try simp only [wf_preprocess] at h) <;> simp -implicitDefEqProofs (disch := omega) only [go_sem, hb] <;> (repeat (with_reducible refine And.intro ?_ ?_; focus first | omega | rfl | assumption | exact ⟨_, rfl, rfl⟩ | (simp; omega) | (simp; done)))
      · rw [bad i hi (by unfold mentions; rw [show t.fSignatures[i].fParams.any (occurs selfN) = true from List.any_eq_true.2 ⟨_, List.getElem_mem hk, h⟩]; simp)]
      · refine inv_at (k + 1) (by omega) rfl rfl ⟨by omega, fun j hj hjk => ?_⟩
        by_cases e : j = k
        · subst e; exact h
        · exact q2 j hj (by omega)
    · refine inv_at (i + 1) (by omega) rfl rfl ⟨by omega, fun j hj hji => ?_⟩
      by_cases e : j = i
      · subst e
        unfold mentions
        rw [hr, Bool.false_or]
        refine Bool.eq_false_iff.2 fun hx => ?_
        obtain ⟨u, hu, ho⟩ := List.any_eq_true.1 hx
        obtain ⟨m, hm, e⟩ := List.getElem_of_mem hu
        rw [← e, q2 m hm (by omega)] at ho
        cases ho
      · exact p2 j hj (by omega)
  · have hn : t.fSignatures.any mentions = false := Bool.eq_false_iff.2 fun hx => by
      obtain ⟨u, hu, ho⟩ := List.any_eq_true.1 hx
      obtain ⟨m, hm, e⟩ := List.getElem_of_mem hu
      rw [← e, p2 m hm (by omega)] at ho
      cases ho
    exact bool_eq (by unfold dynSafe; rw [hn]; simp)
theorem mentionsSelf_ok (g : MSignature) (hsz : g.sz ≤ 4194304) : PCall Tryz.prog 285 [g.v] (.c (.d (.b (mentions g)))) := fun S => by
  have hg := MSignature.bounds hsz
  have hcl : ∀ x ∈ g.fParams, PCall Tryz.prog 312 [x.v] (.c (.d (.b (occurs selfN x)))) := fun x hx S => by
    refine acall_cw (rs := [.tmp 2]) Tryz.checked.mixed Tryz.func312 Tryz.ntmps312 rfl rfl rfl rfl rfl ?_
    simp -implicitDefEqProofs (disch := omega) only [go_sem]
    refine call_w (implOccurs_ok selfN x (hg.2.2.2.2.2 x hx)) ?_
    simp -implicitDefEqProofs (disch := omega) only [go_sem] <;> (repeat (with_reducible refine And.intro ?_ ?_; focus first | omega | rfl | assumption | exact ⟨_, rfl, rfl⟩ | (simp; omega) | (simp; done)))
  refine acall_cw (rs := [.tmp 2]) Tryz.checked.mixed Tryz.func285 Tryz.ntmps285 rfl rfl rfl rfl rfl ?_
  simp -implicitDefEqProofs (disch := omega) only [go_sem]
  refine call_w (implOccurs_ok selfN g.fResult (by omega)) ?_
  simp -implicitDefEqProofs (disch := omega) only [go_sem] <;> (repeat (with_reducible refine And.intro ?_ ?_; focus first | omega | rfl | assumption | exact ⟨_, rfl, rfl⟩ | (simp; omega) | (simp; done)))
  with_reducible refine split2 (fun hb => ?_) (fun hb => ?_) <;> have h := hb <;> (try simp only [wf_preprocess] at h) <;> simp -implicitDefEqProofs (disch := omega) only [go_sem, hb] <;> (repeat (with_reducible refine And.intro ?_ ?_; focus first | omega | rfl | assumption | exact ⟨_, rfl, rfl⟩ | (simp; omega) | (simp; done)))
  · exact bool_eq (by unfold mentions; rw [h]; rfl)
  · refine call_d rfl (containsFuncType_ok 312 [] _ g.fParams (occurs selfN) (by omega) fun x hx => FPure.of_pure (hcl x hx)) ?_
    simp -implicitDefEqProofs (disch := omega) only [go_sem]
    exact bool_eq (by unfold mentions; rw [h]; rfl)
theorem implDynSafe_ok (t : MTrait) (hsz : t.sz ≤ 4194304) : PCall Tryz.prog 249 [t.v] (.c (.d (.b (dynSafe t)))) := fun S => by
  have hts := MTrait.bounds hsz
  refine acall_cw (rs := [.tmp 2]) Tryz.checked.mixed Tryz.func249 Tryz.ntmps249 rfl rfl rfl rfl rfl ?_
  simp -implicitDefEqProofs (disch := omega) only [go_sem]
  with_reducible refine split2 (fun hb => ?_) (fun hb => ?_) <;> have h := hb <;> (try simp only [wf_preprocess] at h) <;> simp -implicitDefEqProofs (disch := omega) only [go_sem, hb] <;> (repeat (with_reducible refine And.intro ?_ ?_; focus first | omega | rfl | assumption | exact ⟨_, rfl, rfl⟩ | (simp; omega) | (simp; done)))
  · refine call_d rfl (containsFuncSignature_ok 285 [] _ t.fSignatures mentions (by omega) fun x hx => FPure.of_pure (mentionsSelf_ok x (by obtain ⟨i, hi, e⟩ := List.getElem_of_mem hx; rw [← e]; exact MTrait.sig_b hi hsz))) ?_
    simp -implicitDefEqProofs (disch := omega) only [go_sem]
    exact bool_eq (by unfold dynSafe; rw [h]; rfl)
  · exact bool_eq (by unfold dynSafe; rw [h]; rfl)
end Go.Proofs.YtnleocfkdidhoaaGreat

namespace Go.Ab
noncomputable def seesO {α : Type} (w : MProgram) (i : Int) : Option (α × Nat) → Bool
  | some (_, p) => dec (isVis w i p)
  | none => false
abbrev viewV (w : MProgram) (vis : List Int) : V := .agg [.d (.sl (w.fPackages.map MPackage.enc)), .d (.sl (vis.map encI))]
theorem seesO_split {α : Type} (w : MProgram) (i : Int) (r : Option (α × Nat)) : seesO w i r = (r.isSome && dec (idxO r ∈ visI w i)) := by
  cases r with
  | none => rfl
  | some x => obtain ⟨t, p⟩ := x; simp only [seesO, Option.isSome_some, Bool.true_and, idxO]; exact dec_congr mem_visI.symm
noncomputable def dynCode (w : MProgram) (i : Int) (name : List UInt8) : Int :=
  if seesO w i (traitAt w name) = true then (match traitAt w name with | some (t, _) => if dynSafe t = true then 0 else 5 | none => 3) else 3
noncomputable def ownCode (w : MProgram) (i : Int) (k : Int) (name : List UInt8) (n : Nat) : Int :=
  if k = 1 then 0 else if k = 2 then (if builtInB name = true then 0 else if seesO w i (dataAt w name) = true then (match dataAt w name with | some (d, _) => if n = d.fVars.length then 0 else 2 | none => 1) else 1)
  else if k = 3 then (if seesO w i (traitAt w name) = true then (match traitAt w name with | some (t, _) => if t.fAssoc = true then 0 else 4 | none => 3) else 3)
  else if k = 4 then dynCode w i name else 1
mutual
noncomputable def tyCode (w : MProgram) (i : Int) : MType → Int
  | .mk k n a => if ownCode w i k n a.length = 0 then tyCodes w i a else ownCode w i k n a.length
noncomputable def tyCodes (w : MProgram) (i : Int) : List MType → Int
  | [] => 0
  | t :: ts => if tyCode w i t = 0 then tyCodes w i ts else tyCode w i t
end
theorem tyCode_eq (w : MProgram) (i : Int) (t : MType) : tyCode w i t = if ownCode w i t.fKind t.fName t.fArgs.length = 0 then tyCodes w i t.fArgs else ownCode w i t.fKind t.fName t.fArgs.length := by cases t; rw [tyCode]; rfl
theorem tyCodes_drop {w : MProgram} {i : Int} {ts : List MType} {k : Nat} (hk : k < ts.length) : tyCodes w i (ts.drop k) = if tyCode w i ts[k] = 0 then tyCodes w i (ts.drop (k + 1)) else tyCode w i ts[k] := by
  rw [List.drop_eq_getElem_cons hk, tyCodes]
theorem seesO_some {α : Type} {w : MProgram} {i : Int} {r : Option (α × Nat)} (h : seesO w i r = true) : ∃ t p, r = some (t, p) := by
  cases r with
  | none => cases h
  | some x => exact ⟨x.1, x.2, rfl⟩
theorem traitAt_sz {w : MProgram} {name : List UInt8} {t : MTrait} {p : Nat} (h : traitAt w name = some (t, p)) (hsz : w.sz ≤ 4194304) : t.sz ≤ 4194304 := by
  obtain ⟨q, h1, h2⟩ := findP_mem h
  have a : q.sz ≤ szRows (w.fPackages.map MPackage.enc) := szRows_mem (List.mem_map_of_mem h1)
  have b : t.sz ≤ szRows (q.fTraits.map MTrait.enc) := szRows_mem (List.mem_map_of_mem h2)
  simp only [MProgram.sz, MProgram.enc_eq, szRow, szRow_append, D.sz, List.length_map] at hsz
  simp only [MPackage.sz, MPackage.enc_eq, szRow, szRow_append, D.sz, List.length_map] at a
  omega
theorem dataAt_sz {w : MProgram} {name : List UInt8} {t : MDataType} {p : Nat} (h : dataAt w name = some (t, p)) (hsz : w.sz ≤ 4194304) : t.sz ≤ 4194304 := by
  obtain ⟨q, h1, h2⟩ := findP_mem h
  have a : q.sz ≤ szRows (w.fPackages.map MPackage.enc) := szRows_mem (List.mem_map_of_mem h1)
  have b : t.sz ≤ szRows (q.fDataTypes.map MDataType.enc) := szRows_mem (List.mem_map_of_mem h2)
  simp only [MProgram.sz, MProgram.enc_eq, szRow, szRow_append, D.sz, List.length_map] at hsz
  simp only [MPackage.sz, MPackage.enc_eq, szRow, szRow_append, D.sz, List.length_map] at a
  omega
theorem MDataType.vars_len {d : MDataType} (h : d.sz ≤ 4194304) : d.fVars.length ≤ 4194304 := by
  simp only [MDataType.sz, MDataType.enc_eq, szRow, szRow_append, D.sz, List.length_map] at h
  omega
end Go.Ab
namespace Go.Proofs.YtnleocfkdidhoaaGreat
open Go Go.Ab
theorem viewOf_ok (w : MProgram) (i : Int) (hsz : w.sz ≤ 4194304) (hi : -9223372036854775808 ≤ i ∧ i ≤ 9223372036854775807) : PCall Tryz.prog 56 [w.v, .c (.d (.i .i64 i))] (viewV w (visI w i)) := fun S => by
  refine acall_cw (rs := [.cell 4 112]) Tryz.checked.mixed Tryz.func56 Tryz.ntmps56 rfl rfl rfl rfl rfl ?_
  simp -implicitDefEqProofs (disch := omega) only [go_sem]
  refine call_w (implVisI_ok w i hsz hi) ?_
  simp -implicitDefEqProofs (disch := omega) only [go_sem]
theorem sees_ok (w : MProgram) (vis : List Int) (hl : vis.length ≤ 1073741824) (k : Int) : PCall Tryz.prog 245 [viewV w vis, .c (.d (.i .i64 k))] (.c (.d (.b (dec (k ∈ vis))))) := fun S => by
  refine acall_cw (rs := [.tmp 4]) Tryz.checked.mixed Tryz.func245 Tryz.ntmps245 rfl rfl rfl rfl rfl ?_
  simp -implicitDefEqProofs (disch := omega) only [go_sem]
  refine call_w (containsI_ok vis k hl) ?_
  simp -implicitDefEqProofs (disch := omega) only [go_sem] <;> (repeat (with_reducible refine And.intro ?_ ?_; focus first | omega | rfl | assumption | exact ⟨_, rfl, rfl⟩ | (simp; omega) | (simp; done)))
theorem viewTrait_ok (w : MProgram) (i : Int) (name : List UInt8) (hsz : w.sz ≤ 4194304) : PCall Tryz.prog 200 [viewV w (visI w i), .c (.d (.s name))] (.tup [(true, trC (traitAt w name)), (false, [.d (.b (seesO w i (traitAt w name)))])]) := fun S => by
  have hb0 := MProgram.bounds hsz
  have hl := visI_len (w := w) (i := i) hb0
  have hs := seesO_split w i (traitAt w name)
  refine acall_cwl (rs := [.cell 4 139, .tmp 5]) Tryz.checked.mixed Tryz.func200 Tryz.ntmps200 rfl rfl rfl rfl rfl ?_
  simp -implicitDefEqProofs (disch := omega) only [go_sem]
  refine call_w (implTrAt_ok w name hsz) ?_
  generalize traitAt w name = r at hs ⊢
  cases r with
  | none =>
    simp -implicitDefEqProofs (disch := omega) only [go_sem, trC, idxO, Option.isSome_none]
    refine ⟨by rfl, ?_⟩
    simp -implicitDefEqProofs (disch := omega) only [go_sem]
    rfl
  | some x =>
    obtain ⟨t, p⟩ := x
    simp -implicitDefEqProofs (disch := omega) only [go_sem, trC, idxO, Option.isSome_some]
    refine call_w (sees_ok w (visI w i) (by omega) p) ?_
    simp -implicitDefEqProofs (disch := omega) only [go_sem]
    refine ⟨by rfl, ?_⟩
    simp -implicitDefEqProofs (disch := omega) only [go_sem]
    rw [hs]
    rfl
theorem viewData_ok (w : MProgram) (i : Int) (name : List UInt8) (hsz : w.sz ≤ 4194304) : PCall Tryz.prog 287 [viewV w (visI w i), .c (.d (.s name))] (.tup [(true, dtC (dataAt w name)), (false, [.d (.b (seesO w i (dataAt w name)))])]) := fun S => by
  have hb0 := MProgram.bounds hsz
  have hl := visI_len (w := w) (i := i) hb0
  have hs := seesO_split w i (dataAt w name)
  refine acall_cwl (rs := [.cell 4 82, .tmp 5]) Tryz.checked.mixed Tryz.func287 Tryz.ntmps287 rfl rfl rfl rfl rfl ?_
  simp -implicitDefEqProofs (disch := omega) only [go_sem]
  refine call_w (implDtAt_ok w name hsz) ?_
  generalize dataAt w name = r at hs ⊢
  cases r with
  | none =>
    simp -implicitDefEqProofs (disch := omega) only [go_sem, dtC, idxO, Option.isSome_none]
    refine ⟨by rfl, ?_⟩
    simp -implicitDefEqProofs (disch := omega) only [go_sem]
    rfl
  | some x =>
    obtain ⟨t, p⟩ := x
    simp -implicitDefEqProofs (disch := omega) only [go_sem, dtC, idxO, Option.isSome_some]
    refine call_w (sees_ok w (visI w i) (by omega) p) ?_
    simp -implicitDefEqProofs (disch := omega) only [go_sem]
    refine ⟨by rfl, ?_⟩
    simp -implicitDefEqProofs (disch := omega) only [go_sem]
    rw [hs]
    rfl
theorem l18Trait_ok (w : MProgram) (i : Int) (name : List UInt8) (hsz : w.sz ≤ 4194304) (hi : -9223372036854775808 ≤ i ∧ i ≤ 9223372036854775807) : PCall Tryz.prog 124 [w.v, .c (.d (.i .i64 i)), .c (.d (.s name))] (.tup [(true, trC (traitAt w name)), (false, [.d (.b (seesO w i (traitAt w name)))])]) := fun S => by
  refine acall_cwl (rs := [.cell 6 139, .tmp 7]) Tryz.checked.mixed Tryz.func124 Tryz.ntmps124 rfl rfl rfl rfl rfl ?_
  simp -implicitDefEqProofs (disch := omega) only [go_sem]
  refine call_w (specTrAt_ok w name hsz) ?_
  generalize traitAt w name = r
  cases r with
  | none =>
    simp -implicitDefEqProofs (disch := omega) only [go_sem, trC, idxO, Option.isSome_none]
    refine ⟨by rfl, ?_⟩
    simp -implicitDefEqProofs (disch := omega) only [go_sem]
    rfl
  | some x =>
    obtain ⟨t, p⟩ := x
    simp -implicitDefEqProofs (disch := omega) only [go_sem, trC, idxO, Option.isSome_some]
    refine call_w (specIsVis_ok w i p hsz hi) ?_
    simp -implicitDefEqProofs (disch := omega) only [go_sem]
    refine ⟨by rfl, ?_⟩
    simp -implicitDefEqProofs (disch := omega) only [go_sem]
    rfl
theorem l18Data_ok (w : MProgram) (i : Int) (name : List UInt8) (hsz : w.sz ≤ 4194304) (hi : -9223372036854775808 ≤ i ∧ i ≤ 9223372036854775807) : PCall Tryz.prog 243 [w.v, .c (.d (.i .i64 i)), .c (.d (.s name))] (.tup [(true, dtC (dataAt w name)), (false, [.d (.b (seesO w i (dataAt w name)))])]) := fun S => by
  refine acall_cwl (rs := [.cell 6 82, .tmp 7]) Tryz.checked.mixed Tryz.func243 Tryz.ntmps243 rfl rfl rfl rfl rfl ?_
  simp -implicitDefEqProofs (disch := omega) only [go_sem]
  refine call_w (specDtAt_ok w name hsz) ?_
  generalize dataAt w name = r
  cases r with
  | none =>
    simp -implicitDefEqProofs (disch := omega) only [go_sem, dtC, idxO, Option.isSome_none]
    refine ⟨by rfl, ?_⟩
    simp -implicitDefEqProofs (disch := omega) only [go_sem]
    rfl
  | some x =>
    obtain ⟨t, p⟩ := x
    simp -implicitDefEqProofs (disch := omega) only [go_sem, dtC, idxO, Option.isSome_some]
    refine call_w (specIsVis_ok w i p hsz hi) ?_
    simp -implicitDefEqProofs (disch := omega) only [go_sem]
    refine ⟨by rfl, ?_⟩
    simp -implicitDefEqProofs (disch := omega) only [go_sem]
    rfl
end Go.Proofs.YtnleocfkdidhoaaGreat

namespace Go.Proofs.YtnleocfkdidhoaaGreat
open Go Go.Ab
theorem viewDyn_ok (w : MProgram) (i : Int) (name : List UInt8) (hsz : w.sz ≤ 4194304) : PCall Tryz.prog 204 [viewV w (visI w i), .c (.d (.s name))] (.c (.d (.i .i64 (dynCode w i name)))) := fun S => by
  refine acall_cw (rs := [.tmp 4]) Tryz.checked.mixed Tryz.func204 Tryz.ntmps204 rfl rfl rfl rfl rfl ?_
  simp -implicitDefEqProofs (disch := omega) only [go_sem]
  refine call_w (viewTrait_ok w i name hsz) ?_
  simp -implicitDefEqProofs (disch := omega) only [go_sem]
  cases hs : seesO w i (traitAt w name) with
  | false =>
    cases hr : traitAt w name <;> (simp -implicitDefEqProofs (disch := omega) only [go_sem, trC]; exact int_eq (by unfold dynCode; rw [hs]; rfl))
  | true =>
    obtain ⟨t, p, ht⟩ := seesO_some hs
    have hd : dynCode w i name = if dynSafe t = true then 0 else 5 := by unfold dynCode; rw [if_pos hs, ht]
    simp -implicitDefEqProofs (disch := omega) only [go_sem, ht, trC]
    refine call_w (implDynSafe_ok t (traitAt_sz ht hsz)) ?_
    simp -implicitDefEqProofs (disch := omega) only [go_sem]
    with_reducible refine split2 (fun hb => ?_) (fun hb => ?_) <;> have h := hb <;> (try simp only [wf_preprocess] at h) <;> simp -implicitDefEqProofs (disch := omega) only [go_sem, hb] <;> (repeat (with_reducible refine And.intro ?_ ?_; focus first | omega | rfl | assumption | exact ⟨_, rfl, rfl⟩ | (simp; omega) | (simp; done)))
    · exact int_eq (by rw [hd, h]; rfl)
    · exact int_eq (by rw [hd, h]; rfl)
theorem l18Dyn_ok (w : MProgram) (i : Int) (name : List UInt8) (hsz : w.sz ≤ 4194304) (hi : -9223372036854775808 ≤ i ∧ i ≤ 9223372036854775807) : PCall Tryz.prog 128 [w.v, .c (.d (.i .i64 i)), .c (.d (.s name))] (.c (.d (.i .i64 (dynCode w i name)))) := fun S => by
  refine acall_cw (rs := [.tmp 6]) Tryz.checked.mixed Tryz.func128 Tryz.ntmps128 rfl rfl rfl rfl rfl ?_
  simp -implicitDefEqProofs (disch := omega) only [go_sem]
  refine call_w (l18Trait_ok w i name hsz hi) ?_
  simp -implicitDefEqProofs (disch := omega) only [go_sem]
  cases hs : seesO w i (traitAt w name) with
  | false =>
    cases hr : traitAt w name <;> (simp -implicitDefEqProofs (disch := omega) only [go_sem, trC]; exact int_eq (by unfold dynCode; rw [hs]; rfl))
  | true =>
    obtain ⟨t, p, ht⟩ := seesO_some hs
    have hd : dynCode w i name = if dynSafe t = true then 0 else 5 := by unfold dynCode; rw [if_pos hs, ht]
    simp -implicitDefEqProofs (disch := omega) only [go_sem, ht, trC]
    refine call_w (specDynSafe_ok t (traitAt_sz ht hsz)) ?_
    simp -implicitDefEqProofs (disch := omega) only [go_sem]
    with_reducible refine split2 (fun hb => ?_) (fun hb => ?_) <;> have h := hb <;> (try simp only [wf_preprocess] at h) <;> simp -implicitDefEqProofs (disch := omega) only [go_sem, hb] <;> (repeat (with_reducible refine And.intro ?_ ?_; focus first | omega | rfl | assumption | exact ⟨_, rfl, rfl⟩ | (simp; omega) | (simp; done)))
    · exact int_eq (by rw [hd, h]; rfl)
    · exact int_eq (by rw [hd, h]; rfl)
theorem checkOwn_ok (w : MProgram) (i : Int) (t : MType) (hsz : w.sz ≤ 4194304) (ht : t.sz ≤ 4194304) : PCall Tryz.prog 250 [viewV w (visI w i), t.v] (.c (.d (.i .i64 (ownCode w i t.fKind t.fName t.fArgs.length)))) := fun S => by
  have hl := ty_szT ht
  refine acall_cw (rs := [.tmp 4]) Tryz.checked.mixed Tryz.func250 Tryz.ntmps250 rfl rfl rfl rfl rfl ?_
  simp -implicitDefEqProofs (disch := omega) only [go_sem]
  with_reducible refine split2 (fun hb => ?_) (fun hb => ?_) <;> have h := hb <;> (try simp only [wf_preprocess] at h) <;> simp -implicitDefEqProofs (disch := omega) only [go_sem, hb] <;> (repeat (with_reducible refine And.intro ?_ ?_; focus first | omega | rfl | assumption | exact ⟨_, rfl, rfl⟩ | (simp; omega) | (simp; done)))
  · exact int_eq (by unfold ownCode; rw [if_pos h])
  have k1 := h
  with_reducible refine split2 (fun hb => ?_) (fun hb => ?_) <;> have h := hb <;> (try simp only [wf_preprocess] at h) <;> simp -implicitDefEqProofs (disch := omega) only [go_sem, hb] <;> (repeat (with_reducible refine And.intro ?_ ?_; focus first | omega | rfl | assumption | exact ⟨_, rfl, rfl⟩ | (simp; omega) | (simp; done)))
  · have k2 := h
    refine call_w (isBuiltIn_ok t.fName) ?_
    simp -implicitDefEqProofs (disch := omega) only [go_sem] <;> (repeat (with_reducible refine And.intro ?_ ?_; focus first | omega | rfl | assumption | exact ⟨_, rfl, rfl⟩ | (simp; omega) | (simp; done)))
    with_reducible refine split2 (fun hb => ?_) (fun hb => ?_) <;> have h := hb <;> (try simp only [wf_preprocess] at h) <;> simp -implicitDefEqProofs (disch := omega) only [go_sem, hb] <;> (repeat (with_reducible refine And.intro ?_ ?_; focus first | omega | rfl | assumption | exact ⟨_, rfl, rfl⟩ | (simp; omega) | (simp; done)))
    · exact int_eq (by unfold ownCode; rw [if_neg k1, if_pos k2, if_pos h])
    have k3 : ¬ builtInB t.fName = true := by rw [h]; simp
    refine call_w (viewData_ok w i t.fName hsz) ?_
    simp -implicitDefEqProofs (disch := omega) only [go_sem]
    cases hs : seesO w i (dataAt w t.fName) with
    | false =>
      cases hr : dataAt w t.fName <;> (simp -implicitDefEqProofs (disch := omega) only [go_sem, dtC]; exact int_eq (by unfold ownCode; rw [if_neg k1, if_pos k2, if_neg k3, if_neg (by rw [hs]; simp)]))
    | true =>
      obtain ⟨d, p, hd⟩ := seesO_some hs
      have hdl := MDataType.vars_len (dataAt_sz hd hsz)
      have he : ownCode w i t.fKind t.fName t.fArgs.length = if t.fArgs.length = d.fVars.length then 0 else 2 := by unfold ownCode; rw [if_neg k1, if_pos k2, if_neg k3, if_pos hs, hd]
      simp -implicitDefEqProofs (disch := omega) only [go_sem, hd, dtC]
      with_reducible refine split2 (fun hb => ?_) (fun hb => ?_) <;> have h := hb <;> (try simp only [wf_preprocess] at h) <;> simp -implicitDefEqProofs (disch := omega) only [go_sem, hb] <;> (repeat (with_reducible refine And.intro ?_ ?_; focus first | omega | rfl | assumption | exact ⟨_, rfl, rfl⟩ | (simp; omega) | (simp; done)))
      · exact int_eq (by rw [he, if_neg (by omega)])
      · exact int_eq (by rw [he, if_pos (by omega)])
  have k2 := h
  with_reducible refine split2 (fun hb => ?_) (fun hb => ?_) <;> have h := hb <;> (try simp only [wf_preprocess] at h) <;> simp -implicitDefEqProofs (disch := omega) only [go_sem, hb] <;> (repeat (with_reducible refine And.intro ?_ ?_; focus first | omega | rfl | assumption | exact ⟨_, rfl, rfl⟩ | (simp; omega) | (simp; done)))
  · have k3 := h
    refine call_w (viewTrait_ok w i t.fName hsz) ?_
    simp -implicitDefEqProofs (disch := omega) only [go_sem]
    cases hs : seesO w i (traitAt w t.fName) with
    | false =>
      cases hr : traitAt w t.fName <;> (simp -implicitDefEqProofs (disch := omega) only [go_sem, trC]; exact int_eq (by unfold ownCode; rw [if_neg k1, if_neg k2, if_pos k3, if_neg (by rw [hs]; simp)]))
    | true =>
      obtain ⟨d, p, hd⟩ := seesO_some hs
      have he : ownCode w i t.fKind t.fName t.fArgs.length = if d.fAssoc = true then 0 else 4 := by unfold ownCode; rw [if_neg k1, if_neg k2, if_pos k3, if_pos hs, hd]
      simp -implicitDefEqProofs (disch := omega) only [go_sem, hd, trC]
      with_reducible refine split2 (fun hb => ?_) (fun hb => ?_) <;> have h := hb <;> (try simp only [wf_preprocess] at h) <;> simp -implicitDefEqProofs (disch := omega) only [go_sem, hb] <;> (repeat (with_reducible refine And.intro ?_ ?_; focus first | omega | rfl | assumption | exact ⟨_, rfl, rfl⟩ | (simp; omega) | (simp; done)))
      · exact int_eq (by rw [he, h]; rfl)
      · exact int_eq (by rw [he, h]; rfl)
  have k3 := h
  with_reducible refine split2 (fun hb => ?_) (fun hb => ?_) <;> have h := hb <;> (try simp only [wf_preprocess] at h) <;> simp -implicitDefEqProofs (disch := omega) only [go_sem, hb] <;> (repeat (with_reducible refine And.intro ?_ ?_; focus first | omega | rfl | assumption | exact ⟨_, rfl, rfl⟩ | (simp; omega) | (simp; done)))
  · have k4 := h
    refine call_w (viewDyn_ok w i t.fName hsz) ?_
    simp -implicitDefEqProofs (disch := omega) only [go_sem]
    exact int_eq (by unfold ownCode; rw [if_neg k1, if_neg k2, if_neg k3, if_pos k4])
  · exact int_eq (by unfold ownCode; rw [if_neg k1, if_neg k2, if_neg k3, if_neg h])
theorem l18Here_ok (w : MProgram) (i : Int) (t : MType) (hsz : w.sz ≤ 4194304) (hi : -9223372036854775808 ≤ i ∧ i ≤ 9223372036854775807) (ht : t.sz ≤ 4194304) : PCall Tryz.prog 198 [w.v, .c (.d (.i .i64 i)), t.v] (.c (.d (.i .i64 (ownCode w i t.fKind t.fName t.fArgs.length)))) := fun S => by
  have hl := ty_szT ht
  refine acall_cw (rs := [.tmp 6]) Tryz.checked.mixed Tryz.func198 Tryz.ntmps198 rfl rfl rfl rfl rfl ?_
  simp -implicitDefEqProofs (disch := omega) only [go_sem]
  with_reducible refine split2 (fun hb => ?_) (fun hb => ?_) <;> have h := hb <;> (try simp only [wf_preprocess] at h) <;> simp -implicitDefEqProofs (disch := omega) only [go_sem, hb] <;> (repeat (with_reducible refine And.intro ?_ ?_; focus first | omega | rfl | assumption | exact ⟨_, rfl, rfl⟩ | (simp; omega) | (simp; done)))
  · exact int_eq (by unfold ownCode; rw [if_pos h])
  have k1 := h
  with_reducible refine split2 (fun hb => ?_) (fun hb => ?_) <;> have h := hb <;> (try simp only [wf_preprocess] at h) <;> simp -implicitDefEqProofs (disch := omega) only [go_sem, hb] <;> (repeat (with_reducible refine And.intro ?_ ?_; focus first | omega | rfl | assumption | exact ⟨_, rfl, rfl⟩ | (simp; omega) | (simp; done)))
  · have k4 := h
    refine call_w (l18Dyn_ok w i t.fName hsz hi) ?_
    simp -implicitDefEqProofs (disch := omega) only [go_sem]
    exact int_eq (by unfold ownCode; rw [if_neg k1, if_neg (by omega), if_neg (by omega), if_pos k4])
  have k4 := h
  with_reducible refine split2 (fun hb => ?_) (fun hb => ?_) <;> have h := hb <;> (try simp only [wf_preprocess] at h) <;> simp -implicitDefEqProofs (disch := omega) only [go_sem, hb] <;> (repeat (with_reducible refine And.intro ?_ ?_; focus first | omega | rfl | assumption | exact ⟨_, rfl, rfl⟩ | (simp; omega) | (simp; done)))
  · have k3 := h
    refine call_w (l18Trait_ok w i t.fName hsz hi) ?_
    simp -implicitDefEqProofs (disch := omega) only [go_sem]
    cases hs : seesO w i (traitAt w t.fName) with
    | false =>
      cases hr : traitAt w t.fName <;> (simp -implicitDefEqProofs (disch := omega) only [go_sem, trC]; exact int_eq (by unfold ownCode; rw [if_neg k1, if_neg (by omega), if_pos k3, if_neg (by rw [hs]; simp)]))
    | true =>
      obtain ⟨d, p, hd⟩ := seesO_some hs
      have he : ownCode w i t.fKind t.fName t.fArgs.length = if d.fAssoc = true then 0 else 4 := by unfold ownCode; rw [if_neg k1, if_neg (by omega), if_pos k3, if_pos hs, hd]
      simp -implicitDefEqProofs (disch := omega) only [go_sem, hd, trC]
      with_reducible refine split2 (fun hb => ?_) (fun hb => ?_) <;> have h := hb <;> (try simp only [wf_preprocess] at h) <;> simp -implicitDefEqProofs (disch := omega) only [go_sem, hb] <;> (repeat (with_reducible refine And.intro ?_ ?_; focus first | omega | rfl | assumption | exact ⟨_, rfl, rfl⟩ | (simp; omega) | (simp; done)))
      · exact int_eq (by rw [he, h]; rfl)
      · exact int_eq (by rw [he, h]; rfl)
  have k3 := h
  with_reducible refine split2 (fun hb => ?_) (fun hb => ?_) <;> have h := hb <;> (try simp only [wf_preprocess] at h) <;> simp -implicitDefEqProofs (disch := omega) only [go_sem, hb] <;> (repeat (with_reducible refine And.intro ?_ ?_; focus first | omega | rfl | assumption | exact ⟨_, rfl, rfl⟩ | (simp; omega) | (simp; done)))
  · have k2 := h
    refine call_w (l4Base_ok t.fName) ?_
    simp -implicitDefEqProofs (disch := omega) only [go_sem] <;> (repeat (with_reducible refine And.intro ?_ ?_; focus first | omega | rfl | assumption | exact ⟨_, rfl, rfl⟩ | (simp; omega) | (simp; done)))
    with_reducible refine split2 (fun hb => ?_) (fun hb => ?_) <;> have h := hb <;> (try simp only [wf_preprocess] at h) <;> simp -implicitDefEqProofs (disch := omega) only [go_sem, hb] <;> (repeat (with_reducible refine And.intro ?_ ?_; focus first | omega | rfl | assumption | exact ⟨_, rfl, rfl⟩ | (simp; omega) | (simp; done)))
    · exact int_eq (by unfold ownCode; rw [if_neg k1, if_pos k2, if_pos h])
    have k5 : ¬ builtInB t.fName = true := by rw [h]; simp
    refine call_w (l18Data_ok w i t.fName hsz hi) ?_
    simp -implicitDefEqProofs (disch := omega) only [go_sem]
    cases hs : seesO w i (dataAt w t.fName) with
    | false =>
      cases hr : dataAt w t.fName <;> (simp -implicitDefEqProofs (disch := omega) only [go_sem, dtC]; exact int_eq (by unfold ownCode; rw [if_neg k1, if_pos k2, if_neg k5, if_neg (by rw [hs]; simp)]))
    | true =>
      obtain ⟨d, p, hd⟩ := seesO_some hs
      have hdl := MDataType.vars_len (dataAt_sz hd hsz)
      have he : ownCode w i t.fKind t.fName t.fArgs.length = if t.fArgs.length = d.fVars.length then 0 else 2 := by unfold ownCode; rw [if_neg k1, if_pos k2, if_neg k5, if_pos hs, hd]
      simp -implicitDefEqProofs (disch := omega) only [go_sem, hd, dtC]
      with_reducible refine split2 (fun hb => ?_) (fun hb => ?_) <;> have h := hb <;> (try simp only [wf_preprocess] at h) <;> simp -implicitDefEqProofs (disch := omega) only [go_sem, hb] <;> (repeat (with_reducible refine And.intro ?_ ?_; focus first | omega | rfl | assumption | exact ⟨_, rfl, rfl⟩ | (simp; omega) | (simp; done)))
      · exact int_eq (by rw [he, if_neg (by omega)])
      · exact int_eq (by rw [he, if_pos (by omega)])
  · exact int_eq (by unfold ownCode; rw [if_neg k1, if_neg h, if_neg k3, if_neg k4])
theorem checkType_all (w : MProgram) (i : Int) (hsz : w.sz ≤ 4194304) : ∀ n : Nat, (∀ t : MType, SizeOf.sizeOf t < n → t.sz ≤ 4194304 → PCall Tryz.prog 205 [viewV w (visI w i), t.v] (.c (.d (.i .i64 (tyCode w i t))))) ∧
    (∀ ts : List MType, SizeOf.sizeOf ts < n → ts.length ≤ 4194304 → (∀ t ∈ ts, t.sz ≤ 4194304) → PCall Tryz.prog 251 [viewV w (visI w i), .c (.d (.sl (ts.map MType.enc)))] (.c (.d (.i .i64 (tyCodes w i ts))))) := by
  intro n
  induction n with
  | zero => exact ⟨fun t h => by omega, fun ts h => by omega⟩
  | succ n ih =>
    obtain ⟨ih1, ih2⟩ := ih
    refine ⟨fun t hn ht S => ?_, fun ts hn hl hall S => ?_⟩
    · have lArgs := MType.lt_Args t
      have hts := ty_szT ht
      have he := tyCode_eq w i t
      have hall : ∀ u ∈ t.fArgs, u.sz ≤ 4194304 := fun u hu => by
        obtain ⟨j, hj, e⟩ := List.getElem_of_mem hu
        rw [← e]; exact (arg_szT hj ht).1
      refine acall_cw (rs := [.tmp 4]) Tryz.checked.mixed Tryz.func205 Tryz.ntmps205 rfl rfl rfl rfl rfl ?_
      simp -implicitDefEqProofs (disch := omega) only [go_sem]
      refine call_w (checkOwn_ok w i t hsz ht) ?_
      simp -implicitDefEqProofs (disch := omega) only [go_sem]
      with_reducible refine split2 (fun hb => ?_) (fun hb => ?_) <;> have h := hb <;> (try simp only [wf_preprocess] at h) <;> simp -implicitDefEqProofs (disch := omega) only [go_sem, hb] <;> (repeat (with_reducible refine And.intro ?_ ?_; focus first | omega | rfl | assumption | exact ⟨_, rfl, rfl⟩ | (simp; omega) | (simp; done)))
      · exact int_eq (by rw [he, if_neg h])
      · have k := h
        refine call_w (ih2 t.fArgs (by omega) hts.1 hall) ?_
        simp -implicitDefEqProofs (disch := omega) only [go_sem]
        exact int_eq (by rw [he, if_pos k])
    · refine acall_cw (rs := [.tmp 4]) Tryz.checked.mixed Tryz.func251 Tryz.ntmps251 rfl rfl rfl rfl rfl ?_
      simp -implicitDefEqProofs (disch := omega) only [go_sem]
      refine loop_at (ι := Nat) Tryz.checked.mixed rfl [2, 8, 9, 10] (fun k => [.c (.ptr (0, 0) 0), .c (.d (.sl (ts.map MType.enc))), .c (.d (.i .i64 ts.length)), .c (.d (.i .i64 k))]) (fun _ => [.box [.d (.sl (w.fPackages.map MPackage.enc)), .d (.sl ((visI w i).map encI))]] :: S)
        (fun k => k ≤ ts.length ∧ tyCodes w i (ts.drop k) = tyCodes w i ts) (fun k => ts.length - k) 0 rfl rfl ⟨Nat.zero_le _, rfl⟩ ?_
      rintro k ⟨p1, p2⟩
      simp -implicitDefEqProofs (disch := omega) only [go_sem]
      with_reducible refine split2 (fun hb => ?_) (fun hb => ?_) <;> have h := hb <;> (try simp only [wf_preprocess] at h) <;> simp -implicitDefEqProofs (disch := omega) only [go_sem, hb] <;> (repeat (with_reducible refine And.intro ?_ ?_; focus first | omega | rfl | assumption | exact ⟨_, rfl, rfl⟩ | (simp; omega) | (simp; done)))
      · have hk : k < ts.length := by omega
        have hs := List.sizeOf_lt_of_mem (List.getElem_mem hk)
        rw [tyCodes_drop hk] at p2
        (repeat (with_reducible refine And.intro ?_ ?_; focus first | omega | rfl | assumption | exact ⟨_, rfl, rfl⟩ | (simp; omega) | (simp; done)))
        refine call_w (ih1 ts[k] (by omega) (hall _ (List.getElem_mem hk))) ?_
        simp -implicitDefEqProofs (disch := omega) only [go_sem]
        with_reducible refine split2 (fun hb => ?_) (fun hb => ?_) <;> have h := hb <;> (try simp only [wf_preprocess] at h) <;> simp -implicitDefEqProofs (disch := omega) only [go_sem, hb] <;> (repeat (with_reducible refine And.intro ?_ ?_; focus first | omega | rfl | assumption | exact ⟨_, rfl, rfl⟩ | (simp; omega) | (simp; done)))
        · rw [if_neg h] at p2
          exact int_eq p2
        · rw [if_pos h] at p2
          exact inv_drop 1 (by decide) (k + 1) (by omega) rfl rfl rfl rfl ⟨by omega, p2⟩
      · rw [List.drop_of_length_le (by omega), tyCodes] at p2
        exact int_eq p2
theorem specCheckType_all (w : MProgram) (i : Int) (hsz : w.sz ≤ 4194304) (hi : -9223372036854775808 ≤ i ∧ i ≤ 9223372036854775807) : ∀ n : Nat, ∀ t : MType, SizeOf.sizeOf t < n → t.sz ≤ 4194304 → PCall Tryz.prog 129 [w.v, .c (.d (.i .i64 i)), t.v] (.c (.d (.i .i64 (tyCode w i t)))) := by
  intro n
  induction n with
  | zero => intro t h; omega
  | succ n ih =>
    intro t hn ht S
    have lArgs := MType.lt_Args t
    have hts := ty_szT ht
    have he := tyCode_eq w i t
    have hall : ∀ u ∈ t.fArgs, u.sz ≤ 4194304 := fun u hu => by
      obtain ⟨j, hj, e⟩ := List.getElem_of_mem hu
      rw [← e]; exact (arg_szT hj ht).1
    refine acall_cw (rs := [.tmp 6]) Tryz.checked.mixed Tryz.func129 Tryz.ntmps129 rfl rfl rfl rfl rfl ?_
    simp -implicitDefEqProofs (disch := omega) only [go_sem]
    refine call_w (l18Here_ok w i t hsz hi ht) ?_
    simp -implicitDefEqProofs (disch := omega) only [go_sem]
    refine loop_at (ι := Nat × Int) Tryz.checked.mixed rfl [1, 3, 5, 7, 8] (fun y => [.c (.d (.i .i64 i)), .c (.ptr (0, 0) 0), .c (.ptr (0, 1) 0), .c (.d (.i .i64 y.2)), .c (.d (.i .i64 y.1))]) (fun _ => [.box (w.enc.map .d), .box (t.enc.map .d)] :: S)
      (fun y => y.1 ≤ t.fArgs.length ∧ (if y.2 = 0 then tyCodes w i (t.fArgs.drop y.1) else y.2) = tyCode w i t) (fun y => t.fArgs.length - y.1) (0, ownCode w i t.fKind t.fName t.fArgs.length) rfl ?_ ⟨Nat.zero_le _, he.symm⟩ ?_
    · simp -implicitDefEqProofs (disch := omega) only [go_sem]
    rintro ⟨k, c⟩ ⟨p1, p2⟩
    simp only at p1 p2
    simp -implicitDefEqProofs (disch := omega) only [go_sem]
    with_reducible refine split2 (fun hb => ?_) (fun hb => ?_) <;> have h := hb <;> (try simp only [wf_preprocess] at h) <;> simp -implicitDefEqProofs (disch := omega) only [go_sem, hb] <;> (repeat (with_reducible refine And.intro ?_ ?_; focus first | omega | rfl | assumption | exact ⟨_, rfl, rfl⟩ | (simp; omega) | (simp; done)))
    · have hk : k < t.fArgs.length := by omega
      have hs := List.sizeOf_lt_of_mem (List.getElem_mem hk)
      with_reducible refine split2 (fun hb => ?_) (fun hb => ?_) <;> have h := hb <;> (try simp only [wf_preprocess] at h) <;> simp -implicitDefEqProofs (disch := omega) only [go_sem, hb] <;> (repeat (with_reducible refine And.intro ?_ ?_; focus first | omega | rfl | assumption | exact ⟨_, rfl, rfl⟩ | (simp; omega) | (simp; done)))
      · rw [if_pos h, tyCodes_drop hk] at p2
        (repeat (with_reducible refine And.intro ?_ ?_; focus first | omega | rfl | assumption | exact ⟨_, rfl, rfl⟩ | (simp; omega) | (simp; done)))
        refine call_w (ih t.fArgs[k] (by omega) (hall _ (List.getElem_mem hk))) ?_
        simp -implicitDefEqProofs (disch := omega) only [go_sem]
        exact inv_at (k + 1, tyCode w i t.fArgs[k]) (by simp only; omega) rfl rfl ⟨by simp only; omega, p2⟩
      · rw [if_neg h] at p2
        exact int_eq p2
    · have hk : k = t.fArgs.length := by omega
      rw [hk, List.drop_length, tyCodes] at p2
      refine int_eq ?_
      rw [← p2]
      split <;> omega
theorem specCheckType_ok (w : MProgram) (i : Int) (t : MType) (hsz : w.sz ≤ 4194304) (ht : t.sz ≤ 4194304) (hi : -9223372036854775808 ≤ i ∧ i ≤ 9223372036854775807) : PCall Tryz.prog 129 [w.v, .c (.d (.i .i64 i)), t.v] (.c (.d (.i .i64 (tyCode w i t)))) := specCheckType_all w i hsz hi _ t (Nat.lt_succ_self _) ht
end Go.Proofs.YtnleocfkdidhoaaGreat

namespace Go.Ab
theorem MBound.ty_sz {b : MBound} (h : b.sz ≤ 4194304) : b.fType.sz ≤ 4194304 := by
  simp only [MBound.sz, MBound.enc_eq, szRow, szRow_append, D.sz, List.length_map, MType.sz_def] at h
  omega
end Go.Ab
namespace Go.Proofs.YtnleocfkdidhoaaGreat
open Go Go.Ab
end Go.Proofs.YtnleocfkdidhoaaGreat

namespace Go.Ab
/-- The program's way: the first arm of each constructor fits, the names are distinct, and there are as many. -/
def fitP (cs : List MConstructor) (arms : List MArm) : Prop :=
  (∀ c ∈ cs, ∃ a, arms.find? (fun a => decide (a.fConstructor = c.fName)) = some a ∧ a.fVars.length = c.fFields.length) ∧ (cs.map MConstructor.fName).Nodup ∧ arms.length = cs.length
/-- The reference's way: each constructor has just one arm that fits. -/
def fitQ (cs : List MConstructor) (arms : List MArm) : Prop :=
  arms.length = cs.length ∧ (cs.map MConstructor.fName).Nodup ∧ ∀ c ∈ cs, arms.countP (fun a => decide (a.fConstructor = c.fName ∧ a.fVars.length = c.fFields.length)) = 1
def cntN (arms : List MArm) (m : List UInt8) : Nat := arms.countP fun a => decide (a.fConstructor = m)
theorem cnt_sum (arms : List MArm) : ∀ ns : List (List UInt8), ns.Nodup → (ns.map (cntN arms)).sum = arms.countP fun a => decide (a.fConstructor ∈ ns)
  | [], _ => by simp
  | m :: ns, h => by
    have h' := List.nodup_cons.1 h
    rw [List.map_cons, List.sum_cons, cnt_sum arms ns h'.2]
    unfold cntN
    induction arms with
    | nil => rfl
    | cons a al ih =>
      simp only [List.countP_cons]
      by_cases e : a.fConstructor = m
      · have hn : ¬ a.fConstructor ∈ ns := by rw [e]; exact h'.1
        simp [e, h'.1]
        simp [e] at ih
        omega
      · by_cases e2 : a.fConstructor ∈ ns
        · simp [e, e2]
          simp at ih
          omega
        · simp [e, e2]
          simp at ih
          omega
theorem ones_of_sum {f : List UInt8 → Nat} : ∀ ns : List (List UInt8), (∀ m ∈ ns, 1 ≤ f m) → (ns.map f).sum ≤ ns.length → ∀ m ∈ ns, f m = 1
  | [], _, _, m, hm => by cases hm
  | n :: ns, h, hs, m, hm => by
    rw [List.map_cons, List.sum_cons, List.length_cons] at hs
    have hge : ∀ ns : List (List UInt8), (∀ m ∈ ns, 1 ≤ f m) → ns.length ≤ (ns.map f).sum := by
      intro ns
      induction ns with
      | nil => intro _; simp
      | cons a al ih =>
        intro h
        rw [List.map_cons, List.sum_cons, List.length_cons]
        have := ih (fun m hm => h m (by simp [hm]))
        have := h a (by simp)
        omega
    have h1 := h n (by simp)
    have h2 := hge ns (fun m hm => h m (by simp [hm]))
    rcases List.mem_cons.1 hm with e | hm
    · subst e; omega
    · exact ones_of_sum ns (fun m hm => h m (by simp [hm])) (by omega) m hm
theorem each_one {cs : List MConstructor} {arms : List MArm} (hn : (cs.map MConstructor.fName).Nodup) (hl : arms.length = cs.length) (h : ∀ c ∈ cs, 1 ≤ cntN arms c.fName) : ∀ c ∈ cs, cntN arms c.fName = 1 := by
  have h1 := cnt_sum arms _ hn
  have h2 : (arms.countP fun a => decide (a.fConstructor ∈ cs.map MConstructor.fName)) ≤ arms.length := List.countP_le_length
  have h3 := ones_of_sum (f := cntN arms) (cs.map MConstructor.fName) (fun m hm => by
    obtain ⟨c, hc, e⟩ := List.mem_map.1 hm
    rw [← e]; exact h c hc) (by rw [List.length_map]; omega)
  intro c hc
  exact h3 _ (List.mem_map_of_mem hc)
theorem fit_iff {cs : List MConstructor} {arms : List MArm} : fitP cs arms ↔ fitQ cs arms := by
  constructor
  · rintro ⟨h1, h2, h3⟩
    have hge : ∀ c ∈ cs, 1 ≤ cntN arms c.fName := fun c hc => by
      obtain ⟨a, ha, _⟩ := h1 c hc
      have hp := List.find?_some ha
      unfold cntN
      exact List.countP_pos_iff.2 ⟨a, List.mem_of_find?_eq_some ha, by simpa using hp⟩
    have he := each_one h2 h3 hge
    refine ⟨h3, h2, fun c hc => ?_⟩
    obtain ⟨a, ha, hv⟩ := h1 c hc
    have hp := List.find?_some ha
    simp only [decide_eq_true_eq] at hp
    have hge1 : 1 ≤ arms.countP (fun a => decide (a.fConstructor = c.fName ∧ a.fVars.length = c.fFields.length)) :=
      List.countP_pos_iff.2 ⟨a, List.mem_of_find?_eq_some ha, by simp [hp, hv]⟩
    have hle : arms.countP (fun a => decide (a.fConstructor = c.fName ∧ a.fVars.length = c.fFields.length)) ≤ cntN arms c.fName :=
      List.countP_mono_left fun a _ h => by simp at h ⊢; exact h.1
    have := he c hc
    omega
  · rintro ⟨h3, h2, h1⟩
    have hle : ∀ c : MConstructor, arms.countP (fun a => decide (a.fConstructor = c.fName ∧ a.fVars.length = c.fFields.length)) ≤ cntN arms c.fName := fun c =>
      List.countP_mono_left fun a _ h => by simp at h ⊢; exact h.1
    have he := each_one h2 h3 fun c hc => by have := hle c; have := h1 c hc; omega
    refine ⟨fun c hc => ?_, h2, h3⟩
    have h4 : 0 < arms.countP (fun a => decide (a.fConstructor = c.fName ∧ a.fVars.length = c.fFields.length)) := by rw [h1 c hc]; exact Nat.one_pos
    obtain ⟨a, ha, hp⟩ := List.countP_pos_iff.1 h4
    simp only [decide_eq_true_eq] at hp
    cases hf : arms.find? (fun a => decide (a.fConstructor = c.fName)) with
    | none =>
      have := List.find?_eq_none.1 hf a ha
      simp [hp.1] at this
    | some b =>
      refine ⟨b, rfl, ?_⟩
      have hb := List.find?_some hf
      simp only [decide_eq_true_eq] at hb
      have hbm := List.mem_of_find?_eq_some hf
      -- there is one arm of that name
      have h5 : (arms.filter fun a => decide (a.fConstructor = c.fName)).length = 1 := by
        rw [← List.countP_eq_length_filter]; exact he c hc
      obtain ⟨x, hx⟩ := List.length_eq_one_iff.1 h5
      have ea : a = x := by
        have : a ∈ arms.filter fun a => decide (a.fConstructor = c.fName) := by rw [List.mem_filter]; exact ⟨ha, by simp [hp.1]⟩
        rw [hx] at this; simpa using this
      have eb : b = x := by
        have : b ∈ arms.filter fun a => decide (a.fConstructor = c.fName) := by rw [List.mem_filter]; exact ⟨hbm, by simp [hb]⟩
        rw [hx] at this; simpa using this
      rw [eb, ← ea]; exact hp.2
end Go.Ab

namespace Go.Ab
/-- The place of the first constructor of a name. -/
def ctorI (name : List UInt8) : List MConstructor → Nat → Option Nat
  | [], _ => none
  | c :: cs, k => if c.fName = name then some k else ctorI name cs (k + 1)
/-- The first data type that has a constructor of a name, and its place. -/
def ctorL (name : List UInt8) : List MDataType → Option (MDataType × Nat)
  | [] => none
  | d :: ds => match ctorI name d.fConstructors 0 with
    | some k => some (d, k)
    | none => ctorL name ds
def ctorA (name : List UInt8) : List MPackage → Option (MDataType × Nat)
  | [] => none
  | q :: qs => match ctorL name q.fDataTypes with
    | some x => some x
    | none => ctorA name qs
def ctorAt (w : MProgram) (name : List UInt8) : Option (MDataType × Nat) := ctorA name w.fPackages
theorem ctorI_drop {name : List UInt8} {cs : List MConstructor} {k : Nat} (hk : k < cs.length) : ctorI name (cs.drop k) k = if cs[k].fName = name then some k else ctorI name (cs.drop (k + 1)) (k + 1) := by
  rw [List.drop_eq_getElem_cons hk, ctorI]
theorem ctorL_drop {name : List UInt8} {ds : List MDataType} {k : Nat} (hk : k < ds.length) : ctorL name (ds.drop k) = match ctorI name ds[k].fConstructors 0 with
    | some j => some (ds[k], j)
    | none => ctorL name (ds.drop (k + 1)) := by
  rw [List.drop_eq_getElem_cons hk, ctorL]
theorem ctorA_drop {name : List UInt8} {qs : List MPackage} {k : Nat} (hk : k < qs.length) : ctorA name (qs.drop k) = match ctorL name qs[k].fDataTypes with
    | some x => some x
    | none => ctorA name (qs.drop (k + 1)) := by
  rw [List.drop_eq_getElem_cons hk, ctorA]
theorem ctorI_lt {name : List UInt8} : ∀ {cs : List MConstructor} {i k : Nat}, ctorI name cs i = some k → i ≤ k ∧ k < i + cs.length
  | [], i, k, h => by cases h
  | c :: cs, i, k, h => by
    rw [ctorI] at h
    by_cases e : c.fName = name
    · rw [if_pos e] at h
      injection h with h
      subst h
      simp
    · rw [if_neg e] at h
      have := ctorI_lt h
      simp only [List.length_cons]
      omega
theorem ctorL_mem {name : List UInt8} : ∀ {ds : List MDataType} {d : MDataType} {k : Nat}, ctorL name ds = some (d, k) → d ∈ ds ∧ k < d.fConstructors.length
  | [], d, k, h => by cases h
  | e :: ds, d, k, h => by
    rw [ctorL] at h
    cases hf : ctorI name e.fConstructors 0 with
    | none =>
      rw [hf] at h
      obtain ⟨h1, h2⟩ := ctorL_mem (ds := ds) h
      exact ⟨by simp [h1], h2⟩
    | some j =>
      rw [hf] at h
      injection h with h
      injection h with h1 h2
      subst h1; subst h2
      have := ctorI_lt hf
      exact ⟨by simp, by omega⟩
theorem ctorA_mem {name : List UInt8} : ∀ {qs : List MPackage} {d : MDataType} {k : Nat}, ctorA name qs = some (d, k) → (∃ q ∈ qs, d ∈ q.fDataTypes) ∧ k < d.fConstructors.length
  | [], d, k, h => by cases h
  | q :: qs, d, k, h => by
    rw [ctorA] at h
    cases hf : ctorL name q.fDataTypes with
    | none =>
      rw [hf] at h
      obtain ⟨⟨q', h0, h1⟩, h2⟩ := ctorA_mem (qs := qs) h
      exact ⟨⟨q', by simp [h0], h1⟩, h2⟩
    | some x =>
      rw [hf] at h
      injection h with h
      subst h
      have := ctorL_mem hf
      exact ⟨⟨q, by simp, this.1⟩, this.2⟩
theorem dataAt_some {w : MProgram} {d : MDataType} {q : MPackage} (hq : q ∈ w.fPackages) (hd : d ∈ q.fDataTypes) : (dataAt w d.fName).isSome = true := by
  unfold dataAt
  have : ∀ (ps : List MPackage) (i : Nat), q ∈ ps → (findP MPackage.fDataTypes (fun t => decide (t.fName = d.fName)) ps i).isSome = true := by
    intro ps
    induction ps with
    | nil => intro i h; cases h
    | cons p ps ih =>
      intro i h
      rw [findP]
      cases hf : p.fDataTypes.find? (fun t => decide (t.fName = d.fName)) with
      | some t => rfl
      | none =>
        rcases List.mem_cons.1 h with e | h
        · subst e
          have := List.find?_eq_none.1 hf d hd
          simp at this
        · exact ih (i + 1) h
  exact this _ _ hq
def ctC : Option (MDataType × Nat) → List C
  | some (t, _) => t.enc.map .d
  | none => [.d (.s []), .fsl [], .fsl []]
/-- Is a constructor's data type visible? -/
noncomputable def seesC (w : MProgram) (i : Int) : Option (MDataType × Nat) → Bool
  | some (d, _) => seesO w i (dataAt w d.fName)
  | none => false
end Go.Ab

namespace Go.Ab
theorem MDataType.lenCt {d : MDataType} (h : d.sz ≤ 4194304) : d.fConstructors.length ≤ 4194304 := by
  simp only [MDataType.sz, MDataType.enc_eq, szRow, szRow_append, D.sz, List.length_map] at h
  omega
theorem MProgram.szDt {w : MProgram} {i k : Nat} (hi : i < w.fPackages.length) (hk : k < w.fPackages[i].fDataTypes.length) (h : w.sz ≤ 4194304) : w.fPackages[i].fDataTypes[k].sz ≤ 4194304 := by
  have hx : w.fPackages[i].sz ≤ szRows (w.fPackages.map MPackage.enc) := szRows_mem (List.mem_map_of_mem (List.getElem_mem hi))
  have hy : w.fPackages[i].fDataTypes[k].sz ≤ szRows (w.fPackages[i].fDataTypes.map MDataType.enc) := szRows_mem (List.mem_map_of_mem (List.getElem_mem hk))
  simp only [MProgram.sz, MProgram.enc_eq, szRow, szRow_append, D.sz, List.length_map] at h
  simp only [MPackage.sz, MPackage.enc_eq, szRow, szRow_append, D.sz, List.length_map] at hx
  omega
end Go.Ab
namespace Go.Proofs.YtnleocfkdidhoaaGreat
open Go Go.Ab
theorem implCtAt_ok (w : MProgram) (name : List UInt8) (hsz : w.sz ≤ 4194304) : PCall Tryz.prog 247 [w.v, .c (.d (.s name))] (.tup [(true, ctC (ctorAt w name)), (false, [.d (.i .i64 (idxO (ctorAt w name)))]), (false, [.d (.b (ctorAt w name).isSome)])]) := fun S => by
  have hb0 := MProgram.bounds hsz
  refine acall_cw (rs := [.cell 4 82, .tmp 5, .tmp 6]) Tryz.checked.mixed Tryz.func247 Tryz.ntmps247 rfl rfl rfl rfl rfl ?_
  simp -implicitDefEqProofs (disch := omega) only [go_sem]
  refine loop_at (ι := Nat) Tryz.checked.mixed rfl [1, 4, 14, 15, 16] (fun i => [.c (.d (.s name)), .c (.ptr (0, 1) 0), .c (.d (.sl (w.fPackages.map MPackage.enc))), .c (.d (.i .i64 w.fPackages.length)), .c (.d (.i .i64 i))]) (fun _ => [.box (w.enc.map .d), .box [.d (.s []), .fsl [], .fsl []]] :: S)
    (fun i => i ≤ w.fPackages.length ∧ ctorA name (w.fPackages.drop i) = ctorAt w name) (fun i => w.fPackages.length - i) 0 rfl ?_ ⟨Nat.zero_le _, rfl⟩ ?_
  · simp -implicitDefEqProofs (disch := omega) only [go_sem]
  rintro i ⟨p1, p2⟩
  simp -implicitDefEqProofs (disch := omega) only [go_sem]
  with_reducible refine split2 (fun hb => ?_) (fun hb => ?_) <;> have h := hb <;> (try simp only [wf_preprocess] at h) <;> simp -implicitDefEqProofs (disch := omega) only [go_sem, hb] <;> (repeat (with_reducible refine And.intro ?_ ?_; focus first | omega | rfl | assumption | exact ⟨_, rfl, rfl⟩ | (simp; omega) | (simp; done)))
  · have hi : i < w.fPackages.length := by omega
    have hln := MProgram.lenDt hi hsz
    rw [ctorA_drop hi] at p2
    (repeat (with_reducible refine And.intro ?_ ?_; focus first | omega | rfl | assumption | exact ⟨_, rfl, rfl⟩ | (simp; omega) | (simp; done)))
    refine loop_at (ι := Nat) Tryz.checked.mixed rfl [1, 4, 14, 15, 16, 21, 22, 23] (fun k => [.c (.d (.s name)), .c (.ptr (0, 1) 0), .c (.d (.sl (w.fPackages.map MPackage.enc))), .c (.d (.i .i64 w.fPackages.length)), .c (.d (.i .i64 i)), .c (.d (.sl (w.fPackages[i].fDataTypes.map MDataType.enc))), .c (.d (.i .i64 w.fPackages[i].fDataTypes.length)), .c (.d (.i .i64 k))])
      (fun _ => [.box (w.enc.map .d), .box [.d (.s []), .fsl [], .fsl []], .box (w.fPackages[i].enc.map .d)] :: S)
      (fun k => k ≤ w.fPackages[i].fDataTypes.length ∧ ctorL name (w.fPackages[i].fDataTypes.drop k) = ctorL name w.fPackages[i].fDataTypes) (fun k => w.fPackages[i].fDataTypes.length - k) 0 rfl ?_ ⟨Nat.zero_le _, rfl⟩ ?_
    · simp -implicitDefEqProofs (disch := omega) only [go_sem]
    rintro k ⟨q1, q2⟩
    simp -implicitDefEqProofs (disch := omega) only [go_sem]
    with_reducible refine split2 (fun hb => ?_) (fun hb => ?_) <;> have h := hb <;> (try simp only [wf_preprocess] at h) <;> simp -implicitDefEqProofs (disch := omega) only [go_sem, hb] <;> (repeat (with_reducible refine And.intro ?_ ?_; focus first | omega | rfl | assumption | exact ⟨_, rfl, rfl⟩ | (simp; omega) | (simp; done)))
    · have hk : k < w.fPackages[i].fDataTypes.length := by omega
      have hlc := MDataType.lenCt (MProgram.szDt hi hk hsz)
      rw [ctorL_drop hk] at q2
      (repeat (with_reducible refine And.intro ?_ ?_; focus first | omega | rfl | assumption | exact ⟨_, rfl, rfl⟩ | (simp; omega) | (simp; done)))
      refine loop_at (ι := Nat) Tryz.checked.mixed rfl [1, 4, 10, 14, 15, 16, 21, 22, 23, 28, 29, 30] (fun j => [.c (.d (.s name)), .c (.ptr (0, 1) 0), .c (.ptr (0, 3) 0), .c (.d (.sl (w.fPackages.map MPackage.enc))), .c (.d (.i .i64 w.fPackages.length)), .c (.d (.i .i64 i)), .c (.d (.sl (w.fPackages[i].fDataTypes.map MDataType.enc))), .c (.d (.i .i64 w.fPackages[i].fDataTypes.length)), .c (.d (.i .i64 k)), .c (.d (.sl (w.fPackages[i].fDataTypes[k].fConstructors.map MConstructor.enc))), .c (.d (.i .i64 w.fPackages[i].fDataTypes[k].fConstructors.length)), .c (.d (.i .i64 j))])
        (fun _ => [.box (w.enc.map .d), .box [.d (.s []), .fsl [], .fsl []], .box (w.fPackages[i].enc.map .d), .box (w.fPackages[i].fDataTypes[k].enc.map .d)] :: S)
        (fun j => j ≤ w.fPackages[i].fDataTypes[k].fConstructors.length ∧ ctorI name (w.fPackages[i].fDataTypes[k].fConstructors.drop j) j = ctorI name w.fPackages[i].fDataTypes[k].fConstructors 0) (fun j => w.fPackages[i].fDataTypes[k].fConstructors.length - j) 0 rfl ?_ ⟨Nat.zero_le _, rfl⟩ ?_
      · simp -implicitDefEqProofs (disch := omega) only [go_sem]
      rintro j ⟨r1, r2⟩
      simp -implicitDefEqProofs (disch := omega) only [go_sem]
      with_reducible refine split2 (fun hb => ?_) (fun hb => ?_) <;> have h := hb <;> (try simp only [wf_preprocess] at h) <;> simp -implicitDefEqProofs (disch := omega) only [go_sem, hb] <;> (repeat (with_reducible refine And.intro ?_ ?_; focus first | omega | rfl | assumption | exact ⟨_, rfl, rfl⟩ | (simp; omega) | (simp; done)))
      · have hj : j < w.fPackages[i].fDataTypes[k].fConstructors.length := by omega
        rw [ctorI_drop hj] at r2
        (repeat (with_reducible refine And.intro ?_ ?_; focus first | omega | rfl | assumption | exact ⟨_, rfl, rfl⟩ | (simp; omega) | (simp; done)))
        with_reducible refine split2 (fun hb => ?_) (fun hb => ?_) <;> have h := hb <;> (try simp only [wf_preprocess] at h) <;> simp -implicitDefEqProofs (disch := omega) only [go_sem, hb] <;> (repeat (with_reducible refine And.intro ?_ ?_; focus first | omega | rfl | assumption | exact ⟨_, rfl, rfl⟩ | (simp; omega) | (simp; done)))
        · rw [if_pos (by simpa using h)] at r2
          rw [← r2] at q2
          rw [← q2] at p2
          rw [← p2]
          first | rfl | (simp only [ctC, idxO]; simp -implicitDefEqProofs (disch := omega) only [go_sem]; done)
        · rw [if_neg (by simpa using h)] at r2
          exact inv_drop 4 (by decide) (j + 1) (by omega) rfl rfl rfl rfl ⟨by omega, r2⟩
      · rw [List.drop_of_length_le (by omega), ctorI] at r2
        rw [← r2] at q2
        exact inv_drop 3 (by decide) (k + 1) (by omega) rfl rfl rfl rfl ⟨by omega, q2⟩
    · rw [List.drop_of_length_le (by omega), ctorL] at q2
      rw [← q2] at p2
      exact inv_drop 2 (by decide) (i + 1) (by omega) rfl rfl rfl rfl ⟨by omega, p2⟩
  · rw [List.drop_of_length_le (by omega), ctorA] at p2
    rw [← p2]
    first | rfl | (simp only [ctC, idxO]; simp -implicitDefEqProofs (disch := omega) only [go_sem]; done)
theorem specCtAt_ok (w : MProgram) (name : List UInt8) (hsz : w.sz ≤ 4194304) : PCall Tryz.prog 196 [w.v, .c (.d (.s name))] (.tup [(true, ctC (ctorAt w name)), (false, [.d (.i .i64 (idxO (ctorAt w name)))]), (false, [.d (.b (ctorAt w name).isSome)])]) := fun S => by
  have hb0 := MProgram.bounds hsz
  refine acall_cw (rs := [.cell 4 82, .tmp 5, .tmp 6]) Tryz.checked.mixed Tryz.func196 Tryz.ntmps196 rfl rfl rfl rfl rfl ?_
  simp -implicitDefEqProofs (disch := omega) only [go_sem]
  refine loop_at (ι := Nat) Tryz.checked.mixed rfl [1, 2, 4, 7] (fun i => [.c (.d (.s name)), .c (.ptr (0, 0) 0), .c (.ptr (0, 1) 0), .c (.d (.i .i64 i))]) (fun _ => [.box (w.enc.map .d), .box [.d (.s []), .fsl [], .fsl []]] :: S)
    (fun i => i ≤ w.fPackages.length ∧ ctorA name (w.fPackages.drop i) = ctorAt w name) (fun i => w.fPackages.length - i) 0 rfl ?_ ⟨Nat.zero_le _, rfl⟩ ?_
  · simp -implicitDefEqProofs (disch := omega) only [go_sem]
  rintro i ⟨p1, p2⟩
  simp -implicitDefEqProofs (disch := omega) only [go_sem]
  with_reducible refine split2 (fun hb => ?_) (fun hb => ?_) <;> have h := hb <;> (try simp only [wf_preprocess] at h) <;> simp -implicitDefEqProofs (disch := omega) only [go_sem, hb] <;> (repeat (with_reducible refine And.intro ?_ ?_; focus first | omega | rfl | assumption | exact ⟨_, rfl, rfl⟩ | (simp; omega) | (simp; done)))
  · have hi : i < w.fPackages.length := by omega
    have hln := MProgram.lenDt hi hsz
    rw [ctorA_drop hi] at p2
    (repeat (with_reducible refine And.intro ?_ ?_; focus first | omega | rfl | assumption | exact ⟨_, rfl, rfl⟩ | (simp; omega) | (simp; done)))
    refine loop_at (ι := Nat) Tryz.checked.mixed rfl [1, 2, 4, 7, 8] (fun k => [.c (.d (.s name)), .c (.ptr (0, 0) 0), .c (.ptr (0, 1) 0), .c (.d (.i .i64 i)), .c (.d (.i .i64 k))])
      (fun _ => [.box (w.enc.map .d), .box [.d (.s []), .fsl [], .fsl []]] :: S)
      (fun k => k ≤ w.fPackages[i].fDataTypes.length ∧ ctorL name (w.fPackages[i].fDataTypes.drop k) = ctorL name w.fPackages[i].fDataTypes) (fun k => w.fPackages[i].fDataTypes.length - k) 0 rfl ?_ ⟨Nat.zero_le _, rfl⟩ ?_
    · simp -implicitDefEqProofs (disch := omega) only [go_sem]
    rintro k ⟨q1, q2⟩
    simp -implicitDefEqProofs (disch := omega) only [go_sem]
    (repeat (with_reducible refine And.intro ?_ ?_; focus first | omega | rfl | assumption | exact ⟨_, rfl, rfl⟩ | (simp; omega) | (simp; done)))
    with_reducible refine split2 (fun hb => ?_) (fun hb => ?_) <;> have h := hb <;> (try simp only [wf_preprocess] at h) <;> simp -implicitDefEqProofs (disch := omega) only [go_sem, hb] <;> (repeat (with_reducible refine And.intro ?_ ?_; focus first | omega | rfl | assumption | exact ⟨_, rfl, rfl⟩ | (simp; omega) | (simp; done)))
    · have hk : k < w.fPackages[i].fDataTypes.length := by omega
      have hlc := MDataType.lenCt (MProgram.szDt hi hk hsz)
      rw [ctorL_drop hk] at q2
      (repeat (with_reducible refine And.intro ?_ ?_; focus first | omega | rfl | assumption | exact ⟨_, rfl, rfl⟩ | (simp; omega) | (simp; done)))
      refine loop_at (ι := Nat) Tryz.checked.mixed rfl [1, 2, 4, 7, 8, 9, 10] (fun j => [.c (.d (.s name)), .c (.ptr (0, 0) 0), .c (.ptr (0, 1) 0), .c (.d (.i .i64 i)), .c (.d (.i .i64 k)), .c (.ptr (0, 2) 0), .c (.d (.i .i64 j))])
        (fun _ => [.box (w.enc.map .d), .box [.d (.s []), .fsl [], .fsl []], .box (w.fPackages[i].fDataTypes[k].enc.map .d)] :: S)
        (fun j => j ≤ w.fPackages[i].fDataTypes[k].fConstructors.length ∧ ctorI name (w.fPackages[i].fDataTypes[k].fConstructors.drop j) j = ctorI name w.fPackages[i].fDataTypes[k].fConstructors 0) (fun j => w.fPackages[i].fDataTypes[k].fConstructors.length - j) 0 rfl ?_ ⟨Nat.zero_le _, rfl⟩ ?_
      · simp -implicitDefEqProofs (disch := omega) only [go_sem]
      rintro j ⟨r1, r2⟩
      simp -implicitDefEqProofs (disch := omega) only [go_sem]
      (repeat (with_reducible refine And.intro ?_ ?_; focus first | omega | rfl | assumption | exact ⟨_, rfl, rfl⟩ | (simp; omega) | (simp; done)))
      with_reducible refine split2 (fun hb => ?_) (fun hb => ?_) <;> have h := hb <;> (try simp only [wf_preprocess] at h) <;> simp -implicitDefEqProofs (disch := omega) only [go_sem, hb] <;> (repeat (with_reducible refine And.intro ?_ ?_; focus first | omega | rfl | assumption | exact ⟨_, rfl, rfl⟩ | (simp; omega) | (simp; done)))
      · have hj : j < w.fPackages[i].fDataTypes[k].fConstructors.length := by omega
        rw [ctorI_drop hj] at r2
        (repeat (with_reducible refine And.intro ?_ ?_; focus first | omega | rfl | assumption | exact ⟨_, rfl, rfl⟩ | (simp; omega) | (simp; done)))
        with_reducible refine split2 (fun hb => ?_) (fun hb => ?_) <;> have h := hb <;> (try simp only [wf_preprocess] at h) <;> simp -implicitDefEqProofs (disch := omega) only [go_sem, hb] <;> (repeat (with_reducible refine And.intro ?_ ?_; focus first | omega | rfl | assumption | exact ⟨_, rfl, rfl⟩ | (simp; omega) | (simp; done)))
        · rw [if_pos (by simpa using h)] at r2
          rw [← r2] at q2
          rw [← q2] at p2
          rw [← p2]
          first | rfl | (simp only [ctC, idxO]; simp -implicitDefEqProofs (disch := omega) only [go_sem]; done)
        · rw [if_neg (by simpa using h)] at r2
          exact inv_at (j + 1) (by omega) rfl rfl ⟨by omega, r2⟩
      · rw [List.drop_of_length_le (by omega), ctorI] at r2
        rw [← r2] at q2
        exact inv_drop 2 (by decide) (k + 1) (by omega) rfl rfl rfl rfl ⟨by omega, q2⟩
    · rw [List.drop_of_length_le (by omega), ctorL] at q2
      rw [← q2] at p2
      exact inv_at (i + 1) (by omega) rfl rfl ⟨by omega, p2⟩
  · rw [List.drop_of_length_le (by omega), ctorA] at p2
    rw [← p2]
    first | rfl | (simp only [ctC, idxO]; simp -implicitDefEqProofs (disch := omega) only [go_sem]; done)
end Go.Proofs.YtnleocfkdidhoaaGreat

namespace Go.Ab
theorem dtC_down (r : Option (MDataType × Nat)) : List.mapM (C.down 0) (dtC r) = some (dtC r) := by
  cases r with
  | none => rfl
  | some x => rfl
theorem dtC_len (r : Option (MDataType × Nat)) : (dtC r).length = 3 := by
  cases r with
  | none => rfl
  | some x => rfl
theorem seesC_some {w : MProgram} {i : Int} {d : MDataType} {k : Nat} : seesC w i (some (d, k)) = seesO w i (dataAt w d.fName) := rfl
end Go.Ab
namespace Go.Proofs.YtnleocfkdidhoaaGreat
open Go Go.Ab
theorem viewFn_ok (w : MProgram) (i : Int) (name : List UInt8) (hsz : w.sz ≤ 4194304) : PCall Tryz.prog 199 [viewV w (visI w i), .c (.d (.s name))] (.tup [(true, fnC (fnAt w name)), (false, [.d (.b (seesO w i (fnAt w name)))])]) := fun S => by
  have hb0 := MProgram.bounds hsz
  have hl := visI_len (w := w) (i := i) hb0
  have hs := seesO_split w i (fnAt w name)
  refine acall_cwl (rs := [.cell 4 145, .tmp 5]) Tryz.checked.mixed Tryz.func199 Tryz.ntmps199 rfl rfl rfl rfl rfl ?_
  simp -implicitDefEqProofs (disch := omega) only [go_sem]
  refine call_w (implFnAt_ok w name hsz) ?_
  generalize fnAt w name = r at hs ⊢
  cases r with
  | none =>
    simp -implicitDefEqProofs (disch := omega) only [go_sem, fnC, idxO, Option.isSome_none]
    refine ⟨by rfl, ?_⟩
    simp -implicitDefEqProofs (disch := omega) only [go_sem]
    rfl
  | some x =>
    obtain ⟨t, p⟩ := x
    simp -implicitDefEqProofs (disch := omega) only [go_sem, fnC, idxO, Option.isSome_some]
    refine call_w (sees_ok w (visI w i) (by omega) p) ?_
    simp -implicitDefEqProofs (disch := omega) only [go_sem]
    refine ⟨by rfl, ?_⟩
    simp -implicitDefEqProofs (disch := omega) only [go_sem]
    rw [hs]
    rfl
theorem viewCt_ok (w : MProgram) (i : Int) (name : List UInt8) (hsz : w.sz ≤ 4194304) : PCall Tryz.prog 202 [viewV w (visI w i), .c (.d (.s name))] (.tup [(true, ctC (ctorAt w name)), (false, [.d (.i .i64 (idxO (ctorAt w name)))]), (false, [.d (.b (seesC w i (ctorAt w name)))])]) := fun S => by
  have hb0 := MProgram.bounds hsz
  have hl := visI_len (w := w) (i := i) hb0
  refine acall_cwl (rs := [.cell 4 82, .tmp 5, .tmp 6]) Tryz.checked.mixed Tryz.func202 Tryz.ntmps202 rfl rfl rfl rfl rfl ?_
  simp -implicitDefEqProofs (disch := omega) only [go_sem]
  refine call_w (implCtAt_ok w name hsz) ?_
  generalize ctorAt w name = r
  cases r with
  | none =>
    simp -implicitDefEqProofs (disch := omega) only [go_sem, ctC, idxO, Option.isSome_none]
    refine call_w (implDtAt_ok w [] hsz) ?_
    simp -implicitDefEqProofs (disch := omega) only [go_sem, dtC_down, dtC_len]
    refine ⟨by rfl, ?_⟩
    simp -implicitDefEqProofs (disch := omega) only [go_sem]
    rfl
  | some x =>
    obtain ⟨d, k⟩ := x
    have hs := seesO_split w i (dataAt w d.fName)
    rw [seesC_some]
    simp -implicitDefEqProofs (disch := omega) only [go_sem, ctC, idxO, Option.isSome_some]
    refine call_w (implDtAt_ok w d.fName hsz) ?_
    generalize dataAt w d.fName = r2 at hs ⊢
    cases r2 with
    | none =>
      simp -implicitDefEqProofs (disch := omega) only [go_sem, dtC, idxO, Option.isSome_none]
      refine ⟨by rfl, ?_⟩
      simp -implicitDefEqProofs (disch := omega) only [go_sem]
      rfl
    | some y =>
      obtain ⟨t, p⟩ := y
      simp -implicitDefEqProofs (disch := omega) only [go_sem, dtC, idxO, Option.isSome_some]
      refine call_w (sees_ok w (visI w i) (by omega) p) ?_
      simp -implicitDefEqProofs (disch := omega) only [go_sem]
      refine ⟨by rfl, ?_⟩
      simp -implicitDefEqProofs (disch := omega) only [go_sem]
      rw [hs]
      rfl
theorem l18Ctor_ok (w : MProgram) (i : Int) (name : List UInt8) (hsz : w.sz ≤ 4194304) (hi : -9223372036854775808 ≤ i ∧ i ≤ 9223372036854775807) : PCall Tryz.prog 126 [w.v, .c (.d (.i .i64 i)), .c (.d (.s name))] (.tup [(true, ctC (ctorAt w name)), (false, [.d (.i .i64 (idxO (ctorAt w name)))]), (false, [.d (.b (seesC w i (ctorAt w name)))])]) := fun S => by
  refine acall_cwl (rs := [.cell 6 82, .tmp 7, .tmp 8]) Tryz.checked.mixed Tryz.func126 Tryz.ntmps126 rfl rfl rfl rfl rfl ?_
  simp -implicitDefEqProofs (disch := omega) only [go_sem]
  refine call_w (specCtAt_ok w name hsz) ?_
  cases hr : ctorAt w name with
  | none =>
    simp -implicitDefEqProofs (disch := omega) only [go_sem, ctC, idxO, Option.isSome_none]
    rfl
  | some x =>
    obtain ⟨d, k⟩ := x
    rw [seesC_some]
    simp -implicitDefEqProofs (disch := omega) only [go_sem, ctC, idxO, Option.isSome_some]
    refine call_w (specDtAt_ok w d.fName hsz) ?_
    obtain ⟨⟨q, hq, hd⟩, _⟩ := ctorA_mem hr
    have hsm := dataAt_some hq hd
    generalize dataAt w d.fName = r2 at hsm ⊢
    cases r2 with
    | none => cases hsm
    | some y =>
      obtain ⟨t, p⟩ := y
      simp -implicitDefEqProofs (disch := omega) only [go_sem, dtC, idxO, Option.isSome_some]
      refine call_w (specIsVis_ok w i p hsz hi) ?_
      simp -implicitDefEqProofs (disch := omega) only [go_sem]
      refine ⟨by rfl, ?_⟩
      simp -implicitDefEqProofs (disch := omega) only [go_sem]
      rfl
end Go.Proofs.YtnleocfkdidhoaaGreat

namespace Go.Proofs.YtnleocfkdidhoaaGreat
open Go Go.Ab
theorem ty_sz {x : MType} (h : x.sz ≤ 4194304) : x.fArgs.length ≤ 4194304 ∧ x.fName.length ≤ 4194304 := by
  simp only [MType.sz, MType.enc_eq, szRow, D.sz, List.length_map] at h
  omega
end Go.Proofs.YtnleocfkdidhoaaGreat

namespace Go.Ab
theorem mem_addW {s l : List UInt8} {m : List (List UInt8)} : s ∈ addW l m ↔ s = l ∨ s ∈ m := by
  unfold addW
  split
  · rename_i h
    exact ⟨.inr, fun x => x.elim (fun e => e ▸ h) id⟩
  · rw [List.mem_append, List.mem_singleton]; exact Or.comm
theorem take_snoc {α : Type} {xs : List α} {i : Nat} (hi : i < xs.length) : xs.take (i + 1) = xs.take i ++ [xs[i]] := List.take_succ_eq_append_getElem hi
theorem nodup_snoc {α : Type} {xs : List α} {x : α} : (xs ++ [x]).Nodup ↔ xs.Nodup ∧ x ∉ xs := by
  rw [List.nodup_append]
  constructor
  · rintro ⟨h1, _, h3⟩
    exact ⟨h1, fun hx => h3 x hx x (by simp) rfl⟩
  · rintro ⟨h1, h2⟩
    exact ⟨h1, by simp, fun a ha b hb e => by simp at hb; subst hb; exact h2 (e ▸ ha)⟩
theorem not_nodup {α : Type} {xs : List α} {i : Nat} (hi : i < xs.length) (h : xs[i] ∈ xs.take i) : ¬ xs.Nodup := fun hn => by
  have h1 : (xs.take (i + 1)).Nodup := hn.sublist (List.take_sublist _ _)
  rw [take_snoc hi] at h1
  exact (nodup_snoc.1 h1).2 h
end Go.Ab
namespace Go.Proofs.YtnleocfkdidhoaaGreat
open Go Go.Ab
theorem implDistinct_ok (xs : List (List UInt8)) (hl : xs.length ≤ 1073741824) : PCall Tryz.prog 94 [.c (.d (.sl (xs.map encS)))] (.c (.d (.b (dec xs.Nodup)))) := fun S => by
  refine acall_cw (rs := [.tmp 2]) Tryz.checked.mixed Tryz.func94 Tryz.ntmps94 rfl rfl rfl rfl rfl ?_
  simp -implicitDefEqProofs (disch := omega) only [go_sem, encS]
  (repeat (with_reducible refine And.intro ?_ ?_; focus first | omega | rfl | assumption | exact ⟨_, rfl, rfl⟩ | (simp; omega) | (simp; done)))
  refine loop_at (ι := Nat × List (List UInt8)) Tryz.checked.mixed rfl [3, 7, 8, 9] (fun y => [.c (.mp (0, 0)), .c (.d (.sl (xs.map encS))), .c (.d (.i .i64 xs.length)), .c (.d (.i .i64 y.1))]) (fun y => [.mp y.2] :: S)
    (fun y => y.1 ≤ xs.length ∧ (∀ s, s ∈ y.2 ↔ s ∈ xs.take y.1) ∧ (xs.take y.1).Nodup) (fun y => xs.length - y.1) (0, []) rfl rfl ⟨Nat.zero_le _, fun s => by simp, by simp⟩ ?_
  rintro ⟨i, m⟩ ⟨p1, p2, p3⟩
  simp only at p1 p2 p3
  simp -implicitDefEqProofs (disch := omega) only [go_sem, encS]
  with_reducible refine split2 (fun hb => ?_) (fun hb => ?_) <;> have h := hb <;> (try simp only [wf_preprocess] at h) <;> simp -implicitDefEqProofs (disch := omega) only [go_sem, hb, encS] <;> (repeat (with_reducible refine And.intro ?_ ?_; focus first | omega | rfl | assumption | exact ⟨_, rfl, rfl⟩ | (simp; omega) | (simp; done)))
  · have hi : i < xs.length := by omega
    (repeat (with_reducible refine And.intro ?_ ?_; focus first | omega | rfl | assumption | exact ⟨_, rfl, rfl⟩ | (simp; omega) | (simp; done)))
    with_reducible refine split2 (fun hb => ?_) (fun hb => ?_) <;> have h := hb <;> (try simp only [wf_preprocess] at h) <;> simp -implicitDefEqProofs (disch := omega) only [go_sem, hb, encS] <;> (repeat (with_reducible refine And.intro ?_ ?_; focus first | omega | rfl | assumption | exact ⟨_, rfl, rfl⟩ | (simp; omega) | (simp; done)))
    · exact bool_eq (dec_false (not_nodup hi ((p2 _).1 h))).symm
    · refine inv_at (i + 1, addW xs[i] m) (by simp only; omega) rfl rfl ⟨by simp only; omega, fun s => ?_, ?_⟩
      · simp only
        rw [mem_addW, take_snoc hi, List.mem_append, List.mem_singleton, p2]
        exact Or.comm
      · simp only
        rw [take_snoc hi, nodup_snoc]
        exact ⟨p3, fun hx => h ((p2 _).2 hx)⟩
  · rw [List.take_of_length_le (by omega)] at p3
    exact bool_eq (dec_true p3).symm
end Go.Proofs.YtnleocfkdidhoaaGreat

namespace Go.Ab
noncomputable def fitB (d : MDataType) (arms : List MArm) : Bool := dec (fitP d.fConstructors arms)
def fitA (c : MConstructor) (a : MArm) : Bool := decide (a.fConstructor = c.fName ∧ a.fVars.length = c.fFields.length)
/-- One constructor and its first arm. -/
def fit1 (c : MConstructor) (arms : List MArm) : Prop := ∃ a, arms.find? (fun a => decide (a.fConstructor = c.fName)) = some a ∧ a.fVars.length = c.fFields.length
theorem find_at {α : Type} {p : α → Bool} {xs : List α} {i : Nat} (hi : i < xs.length) (h : p xs[i] = true) (hj : ∀ k, ∀ hk : k < xs.length, k < i → p xs[k] = false) : xs.find? p = some xs[i] := by
  induction xs generalizing i with
  | nil => simp at hi
  | cons a xs ih =>
    rw [List.find?_cons]
    cases i with
    | zero => simp only [List.getElem_cons_zero] at h ⊢; rw [h]
    | succ i =>
      have h0 := hj 0 (by simp) (by omega)
      simp only [List.getElem_cons_zero] at h0
      rw [h0]
      simp only [List.getElem_cons_succ] at h ⊢
      exact ih (by simpa using hi) h fun k hk hki => by
        have := hj (k + 1) (by simp; omega) (by omega)
        simpa using this
theorem indexP_two {α : Type} (p : α → Bool) (xs : List α) : (indexP p xs = -1 ∧ ∀ j, ∀ hj : j < xs.length, p xs[j] = false) ∨ ∃ j : Nat, ∃ hj : j < xs.length, indexP p xs = j ∧ p xs[j] = true ∧ ∀ k, ∀ hk : k < xs.length, k < j → p xs[k] = false := by
  by_cases h : xs.any p = true
  · right
    have hlt : xs.findIdx p < xs.length := List.findIdx_lt_length_of_exists (List.any_eq_true.1 h)
    refine ⟨xs.findIdx p, hlt, by unfold indexP; rw [if_pos h], List.findIdx_getElem, fun k hk hkj => ?_⟩
    have := List.not_of_lt_findIdx hkj
    simpa using this
  · left
    have hf : ∀ j, ∀ hj : j < xs.length, p xs[j] = false := fun j hj => Bool.eq_false_iff.2 fun hx => h (List.any_eq_true.2 ⟨_, List.getElem_mem hj, hx⟩)
    exact ⟨indexP_no hf, hf⟩
theorem cnt_snoc {α : Type} {p : α → Bool} {xs : List α} {i : Nat} (hi : i < xs.length) : (xs.take (i + 1)).countP p = (xs.take i).countP p + if p xs[i] = true then 1 else 0 := by
  rw [List.take_succ_eq_append_getElem hi, List.countP_append, List.countP_cons]
  simp
end Go.Ab
namespace Go.Proofs.YtnleocfkdidhoaaGreat
open Go Go.Ab
theorem armAt1_pure (name : List UInt8) (rest : List Ab.Obj) (S : Store) (a : MArm) : FPure Tryz.prog 283 [((0, 0), 0)] ((.box [.d (.s name)] :: rest) :: S) [a.v] (.c (.d (.b (decide (a.fConstructor = name))))) := fun F => by
  refine acall_cw (rs := [.tmp 3]) Tryz.checked.mixed Tryz.func283 Tryz.ntmps283 rfl rfl rfl rfl rfl ?_
  simp -implicitDefEqProofs (disch := omega) only [go_sem]
theorem armAt_ok (arms : List MArm) (name : List UInt8) (hl : arms.length ≤ 4194304) : PCall Tryz.prog 248 [.c (.d (.sl (arms.map MArm.enc))), .c (.d (.s name))] (.c (.d (.i .i64 (indexP (fun a => decide (a.fConstructor = name)) arms)))) := fun S => by
  refine acall_cw (rs := [.tmp 4]) Tryz.checked.mixed Tryz.func248 Tryz.ntmps248 rfl rfl rfl rfl rfl ?_
  simp -implicitDefEqProofs (disch := omega) only [go_sem]
  refine call_d rfl (indexFuncArm_ok 283 [((0, 0), 0)] _ arms (fun a => decide (a.fConstructor = name)) (by omega) fun p hp => armAt1_pure name [] S p) ?_
  simp -implicitDefEqProofs (disch := omega) only [go_sem]
theorem fitArms_ok (d : MDataType) (arms : List MArm) (hsz : d.sz ≤ 4194304) (hl : arms.length ≤ 4194304) : PCall Tryz.prog 203 [d.v, .c (.d (.sl (arms.map MArm.enc)))] (.c (.d (.b (fitB d arms)))) := fun S => by
  have hb0 := MDataType.lenCt hsz
  have bad : ∀ i, ∀ hi : i < d.fConstructors.length, ¬ fit1 d.fConstructors[i] arms → fitB d arms = false := fun i hi h => dec_false fun hf => h (hf.1 _ (List.getElem_mem hi))
  refine acall_cw (rs := [.tmp 4]) Tryz.checked.mixed Tryz.func203 Tryz.ntmps203 rfl rfl rfl rfl rfl ?_
  simp -implicitDefEqProofs (disch := omega) only [go_sem]
  refine aw_tok 5 1 [] rfl (by simp) ?_
  refine loop_at (ι := Nat × List (List UInt8)) Tryz.checked.mixed rfl [1, 5, 11, 12, 13] (fun y => [.c (.d (.sl (arms.map MArm.enc))), .c (.tsl (0, 1) (y.2.map encS)), .c (.d (.sl (d.fConstructors.map MConstructor.enc))), .c (.d (.i .i64 d.fConstructors.length)), .c (.d (.i .i64 y.1))]) (fun y => [.box (d.enc.map .d), .tok 1 (y.2.map encS)] :: S)
    (fun y => y.1 ≤ d.fConstructors.length ∧ y.2 = (d.fConstructors.map MConstructor.fName).take y.1 ∧ ∀ j, ∀ hj : j < d.fConstructors.length, j < y.1 → fit1 d.fConstructors[j] arms) (fun y => d.fConstructors.length - y.1) (0, []) rfl ?_ ⟨Nat.zero_le _, rfl, fun j _ h => by simp only at h; omega⟩ ?_
  · simp -implicitDefEqProofs (disch := omega) only [go_sem]
  rintro ⟨i, names⟩ ⟨p1, p2, p3⟩
  simp only at p1 p2 p3
  have pl : names.length ≤ d.fConstructors.length := by rw [p2]; simp; omega
  simp -implicitDefEqProofs (disch := omega) only [go_sem]
  with_reducible refine split2 (fun hb => ?_) (fun hb => ?_) <;> have h := hb <;> (try simp only [wf_preprocess] at h) <;> simp -implicitDefEqProofs (disch := omega) only [go_sem, hb] <;> (repeat (with_reducible refine And.intro ?_ ?_; focus first | omega | rfl | assumption | exact ⟨_, rfl, rfl⟩ | (simp; omega) | (simp; done)))
  · have hi : i < d.fConstructors.length := by omega
    (repeat (with_reducible refine And.intro ?_ ?_; focus first | omega | rfl | assumption | exact ⟨_, rfl, rfl⟩ | (simp; omega) | (simp; done)))
    refine call_w (armAt_ok arms d.fConstructors[i].fName hl) ?_
    simp -implicitDefEqProofs (disch := omega) only [go_sem] <;> (repeat (with_reducible refine And.intro ?_ ?_; focus first | omega | rfl | assumption | exact ⟨_, rfl, rfl⟩ | (simp; omega) | (simp; done)))
    have next : fit1 d.fConstructors[i] arms → ∀ j, ∀ hj : j < d.fConstructors.length, j < i + 1 → fit1 d.fConstructors[j] arms := fun h j hj hji => by
      by_cases e : j = i
      · subst e; exact h
      · exact p3 j hj (by omega)
    have hsn : names ++ [d.fConstructors[i].fName] = (d.fConstructors.map MConstructor.fName).take (i + 1) := by rw [p2, take_snoc (by simpa using hi)]; simp
    rcases indexP_two (fun a : MArm => decide (a.fConstructor = d.fConstructors[i].fName)) arms with ⟨e, hno⟩ | ⟨k, hk, e, hyes, hbefore⟩
    · rw [e]
      simp -implicitDefEqProofs (disch := omega) only [go_sem]
      refine bool_eq (bad i hi ?_).symm
      rintro ⟨a, ha, _⟩
      obtain ⟨j, hj, ej⟩ := List.getElem_of_mem (List.mem_of_find?_eq_some ha)
      have h1 := hno j hj
      have h2 := List.find?_some ha
      rw [ej] at h1
      rw [h1] at h2; cases h2
    · rw [e]
      have hkd : decide ((k : Int) < 0) = false := decide_eq_false (by omega)
      have hfind := find_at (p := fun a : MArm => decide (a.fConstructor = d.fConstructors[i].fName)) hk hyes hbefore
      simp -implicitDefEqProofs (disch := omega) only [go_sem, hkd]
      (repeat (with_reducible refine And.intro ?_ ?_; focus first | omega | rfl | assumption | exact ⟨_, rfl, rfl⟩ | (simp; omega) | (simp; done)))
      with_reducible refine split2 (fun hb => ?_) (fun hb => ?_) <;> have h := hb <;> (try simp only [wf_preprocess] at h) <;> simp -implicitDefEqProofs (disch := omega) only [go_sem, hb] <;> (repeat (with_reducible refine And.intro ?_ ?_; focus first | omega | rfl | assumption | exact ⟨_, rfl, rfl⟩ | (simp; omega) | (simp; done)))
      · refine bool_eq (bad i hi ?_).symm
        rintro ⟨a, ha, hv⟩
        rw [hfind] at ha
        cases ha
        omega
      · rw [show List.map encS names ++ [[D.s d.fConstructors[i].fName]] = List.map encS (names ++ [d.fConstructors[i].fName]) by simp [encS]]
        exact inv_drop 2 (by decide) (i + 1, names ++ [d.fConstructors[i].fName]) (by simp only; omega) rfl rfl rfl rfl ⟨by simp only; omega, hsn, next ⟨_, hfind, by omega⟩⟩
  have hi : i = d.fConstructors.length := by omega
  have hn : names = d.fConstructors.map MConstructor.fName := by rw [p2, List.take_of_length_le (by simp; omega)]
  have hnl : names.length = d.fConstructors.length := by rw [hn]; simp
  have hall : ∀ c ∈ d.fConstructors, fit1 c arms := fun c hc => by
    obtain ⟨j, hj, e⟩ := List.getElem_of_mem hc
    rw [← e]; exact p3 j hj (by omega)
  refine call_w (implDistinct_ok names (by omega)) ?_
  simp -implicitDefEqProofs (disch := omega) only [go_sem] <;> (repeat (with_reducible refine And.intro ?_ ?_; focus first | omega | rfl | assumption | exact ⟨_, rfl, rfl⟩ | (simp; omega) | (simp; done)))
  with_reducible refine split2 (fun hb => ?_) (fun hb => ?_) <;> have h := hb <;> (try simp only [wf_preprocess] at h) <;> simp -implicitDefEqProofs (disch := omega) only [go_sem, hb] <;> (repeat (with_reducible refine And.intro ?_ ?_; focus first | omega | rfl | assumption | exact ⟨_, rfl, rfl⟩ | (simp; omega) | (simp; done)))
  · refine bool_eq ?_
    unfold fitB
    rw [decide_dec]
    exact dec_congr ⟨fun e => ⟨hall, by rw [← hn]; exact h, by omega⟩, fun e => by have := e.2.2; omega⟩
  · exact bool_eq (dec_false fun hf => h (by rw [hn]; exact hf.2.1)).symm
theorem l18Arms_ok (d : MDataType) (arms : List MArm) (hsz : d.sz ≤ 4194304) (hl : arms.length ≤ 4194304) : PCall Tryz.prog 127 [d.v, .c (.d (.sl (arms.map MArm.enc)))] (.c (.d (.b (fitB d arms)))) := fun S => by
  have hb0 := MDataType.lenCt hsz
  refine acall_cw (rs := [.tmp 4]) Tryz.checked.mixed Tryz.func127 Tryz.ntmps127 rfl rfl rfl rfl rfl ?_
  simp -implicitDefEqProofs (disch := omega) only [go_sem]
  with_reducible refine split2 (fun hb => ?_) (fun hb => ?_) <;> have h := hb <;> (try simp only [wf_preprocess] at h) <;> simp -implicitDefEqProofs (disch := omega) only [go_sem, hb] <;> (repeat (with_reducible refine And.intro ?_ ?_; focus first | omega | rfl | assumption | exact ⟨_, rfl, rfl⟩ | (simp; omega) | (simp; done)))
  · exact bool_eq (dec_false fun hf => h (by have := hf.2.2; omega)).symm
  have hlen : arms.length = d.fConstructors.length := by omega
  refine loop_at (ι := Nat) Tryz.checked.mixed rfl [1, 2, 5] (fun i => [.c (.d (.sl (arms.map MArm.enc))), .c (.ptr (0, 0) 0), .c (.d (.i .i64 i))]) (fun _ => [.box (d.enc.map .d)] :: S)
    (fun i => i ≤ d.fConstructors.length ∧ (∀ j, ∀ hj : j < d.fConstructors.length, j < i → arms.countP (fitA d.fConstructors[j]) = 1) ∧ ((d.fConstructors.map MConstructor.fName).take i).Nodup) (fun i => d.fConstructors.length - i) 0 rfl ?_ ⟨Nat.zero_le _, fun j _ h => by omega, by simp⟩ ?_
  · simp -implicitDefEqProofs (disch := omega) only [go_sem]
  rintro i ⟨p1, p2, p3⟩
  simp -implicitDefEqProofs (disch := omega) only [go_sem]
  with_reducible refine split2 (fun hb => ?_) (fun hb => ?_) <;> have h := hb <;> (try simp only [wf_preprocess] at h) <;> simp -implicitDefEqProofs (disch := omega) only [go_sem, hb] <;> (repeat (with_reducible refine And.intro ?_ ?_; focus first | omega | rfl | assumption | exact ⟨_, rfl, rfl⟩ | (simp; omega) | (simp; done)))
  · have hi : i < d.fConstructors.length := by omega
    (repeat (with_reducible refine And.intro ?_ ?_; focus first | omega | rfl | assumption | exact ⟨_, rfl, rfl⟩ | (simp; omega) | (simp; done)))
    refine loop_at (ι := Nat × Nat) Tryz.checked.mixed rfl [1, 2, 5, 6, 7] (fun y => [.c (.d (.sl (arms.map MArm.enc))), .c (.ptr (0, 0) 0), .c (.d (.i .i64 i)), .c (.d (.i .i64 y.1)), .c (.d (.i .i64 y.2))]) (fun _ => [.box (d.enc.map .d)] :: S)
      (fun y => y.2 ≤ arms.length ∧ y.1 = (arms.take y.2).countP (fitA d.fConstructors[i])) (fun y => arms.length - y.2) (0, 0) rfl ?_ ⟨Nat.zero_le _, by simp⟩ ?_
    · simp -implicitDefEqProofs (disch := omega) only [go_sem]
    rintro ⟨m, j⟩ ⟨q1, q2⟩
    simp only at q1 q2
    have hm : m ≤ j := by rw [q2]; exact Nat.le_trans List.countP_le_length (by simp; omega)
    simp -implicitDefEqProofs (disch := omega) only [go_sem]
    with_reducible refine split2 (fun hb => ?_) (fun hb => ?_) <;> have h := hb <;> (try simp only [wf_preprocess] at h) <;> simp -implicitDefEqProofs (disch := omega) only [go_sem, hb] <;> (repeat (with_reducible refine And.intro ?_ ?_; focus first | omega | rfl | assumption | exact ⟨_, rfl, rfl⟩ | (simp; omega) | (simp; done)))
    · have hj : j < arms.length := by omega
      (repeat (with_reducible refine And.intro ?_ ?_; focus first | omega | rfl | assumption | exact ⟨_, rfl, rfl⟩ | (simp; omega) | (simp; done)))
      with_reducible refine split2 (fun hb => ?_) (fun hb => ?_) <;> have h := hb <;> (try simp only [wf_preprocess] at h) <;> simp -implicitDefEqProofs (disch := omega) only [go_sem, hb] <;> (repeat (with_reducible refine And.intro ?_ ?_; focus first | omega | rfl | assumption | exact ⟨_, rfl, rfl⟩ | (simp; omega) | (simp; done)))
      · have h1 := h
        (repeat (with_reducible refine And.intro ?_ ?_; focus first | omega | rfl | assumption | exact ⟨_, rfl, rfl⟩ | (simp; omega) | (simp; done)))
        with_reducible refine split2 (fun hb => ?_) (fun hb => ?_) <;> have h := hb <;> (try simp only [wf_preprocess] at h) <;> simp -implicitDefEqProofs (disch := omega) only [go_sem, hb] <;> (repeat (with_reducible refine And.intro ?_ ?_; focus first | omega | rfl | assumption | exact ⟨_, rfl, rfl⟩ | (simp; omega) | (simp; done)))
        · have hf : fitA d.fConstructors[i] arms[j] = true := by simp only [fitA, decide_eq_true_eq]; exact ⟨h1, by omega⟩
          exact inv_at (m + 1, j + 1) (by simp only; omega) rfl rfl ⟨by simp only; omega, by simp only; rw [cnt_snoc hj, if_pos hf, q2]⟩
        · have hf : ¬ fitA d.fConstructors[i] arms[j] = true := by simp only [fitA, decide_eq_true_eq]; exact fun e => h (by have := e.2; omega)
          exact inv_at (m, j + 1) (by simp only; omega) rfl rfl ⟨by simp only; omega, by simp only; rw [cnt_snoc hj, if_neg hf, q2]; rfl⟩
      · have hf : ¬ fitA d.fConstructors[i] arms[j] = true := by simp only [fitA, decide_eq_true_eq]; exact fun e => h e.1
        exact inv_at (m, j + 1) (by simp only; omega) rfl rfl ⟨by simp only; omega, by simp only; rw [cnt_snoc hj, if_neg hf, q2]; rfl⟩
    · have hm2 : m = arms.countP (fitA d.fConstructors[i]) := by rw [q2, List.take_of_length_le (by omega)]
      refine loop_at (ι := Nat) Tryz.checked.mixed rfl [1, 2, 5, 6, 8] (fun k => [.c (.d (.sl (arms.map MArm.enc))), .c (.ptr (0, 0) 0), .c (.d (.i .i64 i)), .c (.d (.i .i64 m)), .c (.d (.i .i64 k))]) (fun _ => [.box (d.enc.map .d)] :: S)
        (fun k => k ≤ i ∧ ∀ l, ∀ hl : l < d.fConstructors.length, l < k → d.fConstructors[l].fName ≠ d.fConstructors[i].fName) (fun k => i - k) 0 rfl ?_ ⟨Nat.zero_le _, fun l _ h => by omega⟩ ?_
      · simp -implicitDefEqProofs (disch := omega) only [go_sem]
      rintro k ⟨r1, r2⟩
      simp -implicitDefEqProofs (disch := omega) only [go_sem]
      with_reducible refine split2 (fun hb => ?_) (fun hb => ?_) <;> have h := hb <;> (try simp only [wf_preprocess] at h) <;> simp -implicitDefEqProofs (disch := omega) only [go_sem, hb] <;> (repeat (with_reducible refine And.intro ?_ ?_; focus first | omega | rfl | assumption | exact ⟨_, rfl, rfl⟩ | (simp; omega) | (simp; done)))
      · have hk : k < d.fConstructors.length := by omega
        have hki : k < i := by omega
        (repeat (with_reducible refine And.intro ?_ ?_; focus first | omega | rfl | assumption | exact ⟨_, rfl, rfl⟩ | (simp; omega) | (simp; done)))
        with_reducible refine split2 (fun hb => ?_) (fun hb => ?_) <;> have h := hb <;> (try simp only [wf_preprocess] at h) <;> simp -implicitDefEqProofs (disch := omega) only [go_sem, hb] <;> (repeat (with_reducible refine And.intro ?_ ?_; focus first | omega | rfl | assumption | exact ⟨_, rfl, rfl⟩ | (simp; omega) | (simp; done)))
        · refine bool_eq (dec_false fun hf => ?_).symm
          have hnd := hf.2.1
          rw [List.nodup_iff_pairwise_ne, List.pairwise_iff_getElem] at hnd
          have := hnd k i (by simpa using hk) (by simpa using hi) hki
          simp only [List.getElem_map] at this
          exact this h
        · exact inv_at (k + 1) (by omega) rfl rfl ⟨by omega, fun l hl hlk => by
            by_cases e : l = k
            · subst e; exact h
            · exact r2 l hl (by omega)⟩
      · have hki : k = i := by omega
        with_reducible refine split2 (fun hb => ?_) (fun hb => ?_) <;> have h := hb <;> (try simp only [wf_preprocess] at h) <;> simp -implicitDefEqProofs (disch := omega) only [go_sem, hb] <;> (repeat (with_reducible refine And.intro ?_ ?_; focus first | omega | rfl | assumption | exact ⟨_, rfl, rfl⟩ | (simp; omega) | (simp; done)))
        · exact bool_eq (dec_false fun hf => h (by have := (fit_iff.1 hf).2.2 _ (List.getElem_mem hi); unfold fitA at hm2; omega)).symm
        · refine inv_at (i + 1) (by omega) rfl rfl ⟨by omega, fun l hl hli => ?_, ?_⟩
          · by_cases e : l = i
            · subst e; omega
            · exact p2 l hl (by omega)
          · rw [take_snoc (by simpa using hi), nodup_snoc]
            refine ⟨p3, fun hx => ?_⟩
            obtain ⟨l, hl, e⟩ := List.getElem_of_mem hx
            simp only [List.length_take, List.length_map] at hl
            simp only [List.getElem_take, List.getElem_map] at e
            exact r2 l (by omega) (by omega) e
  · have hi : i = d.fConstructors.length := by omega
    refine bool_eq (dec_true (fit_iff.2 ⟨hlen, ?_, fun c hc => ?_⟩)).symm
    · rw [List.take_of_length_le (by simp; omega)] at p3; exact p3
    · obtain ⟨j, hj, e⟩ := List.getElem_of_mem hc
      rw [← e]; exact p2 j hj (by omega)
end Go.Proofs.YtnleocfkdidhoaaGreat

namespace Go.Ab
def sigF (name : List UInt8) : List MSignature → Nat → Option (MSignature × Nat)
  | [], _ => none
  | g :: gs, k => if g.fName = name then some (g, k) else sigF name gs (k + 1)
def sigAt (t : MTrait) (name : List UInt8) : Option (MSignature × Nat) := sigF name t.fSignatures 0
theorem sigF_drop {name : List UInt8} {gs : List MSignature} {k : Nat} (hk : k < gs.length) : sigF name (gs.drop k) k = if gs[k].fName = name then some (gs[k], k) else sigF name (gs.drop (k + 1)) (k + 1) := by
  rw [List.drop_eq_getElem_cons hk, sigF]
theorem sigF_mem {name : List UInt8} : ∀ {gs : List MSignature} {i : Nat} {g : MSignature} {k : Nat}, sigF name gs i = some (g, k) → g ∈ gs
  | [], i, g, k, h => by cases h
  | a :: gs, i, g, k, h => by
    rw [sigF] at h
    split at h
    · injection h with h; injection h with h _; subst h; simp
    · exact List.mem_cons_of_mem _ (sigF_mem h)
def sigC : Option (MSignature × Nat) → List C
  | some (g, _) => g.enc.map .d
  | none => [.d (.s []), .fsl [], .d (.i .i64 0), .d (.s []), .fsl [], .d (.b false), .fsl [], .d (.i .i64 0), .d (.s []), .d (.s []), .d (.i .i64 0), .d (.i .i64 0), .d (.s []), .fsl [], .fsl [], .fsl []]
theorem MDataType.szCt {d : MDataType} {k : Nat} (hk : k < d.fConstructors.length) (h : d.sz ≤ 4194304) : d.fConstructors[k].sz ≤ 4194304 := by
  have b : d.fConstructors[k].sz ≤ szRows (d.fConstructors.map MConstructor.enc) := szRows_mem (List.mem_map_of_mem (List.getElem_mem hk))
  simp only [MDataType.sz, MDataType.enc_eq, szRow, szRow_append, D.sz, List.length_map] at h
  omega
theorem MConstructor.lenFd {c : MConstructor} (h : c.sz ≤ 4194304) : c.fFields.length ≤ 4194304 := by
  simp only [MConstructor.sz, MConstructor.enc_eq, szRow, szRow_append, D.sz, List.length_map] at h
  omega
theorem MTrait.lenSg {t : MTrait} (h : t.sz ≤ 4194304) : t.fSignatures.length ≤ 4194304 := by
  simp only [MTrait.sz, MTrait.enc_eq, szRow, szRow_append, D.sz, List.length_map] at h
  omega
theorem sigAt_len {t : MTrait} {name : List UInt8} {g : MSignature} {k : Nat} (h : sigAt t name = some (g, k)) (hsz : t.sz ≤ 4194304) : g.fParams.length ≤ 4194304 := by
  have b : g.sz ≤ szRows (t.fSignatures.map MSignature.enc) := szRows_mem (List.mem_map_of_mem (sigF_mem h))
  simp only [MTrait.sz, MTrait.enc_eq, szRow, szRow_append, D.sz, List.length_map] at hsz
  simp only [MSignature.sz, MSignature.enc_eq, szRow, szRow_append, D.sz, List.length_map] at b
  omega
theorem seesC_ex {w : MProgram} {i : Int} {r : Option (MDataType × Nat)} (h : seesC w i r = true) : ∃ d k, r = some (d, k) := by
  cases r with
  | none => cases h
  | some x => exact ⟨x.1, x.2, rfl⟩
theorem ctorAt_sz {w : MProgram} {name : List UInt8} {d : MDataType} {k : Nat} (h : ctorAt w name = some (d, k)) (hsz : w.sz ≤ 4194304) : d.sz ≤ 4194304 ∧ k < d.fConstructors.length := by
  obtain ⟨⟨q, h1, h2⟩, h3⟩ := ctorA_mem h
  have a : q.sz ≤ szRows (w.fPackages.map MPackage.enc) := szRows_mem (List.mem_map_of_mem h1)
  have b : d.sz ≤ szRows (q.fDataTypes.map MDataType.enc) := szRows_mem (List.mem_map_of_mem h2)
  simp only [MProgram.sz, MProgram.enc_eq, szRow, szRow_append, D.sz, List.length_map] at hsz
  simp only [MPackage.sz, MPackage.enc_eq, szRow, szRow_append, D.sz, List.length_map] at a
  exact ⟨by omega, h3⟩
theorem MExpr.lens {e : MExpr} (h : e.sz ≤ 4194304) : e.fArgs.length ≤ 4194304 ∧ e.fArms.length ≤ 4194304 ∧ e.fType.sz ≤ 4194304 := by
  simp only [MExpr.sz, MExpr.enc_eq, szRow, szRow_append, D.sz, List.length_map] at h
  simp only [MType.sz, MType.enc_eq, szRow, D.sz, List.length_map] at h ⊢
  omega
noncomputable def caseCode (w : MProgram) (i : Int) (all : List MArm) : List MArm → Int
  | [] => 1
  | a :: _ => if seesC w i (ctorAt w a.fConstructor) = true then (match ctorAt w a.fConstructor with | some (d, _) => if fitB d all = true then 0 else 2 | none => 1) else 1
/-- The code of an expression without its arguments and arms. -/
noncomputable def hereCode (w : MProgram) (i : Int) (e : MExpr) : Int :=
  if e.fKind = 4 then (if seesO w i (fnAt w e.fName) = true then (match fnAt w e.fName with | some (f, _) => if f.fParams.length = e.fArgs.length then 0 else 9 | none => 9) else 9)
  else if e.fKind = 5 then (if seesO w i (traitAt w e.fTrait) = true then (match traitAt w e.fTrait with | some (t, _) => (match sigAt t e.fName with | some (g, _) => if e.fArgs.length = g.fParams.length + 1 then 0 else 6 | none => 6) | none => 3) else 3)
  else if e.fKind = 6 then (if seesC w i (ctorAt w e.fName) = true then (match ctorAt w e.fName with | some (d, k) => (match d.fConstructors[k]? with | some c => if e.fArgs.length = c.fFields.length then 0 else 2 | none => 2) | none => 1) else 1)
  else if e.fKind = 7 then caseCode w i e.fArms e.fArms
  else if e.fKind = 11 then dynCode w i e.fTrait
  else if e.fKind = 12 then tyCode w i e.fType
  else 0
theorem fnAt_len {w : MProgram} {name : List UInt8} {f : MFunction} {p : Nat} (h : fnAt w name = some (f, p)) (hsz : w.sz ≤ 4194304) : f.fParams.length ≤ 4194304 := by
  obtain ⟨q, h1, h2⟩ := findP_mem h
  have a : q.sz ≤ szRows (w.fPackages.map MPackage.enc) := szRows_mem (List.mem_map_of_mem h1)
  have b : f.sz ≤ szRows (q.fFunctions.map MFunction.enc) := szRows_mem (List.mem_map_of_mem h2)
  simp only [MProgram.sz, MProgram.enc_eq, szRow, szRow_append, D.sz, List.length_map] at hsz
  simp only [MPackage.sz, MPackage.enc_eq, szRow, szRow_append, D.sz, List.length_map] at a
  simp only [MFunction.sz, MFunction.enc_eq, szRow, szRow_append, D.sz, List.length_map] at b
  omega
theorem case_head {w : MProgram} {i : Int} {all : List MArm} : ∀ {l : List MArm} (h : 0 < l.length), caseCode w i all l = if seesC w i (ctorAt w l[0].fConstructor) = true then (match ctorAt w l[0].fConstructor with | some (d, _) => if fitB d all = true then 0 else 2 | none => 1) else 1
  | [], h => by simp at h
  | a :: l, _ => rfl
theorem here7 {w : MProgram} {i : Int} {e : MExpr} (k : e.fKind = 7) (h : 0 < e.fArms.length) :
    hereCode w i e = if seesC w i (ctorAt w e.fArms[0].fConstructor) = true then (match ctorAt w e.fArms[0].fConstructor with | some (d, _) => if fitB d e.fArms = true then 0 else 2 | none => 1) else 1 := by
  unfold hereCode
  rw [if_neg (by omega), if_neg (by omega), if_neg (by omega), if_pos k, case_head h]
theorem here7n {w : MProgram} {i : Int} {e : MExpr} (k : e.fKind = 7) (h : e.fArms.length = 0) : hereCode w i e = 1 := by
  unfold hereCode
  rw [if_neg (by omega), if_neg (by omega), if_neg (by omega), if_pos k, List.eq_nil_of_length_eq_zero h]; rfl
end Go.Ab
namespace Go.Proofs.YtnleocfkdidhoaaGreat
open Go Go.Ab
theorem implSig_ok (t : MTrait) (name : List UInt8) (ht : t.sz ≤ 4194304) : PCall Tryz.prog 201 [t.v, .c (.d (.s name))] (.tup [(true, sigC (sigAt t name)), (false, [.d (.i .i64 (idxO (sigAt t name)))]), (false, [.d (.b (sigAt t name).isSome)])]) := fun S => by
  have hl := MTrait.lenSg ht
  refine acall_cw (rs := [.cell 4 180, .tmp 5, .tmp 6]) Tryz.checked.mixed Tryz.func201 Tryz.ntmps201 rfl rfl rfl rfl rfl ?_
  simp -implicitDefEqProofs (disch := omega) only [go_sem]
  refine loop_at (ι := Nat) Tryz.checked.mixed rfl [1, 4, 10, 11, 12] (fun i => [.c (.d (.s name)), .c (.ptr (0, 1) 0), .c (.d (.sl (t.fSignatures.map MSignature.enc))), .c (.d (.i .i64 t.fSignatures.length)), .c (.d (.i .i64 i))])
    (fun _ => [.box (t.enc.map .d), .box [.d (.s []), .fsl [], .d (.i .i64 0), .d (.s []), .fsl [], .d (.b false), .fsl [], .d (.i .i64 0), .d (.s []), .d (.s []), .d (.i .i64 0), .d (.i .i64 0), .d (.s []), .fsl [], .fsl [], .fsl []]] :: S)
    (fun i => i ≤ t.fSignatures.length ∧ sigF name (t.fSignatures.drop i) i = sigAt t name) (fun i => t.fSignatures.length - i) 0 rfl ?_ ⟨Nat.zero_le _, rfl⟩ ?_
  · simp -implicitDefEqProofs (disch := omega) only [go_sem]
  rintro i ⟨p1, p2⟩
  simp -implicitDefEqProofs (disch := omega) only [go_sem]
  with_reducible refine split2 (fun hb => ?_) (fun hb => ?_) <;> have h := hb <;> (try simp only [wf_preprocess] at h) <;> simp -implicitDefEqProofs (disch := omega) only [go_sem, hb] <;> (repeat (with_reducible refine And.intro ?_ ?_; focus first | omega | rfl | assumption | exact ⟨_, rfl, rfl⟩ | (simp; omega) | (simp; done)))
  · have hi : i < t.fSignatures.length := by omega
    rw [sigF_drop hi] at p2
    (repeat (with_reducible refine And.intro ?_ ?_; focus first | omega | rfl | assumption | exact ⟨_, rfl, rfl⟩ | (simp; omega) | (simp; done)))
    with_reducible refine split2 (fun hb => ?_) (fun hb => ?_) <;> have h := hb <;> (try simp only [wf_preprocess] at h) <;> simp -implicitDefEqProofs (disch := omega) only [go_sem, hb] <;> (repeat (with_reducible refine And.intro ?_ ?_; focus first | omega | rfl | assumption | exact ⟨_, rfl, rfl⟩ | (simp; omega) | (simp; done)))
    · rw [if_pos (by simpa using h)] at p2
      rw [← p2]
      first | rfl | (simp only [sigC, idxO]; simp -implicitDefEqProofs (disch := omega) only [go_sem]; done)
    · rw [if_neg (by simpa using h)] at p2
      exact inv_drop 2 (by decide) (i + 1) (by omega) rfl rfl rfl rfl ⟨by omega, p2⟩
  · rw [List.drop_of_length_le (by omega), sigF] at p2
    rw [← p2]
    first | rfl | (simp only [sigC, idxO]; simp -implicitDefEqProofs (disch := omega) only [go_sem]; done)
theorem specSig_ok (t : MTrait) (name : List UInt8) (ht : t.sz ≤ 4194304) : PCall Tryz.prog 125 [t.v, .c (.d (.s name))] (.tup [(true, sigC (sigAt t name)), (false, [.d (.b (sigAt t name).isSome)])]) := fun S => by
  have hl := MTrait.lenSg ht
  refine acall_cw (rs := [.cell 4 180, .tmp 5]) Tryz.checked.mixed Tryz.func125 Tryz.ntmps125 rfl rfl rfl rfl rfl ?_
  simp -implicitDefEqProofs (disch := omega) only [go_sem]
  refine loop_at (ι := Nat) Tryz.checked.mixed rfl [1, 2, 4, 6] (fun i => [.c (.d (.s name)), .c (.ptr (0, 0) 0), .c (.ptr (0, 1) 0), .c (.d (.i .i64 i))])
    (fun _ => [.box (t.enc.map .d), .box [.d (.s []), .fsl [], .d (.i .i64 0), .d (.s []), .fsl [], .d (.b false), .fsl [], .d (.i .i64 0), .d (.s []), .d (.s []), .d (.i .i64 0), .d (.i .i64 0), .d (.s []), .fsl [], .fsl [], .fsl []]] :: S)
    (fun i => i ≤ t.fSignatures.length ∧ sigF name (t.fSignatures.drop i) i = sigAt t name) (fun i => t.fSignatures.length - i) 0 rfl ?_ ⟨Nat.zero_le _, rfl⟩ ?_
  · simp -implicitDefEqProofs (disch := omega) only [go_sem]
  rintro i ⟨p1, p2⟩
  simp -implicitDefEqProofs (disch := omega) only [go_sem]
  with_reducible refine split2 (fun hb => ?_) (fun hb => ?_) <;> have h := hb <;> (try simp only [wf_preprocess] at h) <;> simp -implicitDefEqProofs (disch := omega) only [go_sem, hb] <;> (repeat (with_reducible refine And.intro ?_ ?_; focus first | omega | rfl | assumption | exact ⟨_, rfl, rfl⟩ | (simp; omega) | (simp; done)))
  · have hi : i < t.fSignatures.length := by omega
    rw [sigF_drop hi] at p2
    (repeat (with_reducible refine And.intro ?_ ?_; focus first | omega | rfl | assumption | exact ⟨_, rfl, rfl⟩ | (simp; omega) | (simp; done)))
    with_reducible refine split2 (fun hb => ?_) (fun hb => ?_) <;> have h := hb <;> (try simp only [wf_preprocess] at h) <;> simp -implicitDefEqProofs (disch := omega) only [go_sem, hb] <;> (repeat (with_reducible refine And.intro ?_ ?_; focus first | omega | rfl | assumption | exact ⟨_, rfl, rfl⟩ | (simp; omega) | (simp; done)))
    · rw [if_pos (by simpa using h)] at p2
      rw [← p2]
      (repeat (with_reducible refine And.intro ?_ ?_; focus first | omega | rfl | assumption | exact ⟨_, rfl, rfl⟩ | (simp; omega) | (simp; done)))
      first | rfl | (simp only [sigC]; simp -implicitDefEqProofs (disch := omega) only [go_sem]; done)
    · rw [if_neg (by simpa using h)] at p2
      exact inv_at (i + 1) (by omega) rfl rfl ⟨by omega, p2⟩
  · rw [List.drop_of_length_le (by omega), sigF] at p2
    rw [← p2]
    first | rfl | (simp only [sigC]; simp -implicitDefEqProofs (disch := omega) only [go_sem]; done)
end Go.Proofs.YtnleocfkdidhoaaGreat

namespace Go.Ab
section
variable {P : Program} {N : Nat} {S : Store} {s : St} {tm : List (Nat × V)}
def CWM (P : Program) (N : Nat) : Code → (Exit → St → Prop) → St → Prop
  | .seq x y, Q, s => CWM P N x (thenK (CWM P N y Q) Q) s
  | .region _ R true, Q, s => dops P (autoEL R N) R R.toList s (loneK (autoEL R N) R (Q .normal))
  | .region id R false, Q, s => CW P N (.region id R false) Q s
  | .cond c x y, Q, s => condW (ev s.tm c) (CWM P N x Q) (CWM P N y Q) s
  | .block id c, Q, s => CWM P N c (inBlk id Q) s
  | .exit id, Q, s => CW P N (.exit id) Q s
  | .ret, Q, s => CW P N .ret Q s
  | .skip, Q, s => CW P N .skip Q s
  | .loop c, Q, s => CW P N (.loop c) Q s
  | _, _, _ => False
def codeOkM (N : Nat) : Code → Bool
  | .seq x y => codeOkM N x && codeOkM N y
  | .region _ R true => drawOkL (autoEL R N) R N
  | .cond _ x y => codeOkM N x && codeOkM N y
  | .block _ c => codeOkM N c
  | c => codeOk N c
theorem cwm_sound (hmix : P.follows .mixedOrders = true) : ∀ (c : Code) (Q : Exit → St → Prop) (s : St), codeOkM N c = true → CWM P N c Q s → AW P N c Q s
  | .seq x y, Q, s, ok, h => by
    simp only [codeOkM, Bool.and_eq_true] at ok
    refine aw_seq (AW.mono (cwm_sound hmix x _ s ok.1 h) fun e s' h' => ?_)
    cases e with
    | normal => exact cwm_sound hmix y Q s' ok.2 h'
    | _ => exact h'
  | .region _ R true, Q, s, ok, h => aw_draw_lone hmix ok h
  | .region id R false, Q, s, ok, h => cw_sound hmix _ Q s ok h
  | .cond c x y, Q, s, ok, h => by
    simp only [codeOkM, Bool.and_eq_true] at ok
    simp only [CWM, condW] at h
    split at h
    · rename_i b hb
      exact aw_cond hb (fun e => cwm_sound hmix x Q s ok.1 (h.1 e)) (fun e => cwm_sound hmix y Q s ok.2 (h.2 e))
    · exact h.elim
  | .block id c, Q, s, ok, h => aw_block (cwm_sound hmix c _ s ok h)
  | .exit id, Q, s, ok, h => cw_sound hmix _ Q s ok h
  | .ret, Q, s, ok, h => cw_sound hmix _ Q s ok h
  | .skip, Q, s, ok, h => cw_sound hmix _ Q s ok h
  | .loop c, Q, s, ok, h => cw_sound hmix _ Q s ok h
  | .rangeFunc _ _ _ _, Q, s, ok, h => h.elim
  | .scope _, Q, s, ok, h => h.elim
  | .label _, Q, s, ok, h => h.elim
  | .goto _, Q, s, ok, h => h.elim
  | .refuse _, Q, s, ok, h => h.elim
theorem cwm_seq {x y : Code} {Q : Exit → St → Prop} : CWM P N (.seq x y) Q s = CWM P N x (thenK (CWM P N y Q) Q) s := by rw [CWM]
theorem cwm_draw {id : Nat} {l : List Oper} {Q : Exit → St → Prop} : CWM P N (.region id ⟨l⟩ true) Q s = dops P (autoEL ⟨l⟩ N) ⟨l⟩ l s (loneK (autoEL ⟨l⟩ N) ⟨l⟩ (Q .normal)) := by rw [CWM]
theorem cwm_region {id : Nat} {l : List Oper} {Q : Exit → St → Prop} : CWM P N (.region id ⟨l⟩ false) Q s = CW P N (.region id ⟨l⟩ false) Q s := by rw [CWM]
theorem cwm_cond {c : Operand} {x y : Code} {Q : Exit → St → Prop} : CWM P N (.cond c x y) Q s = condW (ev s.tm c) (CWM P N x Q) (CWM P N y Q) s := by rw [CWM]
theorem cwm_block {id : Nat} {c : Code} {Q : Exit → St → Prop} : CWM P N (.block id c) Q s = CWM P N c (inBlk id Q) s := by rw [CWM]
theorem cwm_exit {id : Nat} {Q : Exit → St → Prop} : CWM P N (.exit id) Q s = CW P N (.exit id) Q s := by rw [CWM]
theorem cwm_ret {Q : Exit → St → Prop} : CWM P N .ret Q s = CW P N .ret Q s := by rw [CWM]
theorem cwm_skip {Q : Exit → St → Prop} : CWM P N .skip Q s = CW P N .skip Q s := by rw [CWM]
theorem cwm_loop {c : Code} {Q : Exit → St → Prop} : CWM P N (.loop c) Q s = CW P N (.loop c) Q s := by rw [CWM]
/-- A function, by what its text asks. -/
theorem acall_cwm {f : FuncId} {fn : Func} {c : Code} {args : List V} {post : V → Store → Prop} {rs : List ResultVar} (hmix : P.follows .mixedOrders = true) (hf : P.funcs[f]? = some fn) (hN : fn.ntmps = N)
    (hb : fn.body = some c) (hn : (fn.name == "runtime.NumGoroutine") = false) (hr : fn.results.toList = rs) (hl : Nat.ble args.length N = true) (hok : codeOkM N c = true)
    (h : CWM P N c (retF P rs post) ⟨argTm (args.map (V.up 1)) 0, [] :: S⟩) : ACall P f args S post := by
  subst hN
  subst hr
  exact acall_enter hf hb hn (Nat.le_of_ble_eq_true hl) (aw_end frzAll_ghost (cwm_sound hmix c _ _ hok h))
end
attribute [go_sem ↓] cwm_seq cwm_draw cwm_region cwm_cond cwm_block cwm_exit cwm_ret cwm_skip cwm_loop
end Go.Ab

