/-
  SEVERAL TEXTS IN ONE (merged by program): contracts and models, each with its own heading.
-/
import Derived.Test.YtnleocfkdidhoaaGreatPartPfD
set_option linter.unusedSimpArgs false
set_option linter.unusedVariables false
set_option maxRecDepth 4000
namespace Go.Proofs.YtnleocfkdidhoaaGreat
open Go Go.Ab
theorem szFunction_ok (x : MFunction) : ∀ left : Int, 0 ≤ left → left ≤ 1048576 → FitL x.enc → PCall Tryz.prog 138 [x.v, .c (.d (.i .i64 left))] (.c (.d (.i .i64 (sub1 left x.sz)))) := by
  intro left h0 h1 hf S
  simp only [MFunction.enc_eq, List.cons_append, List.nil_append, fitL_cons, fitL_append, fitL_nil_iff, and_true] at hf
  obtain ⟨fName, fVars, fWhere, fParams, fResult, fBody⟩ := hf
  have hz : x.sz = x.fName.length + ((x.fVars.length + szRows (x.fVars.map encS)) + ((x.fWhere.length + szRows (x.fWhere.map MBound.enc)) + ((x.fParams.length + szRows (x.fParams.map MParam.enc)) + (x.fResult.sz + (x.fBody.sz))))) := by
    simp only [MFunction.sz, MFunction.enc_eq, szRow, szRow_append, D.sz, List.length_map, Nat.add_zero, Nat.zero_add, MExpr.sz_def, MType.sz_def] <;> omega
  refine acall_cw (rs := [.tmp 4]) Tryz.checked.mixed Tryz.func138 Tryz.ntmps138 rfl rfl rfl rfl rfl ?_
  rw [hz]
  have gName := fit_s fName
  simp -implicitDefEqProofs (disch := omega) only [go_sem]
  with_reducible refine split2 (fun hb => ?_) (fun hb => ?_) <;> have h := hb <;> (try simp only [wf_preprocess] at h) <;> simp -implicitDefEqProofs (disch := omega) only [go_sem, hb] <;> (repeat (with_reducible refine And.intro ?_ ?_; focus first | omega | rfl | assumption | exact ⟨_, rfl, rfl⟩ | (simp; omega) | (simp; done)))
  · exact int_eq (sub1_no (by omega)).symm
  refine call_w (szStringS_ok x.fVars _ (by omega) (by omega) fVars) ?_
  simp -implicitDefEqProofs (disch := omega) only [go_sem]
  with_reducible refine split2 (fun hb => ?_) (fun hb => ?_) <;> have h := hb <;> (try simp only [wf_preprocess] at h) <;> simp -implicitDefEqProofs (disch := omega) only [go_sem, hb] <;> (repeat (with_reducible refine And.intro ?_ ?_; focus first | omega | rfl | assumption | exact ⟨_, rfl, rfl⟩ | (simp; omega) | (simp; done)))
  · have h' := sub1_neg h
    exact int_eq (sub1_no (by omega)).symm
  have hVars := sub1_nn h
  simp only [hVars.1]
  refine call_w (szBoundS_ok x.fWhere _ (by omega) (by omega) fWhere) ?_
  simp -implicitDefEqProofs (disch := omega) only [go_sem]
  with_reducible refine split2 (fun hb => ?_) (fun hb => ?_) <;> have h := hb <;> (try simp only [wf_preprocess] at h) <;> simp -implicitDefEqProofs (disch := omega) only [go_sem, hb] <;> (repeat (with_reducible refine And.intro ?_ ?_; focus first | omega | rfl | assumption | exact ⟨_, rfl, rfl⟩ | (simp; omega) | (simp; done)))
  · have h' := sub1_neg h
    exact int_eq (sub1_no (by omega)).symm
  have hWhere := sub1_nn h
  simp only [hWhere.1]
  refine call_w (szParamS_ok x.fParams _ (by omega) (by omega) fParams) ?_
  simp -implicitDefEqProofs (disch := omega) only [go_sem]
  with_reducible refine split2 (fun hb => ?_) (fun hb => ?_) <;> have h := hb <;> (try simp only [wf_preprocess] at h) <;> simp -implicitDefEqProofs (disch := omega) only [go_sem, hb] <;> (repeat (with_reducible refine And.intro ?_ ?_; focus first | omega | rfl | assumption | exact ⟨_, rfl, rfl⟩ | (simp; omega) | (simp; done)))
  · have h' := sub1_neg h
    exact int_eq (sub1_no (by omega)).symm
  have hParams := sub1_nn h
  simp only [hParams.1]
  refine call_w (szType_ok x.fResult _ (by omega) (by omega) fResult) ?_
  simp -implicitDefEqProofs (disch := omega) only [go_sem]
  with_reducible refine split2 (fun hb => ?_) (fun hb => ?_) <;> have h := hb <;> (try simp only [wf_preprocess] at h) <;> simp -implicitDefEqProofs (disch := omega) only [go_sem, hb] <;> (repeat (with_reducible refine And.intro ?_ ?_; focus first | omega | rfl | assumption | exact ⟨_, rfl, rfl⟩ | (simp; omega) | (simp; done)))
  · have h' := sub1_neg h
    exact int_eq (sub1_no (by omega)).symm
  have hResult := sub1_nn h
  simp only [hResult.1]
  refine call_w (szExpr_ok x.fBody _ (by omega) (by omega) fBody) ?_
  simp -implicitDefEqProofs (disch := omega) only [go_sem]
  with_reducible refine split2 (fun hb => ?_) (fun hb => ?_) <;> have h := hb <;> (try simp only [wf_preprocess] at h) <;> simp -implicitDefEqProofs (disch := omega) only [go_sem, hb] <;> (repeat (with_reducible refine And.intro ?_ ?_; focus first | omega | rfl | assumption | exact ⟨_, rfl, rfl⟩ | (simp; omega) | (simp; done)))
  · have h' := sub1_neg h
    exact int_eq (sub1_no (by omega)).symm
  have hBody := sub1_nn h
  simp only [hBody.1]
  refine int_eq ?_
  rw [sub1_yes (by omega)]
  omega
theorem szFunctionS_ok (xs : List MFunction) : ∀ left : Int, 0 ≤ left → left ≤ 1048576 → (D.sl (xs.map MFunction.enc)).Fit → PCall Tryz.prog 66 [.c (.d (.sl (xs.map MFunction.enc))), .c (.d (.i .i64 left))] (.c (.d (.i .i64 (sub1 left (xs.length + szRows (xs.map MFunction.enc)))))) := by
  intro left h0 h1 hf S
  obtain ⟨hf1, hf2⟩ := fit_sl hf
  rw [List.length_map] at hf1
  refine acall_cw (rs := [.tmp 4]) Tryz.checked.mixed Tryz.func66 Tryz.ntmps66 rfl rfl rfl rfl rfl ?_
  simp -implicitDefEqProofs (disch := omega) only [go_sem]
  with_reducible refine split2 (fun hb => ?_) (fun hb => ?_) <;> have h := hb <;> (try simp only [wf_preprocess] at h) <;> simp -implicitDefEqProofs (disch := omega) only [go_sem, hb] <;> (repeat (with_reducible refine And.intro ?_ ?_; focus first | omega | rfl | assumption | exact ⟨_, rfl, rfl⟩ | (simp; omega) | (simp; done)))
  · exact int_eq (sub1_no (by omega)).symm
  refine loop_at (ι := Nat × Int) Tryz.checked.mixed rfl [0, 1, 5] (fun y => [.c (.d (.sl (xs.map MFunction.enc))), .c (.d (.i .i64 y.2)), .c (.d (.i .i64 y.1))]) (fun _ => [] :: S)
    (fun y => y.1 ≤ xs.length ∧ 0 ≤ y.2 ∧ y.2 ≤ 1048576 ∧ sub1 y.2 (szRows ((xs.map MFunction.enc).drop y.1)) = sub1 left (xs.length + szRows (xs.map MFunction.enc))) (fun y => xs.length - y.1) (0, left - xs.length) rfl rfl ⟨by omega, by omega, by omega, ?_⟩ ?_
  · unfold sub1
    rw [List.drop_zero]
    split <;> split <;> omega
  rintro ⟨i, l⟩ ⟨p1, p2, p3, p4⟩
  simp only at p1 p2 p3 p4
  simp -implicitDefEqProofs (disch := omega) only [go_sem]
  with_reducible refine split2 (fun hb => ?_) (fun hb => ?_) <;> have h := hb <;> (try simp only [wf_preprocess] at h) <;> simp -implicitDefEqProofs (disch := omega) only [go_sem, hb] <;> (repeat (with_reducible refine And.intro ?_ ?_; focus first | omega | rfl | assumption | exact ⟨_, rfl, rfl⟩ | (simp; omega) | (simp; done)))
  · have hi : i < xs.length := by omega
    rw [List.drop_eq_getElem_cons (by rw [List.length_map]; exact hi), szRows, List.getElem_map, MFunction.sz_def] at p4
    (repeat (with_reducible refine And.intro ?_ ?_; focus first | omega | rfl | assumption | exact ⟨_, rfl, rfl⟩ | (simp; omega) | (simp; done)))
    refine call_w (szFunction_ok xs[i] _ (by omega) (by omega) (hf2 _ (List.mem_map_of_mem (List.getElem_mem hi)))) ?_
    simp -implicitDefEqProofs (disch := omega) only [go_sem]
    with_reducible refine split2 (fun hb => ?_) (fun hb => ?_) <;> have h := hb <;> (try simp only [wf_preprocess] at h) <;> simp -implicitDefEqProofs (disch := omega) only [go_sem, hb] <;> (repeat (with_reducible refine And.intro ?_ ?_; focus first | omega | rfl | assumption | exact ⟨_, rfl, rfl⟩ | (simp; omega) | (simp; done)))
    · have h' := sub1_neg h
      rw [← p4, sub1_no (by omega)]
    · have h' := sub1_nn h
      refine inv_at (i + 1, sub1 l _) (by simp only; omega) rfl rfl ⟨by simp only; omega, by simp only; omega, by simp only; omega, ?_⟩
      simp only
      rw [← p4, h'.1]
      unfold sub1
      split <;> split <;> omega
  · have hi : i = xs.length := by omega
    rw [hi, List.drop_of_length_le (by simp), szRows, sub1_yes (by omega)] at p4
    rw [← p4]
    refine int_eq ?_
    omega
theorem toFunction_ok (x : MFunction) : x.sz ≤ 1048576 → PCall Tryz.prog 148 [x.v] x.v := by
  intro hsz S
  simp only [MFunction.sz, MFunction.enc_eq, szRow, szRow_append, D.sz, List.length_map, MExpr.sz_def, MType.sz_def] at hsz
  refine acall_cw (rs := [.cell 2 145]) Tryz.checked.mixed Tryz.func148 Tryz.ntmps148 rfl rfl rfl rfl rfl ?_
  simp -implicitDefEqProofs (disch := omega) only [go_sem]
  refine call_w (toStringS_ok x.fVars (by omega)) ?_
  simp -implicitDefEqProofs (disch := omega) only [go_sem]
  refine call_w (toBoundS_ok x.fWhere (by omega)) ?_
  simp -implicitDefEqProofs (disch := omega) only [go_sem]
  refine call_w (toParamS_ok x.fParams (by omega)) ?_
  simp -implicitDefEqProofs (disch := omega) only [go_sem]
  refine call_w (toType_ok x.fResult (by omega)) ?_
  simp -implicitDefEqProofs (disch := omega) only [go_sem]
  refine call_w (toExpr_ok x.fBody (by omega)) ?_
  simp -implicitDefEqProofs (disch := omega) only [go_sem]
theorem toFunctionS_ok (xs : List MFunction) : xs.length + szRows (xs.map MFunction.enc) ≤ 1048576 → PCall Tryz.prog 77 [.c (.d (.sl (xs.map MFunction.enc)))] (.c (.d (.sl (xs.map MFunction.enc)))) := by
  intro hsz S
  refine acall_cw (rs := [.tmp 2]) Tryz.checked.mixed Tryz.func77 Tryz.ntmps77 rfl rfl rfl rfl rfl ?_
  simp -implicitDefEqProofs (disch := omega) only [go_sem]
  (repeat (with_reducible refine And.intro ?_ ?_; focus first | omega | rfl | assumption | exact ⟨_, rfl, rfl⟩ | (simp; omega) | (simp; done)))
  refine loop_at (ι := Nat × List (List D)) Tryz.checked.mixed rfl [0, 3, 4] (fun y => [.c (.d (.sl (xs.map MFunction.enc))), .c (.msl (0, 0)), .c (.d (.i .i64 y.1))]) (fun y => [.mrow 16 y.2] :: S)
    (fun y => y.1 ≤ xs.length ∧ Filled 16 y.1 y.2 (xs.map MFunction.enc)) (fun y => xs.length - y.1) (0, _) rfl rfl ⟨Nat.zero_le _, Filled.start (by simp) rfl⟩ ?_
  rintro ⟨i, R⟩ ⟨p1, p2⟩
  simp only at p1 p2
  simp -implicitDefEqProofs (disch := omega) only [go_sem]
  with_reducible refine split2 (fun hb => ?_) (fun hb => ?_) <;> have h := hb <;> (try simp only [wf_preprocess] at h) <;> simp -implicitDefEqProofs (disch := omega) only [go_sem, hb] <;> (repeat (with_reducible refine And.intro ?_ ?_; focus first | omega | rfl | assumption | exact ⟨_, rfl, rfl⟩ | (simp; omega) | (simp; done)))
  · have hi : i < xs.length := by omega
    have hx : xs[i].sz ≤ szRows (xs.map MFunction.enc) := szRows_mem (List.mem_map_of_mem (List.getElem_mem hi))
    (repeat (with_reducible refine And.intro ?_ ?_; focus first | omega | rfl | assumption | exact ⟨_, rfl, rfl⟩ | (simp; omega) | (simp; done)))
    refine call_w (toFunction_ok xs[i] (by omega)) ?_
    simp -implicitDefEqProofs (disch := omega) only [go_sem]
    have hR := p2.1
    rw [List.length_map] at hR
    (repeat (with_reducible refine And.intro ?_ ?_; focus first | omega | rfl | assumption | exact ⟨_, rfl, rfl⟩ | (simp; omega) | (simp; done)))
    refine inv_at (i + 1, _) (by simp only; omega) rfl rfl ⟨by simp only; omega, p2.step (by simp [hi, MExpr.enc_eq, MFunction.enc_eq, MType.enc_eq]) rfl⟩
  · have hi : i = xs.length := by omega
    rw [p2.done (by rw [List.length_map]; omega)]
theorem eqFunction_ok (x : MFunction) : ∀ y : MFunction, x.sz ≤ 1048576 → PCall Tryz.prog 167 [x.v, y.v] (.c (.d (.b (dec (x = y))))) := by
  intro y hsz S
  simp only [MFunction.sz, MFunction.enc_eq, szRow, szRow_append, D.sz, List.length_map, MExpr.sz_def, MType.sz_def] at hsz
  refine acall_cw (rs := [.tmp 4]) Tryz.checked.mixed Tryz.func167 Tryz.ntmps167 rfl rfl rfl rfl rfl ?_
  simp -implicitDefEqProofs (disch := omega) only [go_sem]
  with_reducible refine split2 (fun hb => ?_) (fun hb => ?_) <;> have h := hb <;> (try simp only [wf_preprocess] at h) <;> simp -implicitDefEqProofs (disch := omega) only [go_sem, hb] <;> (repeat (with_reducible refine And.intro ?_ ?_; focus first | omega | rfl | assumption | exact ⟨_, rfl, rfl⟩ | (simp; omega) | (simp; done)))
  · exact bool_eq (dec_false (fun e => h (by rw [e]))).symm
  have eName := h
  clear h
  refine call_w (eqStringS_ok x.fVars _ (by omega)) ?_
  simp -implicitDefEqProofs (disch := omega) only [go_sem]
  with_reducible refine split2 (fun hb => ?_) (fun hb => ?_) <;> have h := hb <;> (try simp only [wf_preprocess] at h) <;> simp -implicitDefEqProofs (disch := omega) only [go_sem, hb] <;> (repeat (with_reducible refine And.intro ?_ ?_; focus first | omega | rfl | assumption | exact ⟨_, rfl, rfl⟩ | (simp; omega) | (simp; done)))
  · exact bool_eq (dec_false (fun e => h (by rw [e]))).symm
  have eVars := h
  clear h
  refine call_w (eqBoundS_ok x.fWhere _ (by omega)) ?_
  simp -implicitDefEqProofs (disch := omega) only [go_sem]
  with_reducible refine split2 (fun hb => ?_) (fun hb => ?_) <;> have h := hb <;> (try simp only [wf_preprocess] at h) <;> simp -implicitDefEqProofs (disch := omega) only [go_sem, hb] <;> (repeat (with_reducible refine And.intro ?_ ?_; focus first | omega | rfl | assumption | exact ⟨_, rfl, rfl⟩ | (simp; omega) | (simp; done)))
  · exact bool_eq (dec_false (fun e => h (by rw [e]))).symm
  have eWhere := h
  clear h
  refine call_w (eqParamS_ok x.fParams _ (by omega)) ?_
  simp -implicitDefEqProofs (disch := omega) only [go_sem]
  with_reducible refine split2 (fun hb => ?_) (fun hb => ?_) <;> have h := hb <;> (try simp only [wf_preprocess] at h) <;> simp -implicitDefEqProofs (disch := omega) only [go_sem, hb] <;> (repeat (with_reducible refine And.intro ?_ ?_; focus first | omega | rfl | assumption | exact ⟨_, rfl, rfl⟩ | (simp; omega) | (simp; done)))
  · exact bool_eq (dec_false (fun e => h (by rw [e]))).symm
  have eParams := h
  clear h
  refine call_w (eqType_ok x.fResult _ (by omega)) ?_
  simp -implicitDefEqProofs (disch := omega) only [go_sem]
  with_reducible refine split2 (fun hb => ?_) (fun hb => ?_) <;> have h := hb <;> (try simp only [wf_preprocess] at h) <;> simp -implicitDefEqProofs (disch := omega) only [go_sem, hb] <;> (repeat (with_reducible refine And.intro ?_ ?_; focus first | omega | rfl | assumption | exact ⟨_, rfl, rfl⟩ | (simp; omega) | (simp; done)))
  · exact bool_eq (dec_false (fun e => h (by rw [e]))).symm
  have eResult := h
  clear h
  refine call_w (eqExpr_ok x.fBody _ (by omega)) ?_
  simp -implicitDefEqProofs (disch := omega) only [go_sem]
  with_reducible refine split2 (fun hb => ?_) (fun hb => ?_) <;> have h := hb <;> (try simp only [wf_preprocess] at h) <;> simp -implicitDefEqProofs (disch := omega) only [go_sem, hb] <;> (repeat (with_reducible refine And.intro ?_ ?_; focus first | omega | rfl | assumption | exact ⟨_, rfl, rfl⟩ | (simp; omega) | (simp; done)))
  · exact bool_eq (dec_false (fun e => h (by rw [e]))).symm
  have eBody := h
  clear h
  exact bool_eq (dec_true (MFunction.ext' eName eVars eWhere eParams eResult eBody)).symm
theorem eqFunctionS_ok (xs : List MFunction) : ∀ ys : List MFunction, xs.length + szRows (xs.map MFunction.enc) ≤ 1048576 → PCall Tryz.prog 90 [.c (.d (.sl (xs.map MFunction.enc))), .c (.d (.sl (ys.map MFunction.enc)))] (.c (.d (.b (dec (xs = ys))))) := by
  intro ys hsz S
  refine acall_cw (rs := [.tmp 4]) Tryz.checked.mixed Tryz.func90 Tryz.ntmps90 rfl rfl rfl rfl rfl ?_
  simp -implicitDefEqProofs (disch := omega) only [go_sem]
  with_reducible refine split2 (fun hb => ?_) (fun hb => ?_) <;> have h := hb <;> (try simp only [wf_preprocess] at h) <;> simp -implicitDefEqProofs (disch := omega) only [go_sem, hb] <;> (repeat (with_reducible refine And.intro ?_ ?_; focus first | omega | rfl | assumption | exact ⟨_, rfl, rfl⟩ | (simp; omega) | (simp; done)))
  · exact bool_eq (dec_false (fun e => h (by rw [e]))).symm
  have hl : xs.length = ys.length := by omega
  refine loop_at (ι := Nat) Tryz.checked.mixed rfl [0, 1, 5] (fun y => [.c (.d (.sl (xs.map MFunction.enc))), .c (.d (.sl (ys.map MFunction.enc))), .c (.d (.i .i64 y))]) (fun y => [] :: S)
    (fun i => i ≤ xs.length ∧ ∀ j, j < i → xs[j]? = ys[j]?) (fun y => xs.length - y) 0 rfl rfl ⟨Nat.zero_le _, fun j h => by omega⟩ ?_
  rintro i ⟨p1, p2⟩
  simp -implicitDefEqProofs (disch := omega) only [go_sem]
  with_reducible refine split2 (fun hb => ?_) (fun hb => ?_) <;> have h := hb <;> (try simp only [wf_preprocess] at h) <;> simp -implicitDefEqProofs (disch := omega) only [go_sem, hb] <;> (repeat (with_reducible refine And.intro ?_ ?_; focus first | omega | rfl | assumption | exact ⟨_, rfl, rfl⟩ | (simp; omega) | (simp; done)))
  · have hi : i < xs.length := by omega
    have hi' : i < ys.length := by omega
    have hx : xs[i].sz ≤ szRows (xs.map MFunction.enc) := szRows_mem (List.mem_map_of_mem (List.getElem_mem hi))
    (repeat (with_reducible refine And.intro ?_ ?_; focus first | omega | rfl | assumption | exact ⟨_, rfl, rfl⟩ | (simp; omega) | (simp; done)))
    refine call_w (eqFunction_ok xs[i] ys[i] (by omega)) ?_
    simp -implicitDefEqProofs (disch := omega) only [go_sem]
    with_reducible refine split2 (fun hb => ?_) (fun hb => ?_) <;> have h := hb <;> (try simp only [wf_preprocess] at h) <;> simp -implicitDefEqProofs (disch := omega) only [go_sem, hb] <;> (repeat (with_reducible refine And.intro ?_ ?_; focus first | omega | rfl | assumption | exact ⟨_, rfl, rfl⟩ | (simp; omega) | (simp; done)))
    · exact bool_eq (dec_false (fun e => h (by simp only [e]))).symm
    refine inv_at (i + 1) (by omega) rfl rfl ⟨by omega, fun j hj => ?_⟩
    by_cases e : j = i
    · subst e
      rw [List.getElem?_eq_getElem hi, List.getElem?_eq_getElem hi', h]
    · exact p2 j (by omega)
  · have hi : i = xs.length := by omega
    refine bool_eq (dec_true (List.ext_getElem? fun j => ?_)).symm
    by_cases hj : j < i
    · exact p2 j hj
    · rw [List.getElem?_eq_none (by omega), List.getElem?_eq_none (by omega)]
end Go.Proofs.YtnleocfkdidhoaaGreat

namespace Go.Ab
def paramN (f : MFunction) : List (List UInt8) := f.fParams.map MParam.fName
def paramT (f : MFunction) : List MType := f.fParams.map MParam.fType
noncomputable def validFn (f : MFunction) : Bool :=
  validName f.fName && (dec (f.fVars.length ≤ 3) && (namesOk f.fVars && (boundsOk f.fVars f.fWhere && (dec (f.fParams.length ≤ 5) && (typesOver f.fVars (paramT f) && (typeOver f.fVars f.fResult && bodyOk (paramN f) f.fBody))))))
theorem MFunction.sum (x : MFunction) : x.fName.length + (x.fVars.length + szRows (x.fVars.map encS)) + (x.fWhere.length + szRows (x.fWhere.map MBound.enc)) + (x.fParams.length + szRows (x.fParams.map MParam.enc)) + x.fResult.sz + x.fBody.sz ≤ x.sz := by
  simp only [MFunction.sz, MFunction.enc_eq, szRow, szRow_append, D.sz, List.length_map, MType.sz_def, MExpr.sz_def]
  omega
theorem MParam.sum (x : MParam) : x.fName.length + x.fType.sz ≤ x.sz := by
  simp only [MParam.sz, MParam.enc_eq, szRow, szRow_append, D.sz, List.length_map, MType.sz_def]
  omega
theorem mem_szP {xs : List MParam} {t : MParam} (h : t ∈ xs) : t.sz ≤ szRows (xs.map MParam.enc) := szRows_mem (List.mem_map_of_mem h)
end Go.Ab
namespace Go.Proofs.YtnleocfkdidhoaaGreat
open Go Go.Ab
theorem paramNames_ok (ps : List MParam) (hl : ps.length ≤ 1073741823) : PCall Tryz.prog 165 [.c (.d (.sl (ps.map MParam.enc)))] (.c (.d (.sl ((ps.map MParam.fName).map encS)))) := fun S => by
  refine acall_cw (rs := [.tmp 2]) Tryz.checked.mixed Tryz.func165 Tryz.ntmps165 rfl rfl rfl rfl rfl ?_
  simp -implicitDefEqProofs (disch := omega) only [go_sem]
  (repeat (with_reducible refine And.intro ?_ ?_; focus first | omega | rfl | assumption | exact ⟨_, rfl, rfl⟩ | (simp; omega) | (simp; done)))
  refine aw_tok 3 1 [] rfl (by simp) ?_
  refine loop_at (ι := Nat × List (List UInt8)) Tryz.checked.mixed rfl [3, 7, 8, 9] (fun y => [.c (.tsl (0, 0) (y.2.map encS)), .c (.d (.sl (ps.map MParam.enc))), .c (.d (.i .i64 ps.length)), .c (.d (.i .i64 y.1))]) (fun y => [.tok 1 (y.2.map encS)] :: S)
    (fun y => y.1 ≤ ps.length ∧ y.2 = (ps.map MParam.fName).take y.1) (fun y => ps.length - y.1) (0, []) rfl rfl ⟨Nat.zero_le _, rfl⟩ ?_
  rintro ⟨i, names⟩ ⟨p1, p2⟩
  simp only at p1 p2
  have pl : names.length ≤ ps.length := by rw [p2]; simp; omega
  simp -implicitDefEqProofs (disch := omega) only [go_sem]
  with_reducible refine split2 (fun hb => ?_) (fun hb => ?_) <;> have h := hb <;> (try simp only [wf_preprocess] at h) <;> simp -implicitDefEqProofs (disch := omega) only [go_sem, hb] <;> (repeat (with_reducible refine And.intro ?_ ?_; focus first | omega | rfl | assumption | exact ⟨_, rfl, rfl⟩ | (simp; omega) | (simp; done)))
  · have hi : i < ps.length := by omega
    (repeat (with_reducible refine And.intro ?_ ?_; focus first | omega | rfl | assumption | exact ⟨_, rfl, rfl⟩ | (simp; omega) | (simp; done)))
    rw [show List.map encS names ++ [[D.s ps[i].fName]] = List.map encS (names ++ [ps[i].fName]) by simp [encS]]
    exact inv_drop 1 (by decide) (i + 1, names ++ [ps[i].fName]) (by simp only; omega) rfl rfl rfl rfl ⟨by simp only; omega, by simp only; rw [p2, take_snoc (by simpa using hi)]; simp⟩
  · rw [List.take_of_length_le (by simp; omega)] at p2
    rw [p2]
theorem paramTypes_ok (ps : List MParam) (hl : ps.length ≤ 1073741823) : PCall Tryz.prog 164 [.c (.d (.sl (ps.map MParam.enc)))] (.c (.d (.sl ((ps.map MParam.fType).map MType.enc)))) := fun S => by
  refine acall_cw (rs := [.tmp 2]) Tryz.checked.mixed Tryz.func164 Tryz.ntmps164 rfl rfl rfl rfl rfl ?_
  simp -implicitDefEqProofs (disch := omega) only [go_sem]
  (repeat (with_reducible refine And.intro ?_ ?_; focus first | omega | rfl | assumption | exact ⟨_, rfl, rfl⟩ | (simp; omega) | (simp; done)))
  refine aw_tok 3 3 [] rfl (by simp) ?_
  refine loop_at (ι := Nat × List MType) Tryz.checked.mixed rfl [3, 7, 8, 9] (fun y => [.c (.tsl (0, 0) (y.2.map MType.enc)), .c (.d (.sl (ps.map MParam.enc))), .c (.d (.i .i64 ps.length)), .c (.d (.i .i64 y.1))]) (fun y => [.tok 3 (y.2.map MType.enc)] :: S)
    (fun y => y.1 ≤ ps.length ∧ y.2 = (ps.map MParam.fType).take y.1) (fun y => ps.length - y.1) (0, []) rfl rfl ⟨Nat.zero_le _, rfl⟩ ?_
  rintro ⟨i, names⟩ ⟨p1, p2⟩
  simp only at p1 p2
  have pl : names.length ≤ ps.length := by rw [p2]; simp; omega
  simp -implicitDefEqProofs (disch := omega) only [go_sem]
  with_reducible refine split2 (fun hb => ?_) (fun hb => ?_) <;> have h := hb <;> (try simp only [wf_preprocess] at h) <;> simp -implicitDefEqProofs (disch := omega) only [go_sem, hb] <;> (repeat (with_reducible refine And.intro ?_ ?_; focus first | omega | rfl | assumption | exact ⟨_, rfl, rfl⟩ | (simp; omega) | (simp; done)))
  · have hi : i < ps.length := by omega
    (repeat (with_reducible refine And.intro ?_ ?_; focus first | omega | rfl | assumption | exact ⟨_, rfl, rfl⟩ | (simp; omega) | (simp; done)))
    rw [show List.map MType.enc names ++ [[D.i .i64 ps[i].fType.fKind, D.s ps[i].fType.fName, D.sl (ps[i].fType.fArgs.map MType.enc)]] = List.map MType.enc (names ++ [ps[i].fType]) by simp [MType.enc_eq]]
    exact inv_drop 1 (by decide) (i + 1, names ++ [ps[i].fType]) (by simp only; omega) rfl rfl rfl rfl ⟨by simp only; omega, by simp only; rw [p2, take_snoc (by simpa using hi)]; simp⟩
  · rw [List.take_of_length_le (by simp; omega)] at p2
    rw [p2]
theorem implValidFn_ok (f : MFunction) (hsz : f.sz ≤ 4194304) : PCall Tryz.prog 85 [f.v] (.c (.d (.b (validFn f)))) := fun S => by
  have hs := MFunction.sum f
  have hV : ∀ s ∈ f.fVars, s.length ≤ 4194304 := fun s h => by have := strs_b h; omega
  have hW : ∀ b ∈ f.fWhere, b.sz ≤ 4194304 := fun b h => by have := mem_szB h; omega
  have hP : ∀ p ∈ f.fParams, p.sz ≤ 4194304 := fun m h => by have := mem_szP h; omega
  have hpt : ∀ t ∈ f.fParams.map MParam.fType, t.sz ≤ 4194304 := fun t h => by
    obtain ⟨p, hp, e⟩ := List.mem_map.1 h
    have := hP p hp
    have := MParam.sum p
    rw [← e]; omega
  have hpn : ∀ s ∈ f.fParams.map MParam.fName, s.length ≤ 4194304 := fun t h => by
    obtain ⟨p, hp, e⟩ := List.mem_map.1 h
    have := hP p hp
    have := MParam.sum p
    rw [← e]; omega
  have hpl : (f.fParams.map MParam.fName).length = f.fParams.length := by simp
  have hpl' : (f.fParams.map MParam.fType).length = f.fParams.length := by simp
  refine acall_cw (rs := [.tmp 2]) Tryz.checked.mixed Tryz.func85 Tryz.ntmps85 rfl rfl rfl rfl rfl ?_
  simp -implicitDefEqProofs (disch := omega) only [go_sem]
  repeat' (first
    | with_reducible refine split2 (fun hb => ?_) (fun hb => ?_) <;> have h := hb <;> (try simp only [wf_preprocess] at h) <;> simp -implicitDefEqProofs (disch := omega) only [go_sem, hb] <;> (repeat (with_reducible refine And.intro ?_ ?_; focus first | omega | rfl | assumption | exact ⟨_, rfl, rfl⟩ | (simp; omega) | (simp; done)))
    | ((with_reducible show CallG _ _ 78 _ _ _ _); refine call_w (implValidName_ok f.fName (by omega)) ?_; simp -implicitDefEqProofs (disch := omega) only [go_sem])
    | ((with_reducible show CallG _ _ 79 _ _ _ _); refine call_w (areNames_ok f.fVars (by omega) hV) ?_; simp -implicitDefEqProofs (disch := omega) only [go_sem])
    | ((with_reducible show CallG _ _ 161 _ _ _ _); refine call_w (areBounds_ok f.fWhere f.fVars (by omega) hW (by omega)) ?_; simp -implicitDefEqProofs (disch := omega) only [go_sem])
    | ((with_reducible show CallG _ _ 164 _ _ _ _); refine call_w (paramTypes_ok f.fParams (by omega)) ?_; simp -implicitDefEqProofs (disch := omega) only [go_sem])
    | ((with_reducible show CallG _ _ 157 _ _ _ _); refine call_w (areTypesOver_ok (f.fParams.map MParam.fType) f.fVars (by omega) hpt (by omega)) ?_; simp -implicitDefEqProofs (disch := omega) only [go_sem])
    | ((with_reducible show CallG _ _ 158 _ _ _ _); refine call_w (isTypeOver_ok f.fResult f.fVars (by omega) (by omega)) ?_; simp -implicitDefEqProofs (disch := omega) only [go_sem])
    | ((with_reducible show CallG _ _ 165 _ _ _ _); refine call_w (paramNames_ok f.fParams (by omega)) ?_; simp -implicitDefEqProofs (disch := omega) only [go_sem])
    | ((with_reducible show CallG _ _ 163 _ _ _ _); refine call_w (isBody_ok (f.fParams.map MParam.fName) f.fBody (by omega) hpn (by omega)) ?_; simp -implicitDefEqProofs (disch := omega) only [go_sem])
    | (refine bool_eq ?_; unfold validFn paramT paramN; grind [of_dec, of_dec_false, dec_true, dec_false]))
theorem specValidFn_ok (f : MFunction) (hsz : f.sz ≤ 4194304) : PCall Tryz.prog 144 [f.v] (.c (.d (.b (validFn f)))) := fun S => by
  have hs := MFunction.sum f
  have hV : ∀ s ∈ f.fVars, s.length ≤ 4194304 := fun s h => by have := strs_b h; omega
  have hW : ∀ b ∈ f.fWhere, b.sz ≤ 4194304 := fun b h => by have := mem_szB h; omega
  have hP : ∀ p ∈ f.fParams, p.sz ≤ 4194304 := fun m h => by have := mem_szP h; omega
  have hpn : ∀ s ∈ paramN f, s.length ≤ 4194304 := fun t h => by
    obtain ⟨p, hp, e⟩ := List.mem_map.1 h
    have := hP p hp
    have := MParam.sum p
    rw [← e]; omega
  have hnl : (paramN f).length = f.fParams.length := by simp [paramN]
  have bad : ∀ i, ∀ hi : i < f.fParams.length, typeOver f.fVars f.fParams[i].fType = false → V.c (.d (.b false)) = V.c (.d (.b (validFn f))) := fun i hi h => bool_eq (by
    have : typesOver f.fVars (paramT f) = false := Bool.eq_false_iff.2 fun hx => by
      have := List.all_eq_true.1 hx f.fParams[i].fType (List.mem_map_of_mem (List.getElem_mem hi))
      rw [h] at this; cases this
    unfold validFn
    rw [this]; simp)
  refine acall_cw (rs := [.tmp 2]) Tryz.checked.mixed Tryz.func144 Tryz.ntmps144 rfl rfl rfl rfl rfl ?_
  simp -implicitDefEqProofs (disch := omega) only [go_sem]
  (repeat (with_reducible refine And.intro ?_ ?_; focus first | omega | rfl | assumption | exact ⟨_, rfl, rfl⟩ | (simp; omega) | (simp; done)))
  refine aw_tok 3 1 [] rfl (by simp) ?_
  refine loop_at (ι := Nat × List (List UInt8)) Tryz.checked.mixed rfl [1, 3, 4] (fun y => [.c (.ptr (0, 0) 0), .c (.tsl (0, 1) (y.2.map encS)), .c (.d (.i .i64 y.1))]) (fun y => [.box (f.enc.map .d), .tok 1 (y.2.map encS)] :: S)
    (fun y => y.1 ≤ f.fParams.length ∧ y.2 = (paramN f).take y.1 ∧ ∀ j, ∀ hj : j < f.fParams.length, j < y.1 → typeOver f.fVars f.fParams[j].fType = true) (fun y => f.fParams.length - y.1) (0, []) rfl ?_ ⟨Nat.zero_le _, rfl, fun j _ h => by simp only at h; omega⟩ ?_
  · simp -implicitDefEqProofs (disch := omega) only [go_sem]
  rintro ⟨i, names⟩ ⟨p1, p2, p3⟩
  simp only at p1 p2 p3
  have pl : names.length ≤ f.fParams.length := by rw [p2]; simp [paramN]; omega
  simp -implicitDefEqProofs (disch := omega) only [go_sem]
  with_reducible refine split2 (fun hb => ?_) (fun hb => ?_) <;> have h := hb <;> (try simp only [wf_preprocess] at h) <;> simp -implicitDefEqProofs (disch := omega) only [go_sem, hb] <;> (repeat (with_reducible refine And.intro ?_ ?_; focus first | omega | rfl | assumption | exact ⟨_, rfl, rfl⟩ | (simp; omega) | (simp; done)))
  · have hi : i < f.fParams.length := by omega
    have hp := hP _ (List.getElem_mem hi)
    have hps := MParam.sum f.fParams[i]
    (repeat (with_reducible refine And.intro ?_ ?_; focus first | omega | rfl | assumption | exact ⟨_, rfl, rfl⟩ | (simp; omega) | (simp; done)))
    refine call_w (l13Vars_ok f.fParams[i].fType f.fVars (by omega) (by omega)) ?_
    simp -implicitDefEqProofs (disch := omega) only [go_sem] <;> (repeat (with_reducible refine And.intro ?_ ?_; focus first | omega | rfl | assumption | exact ⟨_, rfl, rfl⟩ | (simp; omega) | (simp; done)))
    with_reducible refine split2 (fun hb => ?_) (fun hb => ?_) <;> have h := hb <;> (try simp only [wf_preprocess] at h) <;> simp -implicitDefEqProofs (disch := omega) only [go_sem, hb] <;> (repeat (with_reducible refine And.intro ?_ ?_; focus first | omega | rfl | assumption | exact ⟨_, rfl, rfl⟩ | (simp; omega) | (simp; done)))
    · exact bad i hi h
    have k3 := h
    (repeat (with_reducible refine And.intro ?_ ?_; focus first | omega | rfl | assumption | exact ⟨_, rfl, rfl⟩ | (simp; omega) | (simp; done)))
    rw [show List.map encS names ++ [[D.s f.fParams[i].fName]] = List.map encS (names ++ [f.fParams[i].fName]) by simp [encS]]
    exact inv_at (i + 1, names ++ [f.fParams[i].fName]) (by simp only; omega) rfl rfl ⟨by simp only; omega, by simp only; rw [p2, take_snoc (by simpa [paramN] using hi)]; simp [paramN], fun j hj hji => by
      simp only at hji
      by_cases e : j = i
      · subst e; exact k3
      · exact p3 j hj (by omega)⟩
  have hi : i = f.fParams.length := by omega
  have hn : names = paramN f := by rw [p2, List.take_of_length_le (by simp [paramN]; omega)]
  have hall : typesOver f.fVars (paramT f) = true := List.all_eq_true.2 fun c hc => by
    obtain ⟨p, hp, e⟩ := List.mem_map.1 hc
    obtain ⟨j, hj, e'⟩ := List.getElem_of_mem hp
    rw [← e, ← e']; exact p3 j hj (by omega)
  clear p2 p3 bad
  subst hn
  repeat' (first
    | with_reducible refine split2 (fun hb => ?_) (fun hb => ?_) <;> have h := hb <;> (try simp only [wf_preprocess] at h) <;> simp -implicitDefEqProofs (disch := omega) only [go_sem, hb] <;> (repeat (with_reducible refine And.intro ?_ ?_; focus first | omega | rfl | assumption | exact ⟨_, rfl, rfl⟩ | (simp; omega) | (simp; done)))
    | ((with_reducible show CallG _ _ 68 _ _ _ _); refine call_w (specValidName_ok f.fName (by omega)) ?_; simp -implicitDefEqProofs (disch := omega) only [go_sem])
    | ((with_reducible show CallG _ _ 69 _ _ _ _); refine call_w (l13Words_ok f.fVars 3 (by omega) hV) ?_; simp -implicitDefEqProofs (disch := omega) only [go_sem])
    | ((with_reducible show CallG _ _ 215 _ _ _ _); refine call_w (l13Where_ok f.fWhere f.fVars (by omega) hW (by omega)) ?_; simp -implicitDefEqProofs (disch := omega) only [go_sem])
    | ((with_reducible show CallG _ _ 69 _ _ _ _); refine call_w (l13Words_ok (paramN f) 5 (by omega) hpn) ?_; simp -implicitDefEqProofs (disch := omega) only [go_sem])
    | ((with_reducible show CallG _ _ 213 _ _ _ _); refine call_w (l13Vars_ok f.fResult f.fVars (by omega) (by omega)) ?_; simp -implicitDefEqProofs (disch := omega) only [go_sem])
    | ((with_reducible show CallG _ _ 218 _ _ _ _); refine call_w (l13Body_ok (paramN f) f.fBody (by omega) (by omega)) ?_; simp -implicitDefEqProofs (disch := omega) only [go_sem])
    | (refine bool_eq ?_; unfold validFn bodyOk; grind [of_dec, of_dec_false, dec_true, dec_false]))
end Go.Proofs.YtnleocfkdidhoaaGreat

namespace Go.Ab
theorem MDataType.bounds {x : MDataType} (h : x.sz ≤ 4194304) : x.fName.length ≤ 4194304 ∧ x.fVars.length ≤ 4194304 ∧ x.fConstructors.length ≤ 4194304 ∧ ∀ s ∈ x.fVars, s.length ≤ 4194304 := by
  simp only [MDataType.sz, MDataType.enc_eq, szRow, szRow_append, D.sz, List.length_map] at h
  refine ⟨by omega, by omega, by omega, fun s hs => ?_⟩
  have := strs_b hs
  omega
theorem MDataType.con_b {x : MDataType} {i : Nat} (hi : i < x.fConstructors.length) (h : x.sz ≤ 4194304) : x.fConstructors[i].sz ≤ 4194304 := by
  have hx : x.fConstructors[i].sz ≤ szRows (x.fConstructors.map MConstructor.enc) := szRows_mem (List.mem_map_of_mem (List.getElem_mem hi))
  simp only [MDataType.sz, MDataType.enc_eq, szRow, szRow_append, D.sz, List.length_map] at h
  omega
theorem MConstructor.bounds {x : MConstructor} (h : x.sz ≤ 4194304) : x.fName.length ≤ 4194304 ∧ x.fFields.length ≤ 4194304 ∧ ∀ t ∈ x.fFields, t.sz ≤ 4194304 := by
  simp only [MConstructor.sz, MConstructor.enc_eq, szRow, szRow_append, D.sz, List.length_map] at h
  refine ⟨by omega, by omega, fun t ht => ?_⟩
  have hx : t.sz ≤ szRows (x.fFields.map MType.enc) := szRows_mem (List.mem_map_of_mem ht)
  omega
noncomputable def consOk (vars : List (List UInt8)) (c : MConstructor) : Bool := dec (c.fFields.length ≤ 4) && typesOver vars c.fFields
noncomputable def consNames (d : MDataType) : List (List UInt8) := d.fConstructors.map MConstructor.fName
noncomputable def validData (d : MDataType) : Bool :=
  validName d.fName && (dec (d.fVars.length ≤ 3) && (namesOk d.fVars && (dec (1 ≤ d.fConstructors.length) && (dec (d.fConstructors.length ≤ 5) && (d.fConstructors.all (consOk d.fVars) && namesOk (consNames d))))))
end Go.Ab
namespace Go.Proofs.YtnleocfkdidhoaaGreat
open Go Go.Ab
theorem specValidData_ok (d : MDataType) (hsz : d.sz ≤ 4194304) : PCall Tryz.prog 142 [d.v] (.c (.d (.b (validData d)))) := fun S => by
  have hb0 := MDataType.bounds hsz
  have bad : ∀ i, ∀ hi : i < d.fConstructors.length, consOk d.fVars d.fConstructors[i] = false → validData d = false := fun i hi h => by
    have : d.fConstructors.all (consOk d.fVars) = false := Bool.eq_false_iff.2 fun hx => by
      rw [List.all_eq_true.1 hx _ (List.getElem_mem hi)] at h; cases h
    unfold validData
    rw [this]; simp
  refine acall_cw (rs := [.tmp 2]) Tryz.checked.mixed Tryz.func142 Tryz.ntmps142 rfl rfl rfl rfl rfl ?_
  simp -implicitDefEqProofs (disch := omega) only [go_sem]
  (repeat (with_reducible refine And.intro ?_ ?_; focus first | omega | rfl | assumption | exact ⟨_, rfl, rfl⟩ | (simp; omega) | (simp; done)))
  refine aw_tok 3 1 [] rfl (by simp) ?_
  refine loop_at (ι := Nat × List (List UInt8)) Tryz.checked.mixed rfl [1, 3, 4] (fun y => [.c (.ptr (0, 0) 0), .c (.tsl (0, 1) (y.2.map encS)), .c (.d (.i .i64 y.1))]) (fun y => [.box (d.enc.map .d), .tok 1 (y.2.map encS)] :: S)
    (fun y => y.1 ≤ d.fConstructors.length ∧ y.2 = (consNames d).take y.1 ∧ ∀ j, ∀ hj : j < d.fConstructors.length, j < y.1 → consOk d.fVars d.fConstructors[j] = true) (fun y => d.fConstructors.length - y.1) (0, []) rfl ?_ ⟨Nat.zero_le _, rfl, fun j _ h => by simp only at h; omega⟩ ?_
  · simp -implicitDefEqProofs (disch := omega) only [go_sem]
  rintro ⟨i, names⟩ ⟨p1, p2, p3⟩
  simp only at p1 p2 p3
  have pl : names.length ≤ d.fConstructors.length := by rw [p2]; simp [consNames]; omega
  simp -implicitDefEqProofs (disch := omega) only [go_sem]
  with_reducible refine split2 (fun hb => ?_) (fun hb => ?_) <;> have h := hb <;> (try simp only [wf_preprocess] at h) <;> simp -implicitDefEqProofs (disch := omega) only [go_sem, hb] <;> (repeat (with_reducible refine And.intro ?_ ?_; focus first | omega | rfl | assumption | exact ⟨_, rfl, rfl⟩ | (simp; omega) | (simp; done)))
  · have hi : i < d.fConstructors.length := by omega
    have hc := MConstructor.bounds (MDataType.con_b hi hsz)
    (repeat (with_reducible refine And.intro ?_ ?_; focus first | omega | rfl | assumption | exact ⟨_, rfl, rfl⟩ | (simp; omega) | (simp; done)))
    with_reducible refine split2 (fun hb => ?_) (fun hb => ?_) <;> have h := hb <;> (try simp only [wf_preprocess] at h) <;> simp -implicitDefEqProofs (disch := omega) only [go_sem, hb] <;> (repeat (with_reducible refine And.intro ?_ ?_; focus first | omega | rfl | assumption | exact ⟨_, rfl, rfl⟩ | (simp; omega) | (simp; done)))
    · rw [bad i hi (by unfold consOk; rw [dec_false (by omega)]; rfl)]
    have h1 := h
    (repeat (with_reducible refine And.intro ?_ ?_; focus first | omega | rfl | assumption | exact ⟨_, rfl, rfl⟩ | (simp; omega) | (simp; done)))
    refine call_w (l13All_ok d.fConstructors[i].fFields d.fVars (by omega) hc.2.2 (by omega)) ?_
    simp -implicitDefEqProofs (disch := omega) only [go_sem] <;> (repeat (with_reducible refine And.intro ?_ ?_; focus first | omega | rfl | assumption | exact ⟨_, rfl, rfl⟩ | (simp; omega) | (simp; done)))
    with_reducible refine split2 (fun hb => ?_) (fun hb => ?_) <;> have h := hb <;> (try simp only [wf_preprocess] at h) <;> simp -implicitDefEqProofs (disch := omega) only [go_sem, hb] <;> (repeat (with_reducible refine And.intro ?_ ?_; focus first | omega | rfl | assumption | exact ⟨_, rfl, rfl⟩ | (simp; omega) | (simp; done)))
    · rw [bad i hi (by unfold consOk; rw [h]; simp)]
    have h2 := h
    (repeat (with_reducible refine And.intro ?_ ?_; focus first | omega | rfl | assumption | exact ⟨_, rfl, rfl⟩ | (simp; omega) | (simp; done)))
    rw [show List.map encS names ++ [[D.s d.fConstructors[i].fName]] = List.map encS (names ++ [d.fConstructors[i].fName]) by simp [encS]]
    exact inv_at (i + 1, names ++ [d.fConstructors[i].fName]) (by simp only; omega) rfl rfl ⟨by simp only; omega, by simp only; rw [p2, take_snoc (by simpa [consNames] using hi)]; simp [consNames], fun j hj hji => by
      simp only at hji
      by_cases e : j = i
      · subst e; unfold consOk; rw [h2, dec_true (by omega)]; rfl
      · exact p3 j hj (by omega)⟩
  have hi : i = d.fConstructors.length := by omega
  have hn : names = consNames d := by rw [p2, List.take_of_length_le (by simp [consNames]; omega)]
  have hall : d.fConstructors.all (consOk d.fVars) = true := List.all_eq_true.2 fun c hc => by
    obtain ⟨j, hj, e⟩ := List.getElem_of_mem hc
    rw [← e]; exact p3 j hj (by omega)
  have hnl : ∀ s ∈ names, s.length ≤ 4194304 := fun s hs => by
    rw [hn] at hs
    obtain ⟨c, hc, e⟩ := List.mem_map.1 hs
    obtain ⟨j, hj, e'⟩ := List.getElem_of_mem hc
    rw [← e, ← e']; exact (MConstructor.bounds (MDataType.con_b hj hsz)).1
  have hlen : names.length = d.fConstructors.length := by rw [hn]; simp [consNames]
  refine call_w (specValidName_ok d.fName (by omega)) ?_
  simp -implicitDefEqProofs (disch := omega) only [go_sem] <;> (repeat (with_reducible refine And.intro ?_ ?_; focus first | omega | rfl | assumption | exact ⟨_, rfl, rfl⟩ | (simp; omega) | (simp; done)))
  with_reducible refine split2 (fun hb => ?_) (fun hb => ?_) <;> have h := hb <;> (try simp only [wf_preprocess] at h) <;> simp -implicitDefEqProofs (disch := omega) only [go_sem, hb] <;> (repeat (with_reducible refine And.intro ?_ ?_; focus first | omega | rfl | assumption | exact ⟨_, rfl, rfl⟩ | (simp; omega) | (simp; done)))
  · have h1 := h
    refine call_w (l13Words_ok d.fVars 3 (by omega) hb0.2.2.2) ?_
    simp -implicitDefEqProofs (disch := omega) only [go_sem] <;> (repeat (with_reducible refine And.intro ?_ ?_; focus first | omega | rfl | assumption | exact ⟨_, rfl, rfl⟩ | (simp; omega) | (simp; done)))
    with_reducible refine split2 (fun hb => ?_) (fun hb => ?_) <;> have h := hb <;> (try simp only [wf_preprocess] at h) <;> simp -implicitDefEqProofs (disch := omega) only [go_sem, hb] <;> (repeat (with_reducible refine And.intro ?_ ?_; focus first | omega | rfl | assumption | exact ⟨_, rfl, rfl⟩ | (simp; omega) | (simp; done)))
    · have h2 := h
      with_reducible refine split2 (fun hb => ?_) (fun hb => ?_) <;> have h := hb <;> (try simp only [wf_preprocess] at h) <;> simp -implicitDefEqProofs (disch := omega) only [go_sem, hb] <;> (repeat (with_reducible refine And.intro ?_ ?_; focus first | omega | rfl | assumption | exact ⟨_, rfl, rfl⟩ | (simp; omega) | (simp; done)))
      · have h3 := h
        refine call_w (l13Words_ok names 5 (by omega) hnl) ?_
        simp -implicitDefEqProofs (disch := omega) only [go_sem] <;> (repeat (with_reducible refine And.intro ?_ ?_; focus first | omega | rfl | assumption | exact ⟨_, rfl, rfl⟩ | (simp; omega) | (simp; done)))
        refine bool_eq ?_
        rw [Bool.and_eq_true] at h2
        have h4 := of_dec h2.1
        unfold validData
        rw [h1, h2.2, hall, ← hn, dec_true (show d.fVars.length ≤ 3 by omega), dec_true (show 1 ≤ d.fConstructors.length by omega), hlen]
        simp only [Bool.true_and]
        congr 1
        exact dec_congr ⟨fun h => by omega, fun h => by omega⟩
      · refine bool_eq ?_
        unfold validData
        rw [dec_false (show ¬ 1 ≤ d.fConstructors.length by omega)]; simp
    · refine bool_eq ?_
      unfold validData
      have h2 : (dec (d.fVars.length ≤ 3) && namesOk d.fVars) = false := by
        rw [← h]; congr 1; exact dec_congr ⟨fun h => by omega, fun h => by omega⟩
      rw [← Bool.and_assoc (dec (d.fVars.length ≤ 3)), h2]; simp
  · exact bool_eq (by unfold validData; rw [h]; rfl)
theorem implValidData_ok (d : MDataType) (hsz : d.sz ≤ 4194304) : PCall Tryz.prog 83 [d.v] (.c (.d (.b (validData d)))) := fun S => by
  have hb0 := MDataType.bounds hsz
  have bad : ∀ i, ∀ hi : i < d.fConstructors.length, consOk d.fVars d.fConstructors[i] = false → validData d = false := fun i hi h => by
    have : d.fConstructors.all (consOk d.fVars) = false := Bool.eq_false_iff.2 fun hx => by
      rw [List.all_eq_true.1 hx _ (List.getElem_mem hi)] at h; cases h
    unfold validData
    rw [this]; simp
  refine acall_cw (rs := [.tmp 2]) Tryz.checked.mixed Tryz.func83 Tryz.ntmps83 rfl rfl rfl rfl rfl ?_
  simp -implicitDefEqProofs (disch := omega) only [go_sem]
  refine call_w (implValidName_ok d.fName (by omega)) ?_
  simp -implicitDefEqProofs (disch := omega) only [go_sem] <;> (repeat (with_reducible refine And.intro ?_ ?_; focus first | omega | rfl | assumption | exact ⟨_, rfl, rfl⟩ | (simp; omega) | (simp; done)))
  with_reducible refine split2 (fun hb => ?_) (fun hb => ?_) <;> have h := hb <;> (try simp only [wf_preprocess] at h) <;> simp -implicitDefEqProofs (disch := omega) only [go_sem, hb] <;> (repeat (with_reducible refine And.intro ?_ ?_; focus first | omega | rfl | assumption | exact ⟨_, rfl, rfl⟩ | (simp; omega) | (simp; done)))
  · exact bool_eq (by unfold validData; rw [h]; rfl)
  have h1 := h
  with_reducible refine split2 (fun hb => ?_) (fun hb => ?_) <;> have h := hb <;> (try simp only [wf_preprocess] at h) <;> simp -implicitDefEqProofs (disch := omega) only [go_sem, hb] <;> (repeat (with_reducible refine And.intro ?_ ?_; focus first | omega | rfl | assumption | exact ⟨_, rfl, rfl⟩ | (simp; omega) | (simp; done)))
  · exact bool_eq (by unfold validData; rw [dec_false (show ¬ d.fVars.length ≤ 3 by omega)]; simp)
  have h2 := h
  refine call_w (areNames_ok d.fVars (by omega) hb0.2.2.2) ?_
  simp -implicitDefEqProofs (disch := omega) only [go_sem] <;> (repeat (with_reducible refine And.intro ?_ ?_; focus first | omega | rfl | assumption | exact ⟨_, rfl, rfl⟩ | (simp; omega) | (simp; done)))
  with_reducible refine split2 (fun hb => ?_) (fun hb => ?_) <;> have h := hb <;> (try simp only [wf_preprocess] at h) <;> simp -implicitDefEqProofs (disch := omega) only [go_sem, hb] <;> (repeat (with_reducible refine And.intro ?_ ?_; focus first | omega | rfl | assumption | exact ⟨_, rfl, rfl⟩ | (simp; omega) | (simp; done)))
  · exact bool_eq (by unfold validData; rw [h]; simp)
  have h3 := h
  with_reducible refine split2 (fun hb => ?_) (fun hb => ?_) <;> have h := hb <;> (try simp only [wf_preprocess] at h) <;> simp -implicitDefEqProofs (disch := omega) only [go_sem, hb] <;> (repeat (with_reducible refine And.intro ?_ ?_; focus first | omega | rfl | assumption | exact ⟨_, rfl, rfl⟩ | (simp; omega) | (simp; done)))
  · exact bool_eq (by unfold validData; rw [dec_false (show ¬ 1 ≤ d.fConstructors.length by omega)]; simp)
  have h4 := h
  with_reducible refine split2 (fun hb => ?_) (fun hb => ?_) <;> have h := hb <;> (try simp only [wf_preprocess] at h) <;> simp -implicitDefEqProofs (disch := omega) only [go_sem, hb] <;> (repeat (with_reducible refine And.intro ?_ ?_; focus first | omega | rfl | assumption | exact ⟨_, rfl, rfl⟩ | (simp; omega) | (simp; done)))
  · exact bool_eq (by unfold validData; rw [dec_false (show ¬ d.fConstructors.length ≤ 5 by omega)]; simp)
  have h5 := h
  (repeat (with_reducible refine And.intro ?_ ?_; focus first | omega | rfl | assumption | exact ⟨_, rfl, rfl⟩ | (simp; omega) | (simp; done)))
  refine aw_tok 3 1 [] rfl (by simp) ?_
  refine loop_at (ι := Nat × List (List UInt8)) Tryz.checked.mixed rfl [1, 3, 36, 37, 38] (fun y => [.c (.ptr (0, 0) 0), .c (.tsl (0, 1) (y.2.map encS)), .c (.d (.sl (d.fConstructors.map MConstructor.enc))), .c (.d (.i .i64 d.fConstructors.length)), .c (.d (.i .i64 y.1))]) (fun y => [.box (d.enc.map .d), .tok 1 (y.2.map encS)] :: S)
    (fun y => y.1 ≤ d.fConstructors.length ∧ y.2 = (consNames d).take y.1 ∧ ∀ j, ∀ hj : j < d.fConstructors.length, j < y.1 → consOk d.fVars d.fConstructors[j] = true) (fun y => d.fConstructors.length - y.1) (0, []) rfl ?_ ⟨Nat.zero_le _, rfl, fun j _ h => by simp only at h; omega⟩ ?_
  · simp -implicitDefEqProofs (disch := omega) only [go_sem]
  rintro ⟨i, names⟩ ⟨p1, p2, p3⟩
  simp only at p1 p2 p3
  have pl : names.length ≤ d.fConstructors.length := by rw [p2]; simp [consNames]; omega
  simp -implicitDefEqProofs (disch := omega) only [go_sem]
  with_reducible refine split2 (fun hb => ?_) (fun hb => ?_) <;> have h := hb <;> (try simp only [wf_preprocess] at h) <;> simp -implicitDefEqProofs (disch := omega) only [go_sem, hb] <;> (repeat (with_reducible refine And.intro ?_ ?_; focus first | omega | rfl | assumption | exact ⟨_, rfl, rfl⟩ | (simp; omega) | (simp; done)))
  · have hi : i < d.fConstructors.length := by omega
    have hc := MConstructor.bounds (MDataType.con_b hi hsz)
    (repeat (with_reducible refine And.intro ?_ ?_; focus first | omega | rfl | assumption | exact ⟨_, rfl, rfl⟩ | (simp; omega) | (simp; done)))
    with_reducible refine split2 (fun hb => ?_) (fun hb => ?_) <;> have h := hb <;> (try simp only [wf_preprocess] at h) <;> simp -implicitDefEqProofs (disch := omega) only [go_sem, hb] <;> (repeat (with_reducible refine And.intro ?_ ?_; focus first | omega | rfl | assumption | exact ⟨_, rfl, rfl⟩ | (simp; omega) | (simp; done)))
    · rw [bad i hi (by unfold consOk; rw [dec_false (by omega)]; rfl)]
    have k1 := h
    (repeat (with_reducible refine And.intro ?_ ?_; focus first | omega | rfl | assumption | exact ⟨_, rfl, rfl⟩ | (simp; omega) | (simp; done)))
    refine call_w (areTypesOver_ok d.fConstructors[i].fFields d.fVars (by omega) hc.2.2 (by omega)) ?_
    simp -implicitDefEqProofs (disch := omega) only [go_sem] <;> (repeat (with_reducible refine And.intro ?_ ?_; focus first | omega | rfl | assumption | exact ⟨_, rfl, rfl⟩ | (simp; omega) | (simp; done)))
    with_reducible refine split2 (fun hb => ?_) (fun hb => ?_) <;> have h := hb <;> (try simp only [wf_preprocess] at h) <;> simp -implicitDefEqProofs (disch := omega) only [go_sem, hb] <;> (repeat (with_reducible refine And.intro ?_ ?_; focus first | omega | rfl | assumption | exact ⟨_, rfl, rfl⟩ | (simp; omega) | (simp; done)))
    · rw [bad i hi (by unfold consOk; rw [h]; simp)]
    have k2 := h
    (repeat (with_reducible refine And.intro ?_ ?_; focus first | omega | rfl | assumption | exact ⟨_, rfl, rfl⟩ | (simp; omega) | (simp; done)))
    rw [show List.map encS names ++ [[D.s d.fConstructors[i].fName]] = List.map encS (names ++ [d.fConstructors[i].fName]) by simp [encS]]
    exact inv_drop 2 (by decide) (i + 1, names ++ [d.fConstructors[i].fName]) (by simp only; omega) rfl rfl rfl rfl ⟨by simp only; omega, by simp only; rw [p2, take_snoc (by simpa [consNames] using hi)]; simp [consNames], fun j hj hji => by
      simp only at hji
      by_cases e : j = i
      · subst e; unfold consOk; rw [k2, dec_true (by omega)]; rfl
      · exact p3 j hj (by omega)⟩
  have hi : i = d.fConstructors.length := by omega
  have hn : names = consNames d := by rw [p2, List.take_of_length_le (by simp [consNames]; omega)]
  have hall : d.fConstructors.all (consOk d.fVars) = true := List.all_eq_true.2 fun c hc => by
    obtain ⟨j, hj, e⟩ := List.getElem_of_mem hc
    rw [← e]; exact p3 j hj (by omega)
  have hnl : ∀ s ∈ names, s.length ≤ 4194304 := fun s hs => by
    rw [hn] at hs
    obtain ⟨c, hc, e⟩ := List.mem_map.1 hs
    obtain ⟨j, hj, e'⟩ := List.getElem_of_mem hc
    rw [← e, ← e']; exact (MConstructor.bounds (MDataType.con_b hj hsz)).1
  refine call_w (areNames_ok names (by omega) hnl) ?_
  simp -implicitDefEqProofs (disch := omega) only [go_sem] <;> (repeat (with_reducible refine And.intro ?_ ?_; focus first | omega | rfl | assumption | exact ⟨_, rfl, rfl⟩ | (simp; omega) | (simp; done)))
  exact bool_eq (by unfold validData; rw [h1, h3, hall, ← hn, dec_true (show d.fVars.length ≤ 3 by omega), dec_true (show 1 ≤ d.fConstructors.length by omega), dec_true (show d.fConstructors.length ≤ 5 by omega)]; simp)
end Go.Proofs.YtnleocfkdidhoaaGreat

namespace Go.Ab
def trNames (p : MPackage) : List (List UInt8) := p.fTraits.map MTrait.fName
def dtNames (p : MPackage) : List (List UInt8) := p.fDataTypes.map MDataType.fName
def ctNames (ds : List MDataType) : List (List UInt8) := ds.flatMap fun d => d.fConstructors.map MConstructor.fName
def fnNames (p : MPackage) : List (List UInt8) := p.fFunctions.map MFunction.fName
def allTr (ps : List MPackage) : List (List UInt8) := ps.flatMap trNames
def allDt (ps : List MPackage) : List (List UInt8) := ps.flatMap dtNames
def allCt (ps : List MPackage) : List (List UInt8) := ps.flatMap fun p => ctNames p.fDataTypes
def allFn (ps : List MPackage) : List (List UInt8) := ps.flatMap fnNames
noncomputable def namesUnique (ps : List MPackage) : Bool := dec (allTr ps).Nodup && (dec (allDt ps).Nodup && (dec (allCt ps).Nodup && dec (allFn ps).Nodup))
theorem flat_take {α β : Type} (f : α → List β) {xs : List α} {i : Nat} (hi : i < xs.length) : (xs.take (i + 1)).flatMap f = (xs.take i).flatMap f ++ f xs[i] := by
  rw [List.take_succ_eq_append_getElem hi, List.flatMap_append]
  simp
theorem flat_len_le {α β : Type} (f : α → List β) (g : α → List D) (h : ∀ x, (f x).length ≤ szRow (g x)) : ∀ xs : List α, (xs.flatMap f).length ≤ szRows (xs.map g)
  | [] => by simp [szRows]
  | x :: xs => by
    have h1 := h x
    have h2 := flat_len_le f g h xs
    rw [List.flatMap_cons, List.length_append, List.map_cons, szRows]
    omega
theorem ct_le (ds : List MDataType) : (ctNames ds).length ≤ szRows (ds.map MDataType.enc) := flat_len_le _ _ (fun d => by
  rw [List.length_map]
  simp only [MDataType.enc_eq, szRow, szRow_append, D.sz, List.length_map]
  omega) ds
theorem names_le (ps : List MPackage) : (allTr ps).length ≤ szRows (ps.map MPackage.enc) ∧ (allDt ps).length ≤ szRows (ps.map MPackage.enc) ∧ (allCt ps).length ≤ szRows (ps.map MPackage.enc) ∧ (allFn ps).length ≤ szRows (ps.map MPackage.enc) := by
  refine ⟨flat_len_le _ _ (fun p => ?_) ps, flat_len_le _ _ (fun p => ?_) ps, flat_len_le _ _ (fun p => ?_) ps, flat_len_le _ _ (fun p => ?_) ps⟩
  · simp only [trNames, MPackage.enc_eq, szRow, szRow_append, D.sz, List.length_map]; omega
  · simp only [dtNames, MPackage.enc_eq, szRow, szRow_append, D.sz, List.length_map]; omega
  · have := ct_le p.fDataTypes
    simp only [MPackage.enc_eq, szRow, szRow_append, D.sz, List.length_map]; omega
  · simp only [fnNames, MPackage.enc_eq, szRow, szRow_append, D.sz, List.length_map]; omega
theorem MPackage.bounds {x : MPackage} (h : x.sz ≤ 4194304) : x.fName.length ≤ 4194304 ∧ x.fDeps.length ≤ 4194304 ∧ x.fTraits.length ≤ 4194304 ∧ x.fDataTypes.length ≤ 4194304 ∧ x.fInstances.length ≤ 4194304 ∧ x.fFunctions.length ≤ 4194304 ∧ (ctNames x.fDataTypes).length ≤ 4194304 := by
  have := ct_le x.fDataTypes
  simp only [MPackage.sz, MPackage.enc_eq, szRow, szRow_append, D.sz, List.length_map] at h
  omega
end Go.Ab

namespace Go.Proofs.YtnleocfkdidhoaaGreat
open Go Go.Ab
theorem szPackage_ok (x : MPackage) : ∀ left : Int, 0 ≤ left → left ≤ 1048576 → FitL x.enc → PCall Tryz.prog 18 [x.v, .c (.d (.i .i64 left))] (.c (.d (.i .i64 (sub1 left x.sz)))) := by
  intro left h0 h1 hf S
  simp only [MPackage.enc_eq, List.cons_append, List.nil_append, fitL_cons, fitL_append, fitL_nil_iff, and_true] at hf
  obtain ⟨fName, fDeps, fTraits, fDataTypes, fInstances, fFunctions⟩ := hf
  have hz : x.sz = x.fName.length + ((x.fDeps.length + szRows (x.fDeps.map encS)) + ((x.fTraits.length + szRows (x.fTraits.map MTrait.enc)) + ((x.fDataTypes.length + szRows (x.fDataTypes.map MDataType.enc)) + ((x.fInstances.length + szRows (x.fInstances.map MInstance.enc)) + ((x.fFunctions.length + szRows (x.fFunctions.map MFunction.enc))))))) := by
    simp only [MPackage.sz, MPackage.enc_eq, szRow, szRow_append, D.sz, List.length_map, Nat.add_zero, Nat.zero_add] <;> omega
  refine acall_cw (rs := [.tmp 4]) Tryz.checked.mixed Tryz.func18 Tryz.ntmps18 rfl rfl rfl rfl rfl ?_
  rw [hz]
  have gName := fit_s fName
  simp -implicitDefEqProofs (disch := omega) only [go_sem]
  with_reducible refine split2 (fun hb => ?_) (fun hb => ?_) <;> have h := hb <;> (try simp only [wf_preprocess] at h) <;> simp -implicitDefEqProofs (disch := omega) only [go_sem, hb] <;> (repeat (with_reducible refine And.intro ?_ ?_; focus first | omega | rfl | assumption | exact ⟨_, rfl, rfl⟩ | (simp; omega) | (simp; done)))
  · exact int_eq (sub1_no (by omega)).symm
  refine call_w (szStringS_ok x.fDeps _ (by omega) (by omega) fDeps) ?_
  simp -implicitDefEqProofs (disch := omega) only [go_sem]
  with_reducible refine split2 (fun hb => ?_) (fun hb => ?_) <;> have h := hb <;> (try simp only [wf_preprocess] at h) <;> simp -implicitDefEqProofs (disch := omega) only [go_sem, hb] <;> (repeat (with_reducible refine And.intro ?_ ?_; focus first | omega | rfl | assumption | exact ⟨_, rfl, rfl⟩ | (simp; omega) | (simp; done)))
  · have h' := sub1_neg h
    exact int_eq (sub1_no (by omega)).symm
  have hDeps := sub1_nn h
  simp only [hDeps.1]
  refine call_w (szTraitS_ok x.fTraits _ (by omega) (by omega) fTraits) ?_
  simp -implicitDefEqProofs (disch := omega) only [go_sem]
  with_reducible refine split2 (fun hb => ?_) (fun hb => ?_) <;> have h := hb <;> (try simp only [wf_preprocess] at h) <;> simp -implicitDefEqProofs (disch := omega) only [go_sem, hb] <;> (repeat (with_reducible refine And.intro ?_ ?_; focus first | omega | rfl | assumption | exact ⟨_, rfl, rfl⟩ | (simp; omega) | (simp; done)))
  · have h' := sub1_neg h
    exact int_eq (sub1_no (by omega)).symm
  have hTraits := sub1_nn h
  simp only [hTraits.1]
  refine call_w (szDataTypeS_ok x.fDataTypes _ (by omega) (by omega) fDataTypes) ?_
  simp -implicitDefEqProofs (disch := omega) only [go_sem]
  with_reducible refine split2 (fun hb => ?_) (fun hb => ?_) <;> have h := hb <;> (try simp only [wf_preprocess] at h) <;> simp -implicitDefEqProofs (disch := omega) only [go_sem, hb] <;> (repeat (with_reducible refine And.intro ?_ ?_; focus first | omega | rfl | assumption | exact ⟨_, rfl, rfl⟩ | (simp; omega) | (simp; done)))
  · have h' := sub1_neg h
    exact int_eq (sub1_no (by omega)).symm
  have hDataTypes := sub1_nn h
  simp only [hDataTypes.1]
  refine call_w (szInstanceS_ok x.fInstances _ (by omega) (by omega) fInstances) ?_
  simp -implicitDefEqProofs (disch := omega) only [go_sem]
  with_reducible refine split2 (fun hb => ?_) (fun hb => ?_) <;> have h := hb <;> (try simp only [wf_preprocess] at h) <;> simp -implicitDefEqProofs (disch := omega) only [go_sem, hb] <;> (repeat (with_reducible refine And.intro ?_ ?_; focus first | omega | rfl | assumption | exact ⟨_, rfl, rfl⟩ | (simp; omega) | (simp; done)))
  · have h' := sub1_neg h
    exact int_eq (sub1_no (by omega)).symm
  have hInstances := sub1_nn h
  simp only [hInstances.1]
  refine call_w (szFunctionS_ok x.fFunctions _ (by omega) (by omega) fFunctions) ?_
  simp -implicitDefEqProofs (disch := omega) only [go_sem]
  with_reducible refine split2 (fun hb => ?_) (fun hb => ?_) <;> have h := hb <;> (try simp only [wf_preprocess] at h) <;> simp -implicitDefEqProofs (disch := omega) only [go_sem, hb] <;> (repeat (with_reducible refine And.intro ?_ ?_; focus first | omega | rfl | assumption | exact ⟨_, rfl, rfl⟩ | (simp; omega) | (simp; done)))
  · have h' := sub1_neg h
    exact int_eq (sub1_no (by omega)).symm
  have hFunctions := sub1_nn h
  simp only [hFunctions.1]
  refine int_eq ?_
  rw [sub1_yes (by omega)]
  omega
theorem szPackageS_ok (xs : List MPackage) : ∀ left : Int, 0 ≤ left → left ≤ 1048576 → (D.sl (xs.map MPackage.enc)).Fit → PCall Tryz.prog 47 [.c (.d (.sl (xs.map MPackage.enc))), .c (.d (.i .i64 left))] (.c (.d (.i .i64 (sub1 left (xs.length + szRows (xs.map MPackage.enc)))))) := by
  intro left h0 h1 hf S
  obtain ⟨hf1, hf2⟩ := fit_sl hf
  rw [List.length_map] at hf1
  refine acall_cw (rs := [.tmp 4]) Tryz.checked.mixed Tryz.func47 Tryz.ntmps47 rfl rfl rfl rfl rfl ?_
  simp -implicitDefEqProofs (disch := omega) only [go_sem]
  with_reducible refine split2 (fun hb => ?_) (fun hb => ?_) <;> have h := hb <;> (try simp only [wf_preprocess] at h) <;> simp -implicitDefEqProofs (disch := omega) only [go_sem, hb] <;> (repeat (with_reducible refine And.intro ?_ ?_; focus first | omega | rfl | assumption | exact ⟨_, rfl, rfl⟩ | (simp; omega) | (simp; done)))
  · exact int_eq (sub1_no (by omega)).symm
  refine loop_at (ι := Nat × Int) Tryz.checked.mixed rfl [0, 1, 5] (fun y => [.c (.d (.sl (xs.map MPackage.enc))), .c (.d (.i .i64 y.2)), .c (.d (.i .i64 y.1))]) (fun _ => [] :: S)
    (fun y => y.1 ≤ xs.length ∧ 0 ≤ y.2 ∧ y.2 ≤ 1048576 ∧ sub1 y.2 (szRows ((xs.map MPackage.enc).drop y.1)) = sub1 left (xs.length + szRows (xs.map MPackage.enc))) (fun y => xs.length - y.1) (0, left - xs.length) rfl rfl ⟨by omega, by omega, by omega, ?_⟩ ?_
  · unfold sub1
    rw [List.drop_zero]
    split <;> split <;> omega
  rintro ⟨i, l⟩ ⟨p1, p2, p3, p4⟩
  simp only at p1 p2 p3 p4
  simp -implicitDefEqProofs (disch := omega) only [go_sem]
  with_reducible refine split2 (fun hb => ?_) (fun hb => ?_) <;> have h := hb <;> (try simp only [wf_preprocess] at h) <;> simp -implicitDefEqProofs (disch := omega) only [go_sem, hb] <;> (repeat (with_reducible refine And.intro ?_ ?_; focus first | omega | rfl | assumption | exact ⟨_, rfl, rfl⟩ | (simp; omega) | (simp; done)))
  · have hi : i < xs.length := by omega
    rw [List.drop_eq_getElem_cons (by rw [List.length_map]; exact hi), szRows, List.getElem_map, MPackage.sz_def] at p4
    (repeat (with_reducible refine And.intro ?_ ?_; focus first | omega | rfl | assumption | exact ⟨_, rfl, rfl⟩ | (simp; omega) | (simp; done)))
    refine call_w (szPackage_ok xs[i] _ (by omega) (by omega) (hf2 _ (List.mem_map_of_mem (List.getElem_mem hi)))) ?_
    simp -implicitDefEqProofs (disch := omega) only [go_sem]
    with_reducible refine split2 (fun hb => ?_) (fun hb => ?_) <;> have h := hb <;> (try simp only [wf_preprocess] at h) <;> simp -implicitDefEqProofs (disch := omega) only [go_sem, hb] <;> (repeat (with_reducible refine And.intro ?_ ?_; focus first | omega | rfl | assumption | exact ⟨_, rfl, rfl⟩ | (simp; omega) | (simp; done)))
    · have h' := sub1_neg h
      rw [← p4, sub1_no (by omega)]
    · have h' := sub1_nn h
      refine inv_at (i + 1, sub1 l _) (by simp only; omega) rfl rfl ⟨by simp only; omega, by simp only; omega, by simp only; omega, ?_⟩
      simp only
      rw [← p4, h'.1]
      unfold sub1
      split <;> split <;> omega
  · have hi : i = xs.length := by omega
    rw [hi, List.drop_of_length_le (by simp), szRows, sub1_yes (by omega)] at p4
    rw [← p4]
    refine int_eq ?_
    omega
theorem toPackage_ok (x : MPackage) : x.sz ≤ 1048576 → PCall Tryz.prog 20 [x.v] x.v := by
  intro hsz S
  simp only [MPackage.sz, MPackage.enc_eq, szRow, szRow_append, D.sz, List.length_map] at hsz
  refine acall_cw (rs := [.cell 2 64]) Tryz.checked.mixed Tryz.func20 Tryz.ntmps20 rfl rfl rfl rfl rfl ?_
  simp -implicitDefEqProofs (disch := omega) only [go_sem]
  refine call_w (toStringS_ok x.fDeps (by omega)) ?_
  simp -implicitDefEqProofs (disch := omega) only [go_sem]
  refine call_w (toTraitS_ok x.fTraits (by omega)) ?_
  simp -implicitDefEqProofs (disch := omega) only [go_sem]
  refine call_w (toDataTypeS_ok x.fDataTypes (by omega)) ?_
  simp -implicitDefEqProofs (disch := omega) only [go_sem]
  refine call_w (toInstanceS_ok x.fInstances (by omega)) ?_
  simp -implicitDefEqProofs (disch := omega) only [go_sem]
  refine call_w (toFunctionS_ok x.fFunctions (by omega)) ?_
  simp -implicitDefEqProofs (disch := omega) only [go_sem]
theorem toPackageS_ok (xs : List MPackage) : xs.length + szRows (xs.map MPackage.enc) ≤ 1048576 → PCall Tryz.prog 52 [.c (.d (.sl (xs.map MPackage.enc)))] (.c (.d (.sl (xs.map MPackage.enc)))) := by
  intro hsz S
  refine acall_cw (rs := [.tmp 2]) Tryz.checked.mixed Tryz.func52 Tryz.ntmps52 rfl rfl rfl rfl rfl ?_
  simp -implicitDefEqProofs (disch := omega) only [go_sem]
  (repeat (with_reducible refine And.intro ?_ ?_; focus first | omega | rfl | assumption | exact ⟨_, rfl, rfl⟩ | (simp; omega) | (simp; done)))
  refine loop_at (ι := Nat × List (List D)) Tryz.checked.mixed rfl [0, 3, 4] (fun y => [.c (.d (.sl (xs.map MPackage.enc))), .c (.msl (0, 0)), .c (.d (.i .i64 y.1))]) (fun y => [.mrow 6 y.2] :: S)
    (fun y => y.1 ≤ xs.length ∧ Filled 6 y.1 y.2 (xs.map MPackage.enc)) (fun y => xs.length - y.1) (0, _) rfl rfl ⟨Nat.zero_le _, Filled.start (by simp) rfl⟩ ?_
  rintro ⟨i, R⟩ ⟨p1, p2⟩
  simp only at p1 p2
  simp -implicitDefEqProofs (disch := omega) only [go_sem]
  with_reducible refine split2 (fun hb => ?_) (fun hb => ?_) <;> have h := hb <;> (try simp only [wf_preprocess] at h) <;> simp -implicitDefEqProofs (disch := omega) only [go_sem, hb] <;> (repeat (with_reducible refine And.intro ?_ ?_; focus first | omega | rfl | assumption | exact ⟨_, rfl, rfl⟩ | (simp; omega) | (simp; done)))
  · have hi : i < xs.length := by omega
    have hx : xs[i].sz ≤ szRows (xs.map MPackage.enc) := szRows_mem (List.mem_map_of_mem (List.getElem_mem hi))
    (repeat (with_reducible refine And.intro ?_ ?_; focus first | omega | rfl | assumption | exact ⟨_, rfl, rfl⟩ | (simp; omega) | (simp; done)))
    refine call_w (toPackage_ok xs[i] (by omega)) ?_
    simp -implicitDefEqProofs (disch := omega) only [go_sem]
    have hR := p2.1
    rw [List.length_map] at hR
    (repeat (with_reducible refine And.intro ?_ ?_; focus first | omega | rfl | assumption | exact ⟨_, rfl, rfl⟩ | (simp; omega) | (simp; done)))
    refine inv_at (i + 1, _) (by simp only; omega) rfl rfl ⟨by simp only; omega, p2.step (by simp [hi, MPackage.enc_eq]) rfl⟩
  · have hi : i = xs.length := by omega
    rw [p2.done (by rw [List.length_map]; omega)]
theorem eqPackage_ok (x : MPackage) : ∀ y : MPackage, x.sz ≤ 1048576 → PCall Tryz.prog 22 [x.v, y.v] (.c (.d (.b (dec (x = y))))) := by
  intro y hsz S
  simp only [MPackage.sz, MPackage.enc_eq, szRow, szRow_append, D.sz, List.length_map] at hsz
  refine acall_cw (rs := [.tmp 4]) Tryz.checked.mixed Tryz.func22 Tryz.ntmps22 rfl rfl rfl rfl rfl ?_
  simp -implicitDefEqProofs (disch := omega) only [go_sem]
  with_reducible refine split2 (fun hb => ?_) (fun hb => ?_) <;> have h := hb <;> (try simp only [wf_preprocess] at h) <;> simp -implicitDefEqProofs (disch := omega) only [go_sem, hb] <;> (repeat (with_reducible refine And.intro ?_ ?_; focus first | omega | rfl | assumption | exact ⟨_, rfl, rfl⟩ | (simp; omega) | (simp; done)))
  · exact bool_eq (dec_false (fun e => h (by rw [e]))).symm
  have eName := h
  clear h
  refine call_w (eqStringS_ok x.fDeps _ (by omega)) ?_
  simp -implicitDefEqProofs (disch := omega) only [go_sem]
  with_reducible refine split2 (fun hb => ?_) (fun hb => ?_) <;> have h := hb <;> (try simp only [wf_preprocess] at h) <;> simp -implicitDefEqProofs (disch := omega) only [go_sem, hb] <;> (repeat (with_reducible refine And.intro ?_ ?_; focus first | omega | rfl | assumption | exact ⟨_, rfl, rfl⟩ | (simp; omega) | (simp; done)))
  · exact bool_eq (dec_false (fun e => h (by rw [e]))).symm
  have eDeps := h
  clear h
  refine call_w (eqTraitS_ok x.fTraits _ (by omega)) ?_
  simp -implicitDefEqProofs (disch := omega) only [go_sem]
  with_reducible refine split2 (fun hb => ?_) (fun hb => ?_) <;> have h := hb <;> (try simp only [wf_preprocess] at h) <;> simp -implicitDefEqProofs (disch := omega) only [go_sem, hb] <;> (repeat (with_reducible refine And.intro ?_ ?_; focus first | omega | rfl | assumption | exact ⟨_, rfl, rfl⟩ | (simp; omega) | (simp; done)))
  · exact bool_eq (dec_false (fun e => h (by rw [e]))).symm
  have eTraits := h
  clear h
  refine call_w (eqDataTypeS_ok x.fDataTypes _ (by omega)) ?_
  simp -implicitDefEqProofs (disch := omega) only [go_sem]
  with_reducible refine split2 (fun hb => ?_) (fun hb => ?_) <;> have h := hb <;> (try simp only [wf_preprocess] at h) <;> simp -implicitDefEqProofs (disch := omega) only [go_sem, hb] <;> (repeat (with_reducible refine And.intro ?_ ?_; focus first | omega | rfl | assumption | exact ⟨_, rfl, rfl⟩ | (simp; omega) | (simp; done)))
  · exact bool_eq (dec_false (fun e => h (by rw [e]))).symm
  have eDataTypes := h
  clear h
  refine call_w (eqInstanceS_ok x.fInstances _ (by omega)) ?_
  simp -implicitDefEqProofs (disch := omega) only [go_sem]
  with_reducible refine split2 (fun hb => ?_) (fun hb => ?_) <;> have h := hb <;> (try simp only [wf_preprocess] at h) <;> simp -implicitDefEqProofs (disch := omega) only [go_sem, hb] <;> (repeat (with_reducible refine And.intro ?_ ?_; focus first | omega | rfl | assumption | exact ⟨_, rfl, rfl⟩ | (simp; omega) | (simp; done)))
  · exact bool_eq (dec_false (fun e => h (by rw [e]))).symm
  have eInstances := h
  clear h
  refine call_w (eqFunctionS_ok x.fFunctions _ (by omega)) ?_
  simp -implicitDefEqProofs (disch := omega) only [go_sem]
  with_reducible refine split2 (fun hb => ?_) (fun hb => ?_) <;> have h := hb <;> (try simp only [wf_preprocess] at h) <;> simp -implicitDefEqProofs (disch := omega) only [go_sem, hb] <;> (repeat (with_reducible refine And.intro ?_ ?_; focus first | omega | rfl | assumption | exact ⟨_, rfl, rfl⟩ | (simp; omega) | (simp; done)))
  · exact bool_eq (dec_false (fun e => h (by rw [e]))).symm
  have eFunctions := h
  clear h
  exact bool_eq (dec_true (MPackage.ext' eName eDeps eTraits eDataTypes eInstances eFunctions)).symm
theorem eqPackageS_ok (xs : List MPackage) : ∀ ys : List MPackage, xs.length + szRows (xs.map MPackage.enc) ≤ 1048576 → PCall Tryz.prog 58 [.c (.d (.sl (xs.map MPackage.enc))), .c (.d (.sl (ys.map MPackage.enc)))] (.c (.d (.b (dec (xs = ys))))) := by
  intro ys hsz S
  refine acall_cw (rs := [.tmp 4]) Tryz.checked.mixed Tryz.func58 Tryz.ntmps58 rfl rfl rfl rfl rfl ?_
  simp -implicitDefEqProofs (disch := omega) only [go_sem]
  with_reducible refine split2 (fun hb => ?_) (fun hb => ?_) <;> have h := hb <;> (try simp only [wf_preprocess] at h) <;> simp -implicitDefEqProofs (disch := omega) only [go_sem, hb] <;> (repeat (with_reducible refine And.intro ?_ ?_; focus first | omega | rfl | assumption | exact ⟨_, rfl, rfl⟩ | (simp; omega) | (simp; done)))
  · exact bool_eq (dec_false (fun e => h (by rw [e]))).symm
  have hl : xs.length = ys.length := by omega
  refine loop_at (ι := Nat) Tryz.checked.mixed rfl [0, 1, 5] (fun y => [.c (.d (.sl (xs.map MPackage.enc))), .c (.d (.sl (ys.map MPackage.enc))), .c (.d (.i .i64 y))]) (fun y => [] :: S)
    (fun i => i ≤ xs.length ∧ ∀ j, j < i → xs[j]? = ys[j]?) (fun y => xs.length - y) 0 rfl rfl ⟨Nat.zero_le _, fun j h => by omega⟩ ?_
  rintro i ⟨p1, p2⟩
  simp -implicitDefEqProofs (disch := omega) only [go_sem]
  with_reducible refine split2 (fun hb => ?_) (fun hb => ?_) <;> have h := hb <;> (try simp only [wf_preprocess] at h) <;> simp -implicitDefEqProofs (disch := omega) only [go_sem, hb] <;> (repeat (with_reducible refine And.intro ?_ ?_; focus first | omega | rfl | assumption | exact ⟨_, rfl, rfl⟩ | (simp; omega) | (simp; done)))
  · have hi : i < xs.length := by omega
    have hi' : i < ys.length := by omega
    have hx : xs[i].sz ≤ szRows (xs.map MPackage.enc) := szRows_mem (List.mem_map_of_mem (List.getElem_mem hi))
    (repeat (with_reducible refine And.intro ?_ ?_; focus first | omega | rfl | assumption | exact ⟨_, rfl, rfl⟩ | (simp; omega) | (simp; done)))
    refine call_w (eqPackage_ok xs[i] ys[i] (by omega)) ?_
    simp -implicitDefEqProofs (disch := omega) only [go_sem]
    with_reducible refine split2 (fun hb => ?_) (fun hb => ?_) <;> have h := hb <;> (try simp only [wf_preprocess] at h) <;> simp -implicitDefEqProofs (disch := omega) only [go_sem, hb] <;> (repeat (with_reducible refine And.intro ?_ ?_; focus first | omega | rfl | assumption | exact ⟨_, rfl, rfl⟩ | (simp; omega) | (simp; done)))
    · exact bool_eq (dec_false (fun e => h (by simp only [e]))).symm
    refine inv_at (i + 1) (by omega) rfl rfl ⟨by omega, fun j hj => ?_⟩
    by_cases e : j = i
    · subst e
      rw [List.getElem?_eq_getElem hi, List.getElem?_eq_getElem hi', h]
    · exact p2 j (by omega)
  · have hi : i = xs.length := by omega
    refine bool_eq (dec_true (List.ext_getElem? fun j => ?_)).symm
    by_cases hj : j < i
    · exact p2 j hj
    · rw [List.getElem?_eq_none (by omega), List.getElem?_eq_none (by omega)]
end Go.Proofs.YtnleocfkdidhoaaGreat

namespace Go.Proofs.YtnleocfkdidhoaaGreat
open Go Go.Ab
theorem szProgram_ok (x : MProgram) : ∀ left : Int, 0 ≤ left → left ≤ 1048576 → FitL x.enc → PCall Tryz.prog 10 [x.v, .c (.d (.i .i64 left))] (.c (.d (.i .i64 (sub1 left x.sz)))) := by
  intro left h0 h1 hf S
  simp only [MProgram.enc_eq, List.cons_append, List.nil_append, fitL_cons, fitL_append, fitL_nil_iff, and_true] at hf
  have fPackages := hf
  have hz : x.sz = (x.fPackages.length + szRows (x.fPackages.map MPackage.enc)) := by
    simp only [MProgram.sz, MProgram.enc_eq, szRow, szRow_append, D.sz, List.length_map, Nat.add_zero, Nat.zero_add] <;> omega
  refine acall_cw (rs := [.tmp 4]) Tryz.checked.mixed Tryz.func10 Tryz.ntmps10 rfl rfl rfl rfl rfl ?_
  rw [hz]
  simp -implicitDefEqProofs (disch := omega) only [go_sem]
  refine call_w (szPackageS_ok x.fPackages _ (by omega) (by omega) fPackages) ?_
  simp -implicitDefEqProofs (disch := omega) only [go_sem]
  with_reducible refine split2 (fun hb => ?_) (fun hb => ?_) <;> have h := hb <;> (try simp only [wf_preprocess] at h) <;> simp -implicitDefEqProofs (disch := omega) only [go_sem, hb] <;> (repeat (with_reducible refine And.intro ?_ ?_; focus first | omega | rfl | assumption | exact ⟨_, rfl, rfl⟩ | (simp; omega) | (simp; done)))
  have h' := sub1_neg h
  exact int_eq (sub1_no (by omega)).symm
theorem toProgram_ok (x : MProgram) : x.sz ≤ 1048576 → PCall Tryz.prog 13 [x.v] x.v := by
  intro hsz S
  simp only [MProgram.sz, MProgram.enc_eq, szRow, szRow_append, D.sz, List.length_map] at hsz
  refine acall_cw (rs := [.cell 2 37]) Tryz.checked.mixed Tryz.func13 Tryz.ntmps13 rfl rfl rfl rfl rfl ?_
  simp -implicitDefEqProofs (disch := omega) only [go_sem]
  refine call_w (toPackageS_ok x.fPackages (by omega)) ?_
  simp -implicitDefEqProofs (disch := omega) only [go_sem]
theorem eqProgram_ok (x : MProgram) : ∀ y : MProgram, x.sz ≤ 1048576 → PCall Tryz.prog 16 [x.v, y.v] (.c (.d (.b (dec (x = y))))) := by
  intro y hsz S
  simp only [MProgram.sz, MProgram.enc_eq, szRow, szRow_append, D.sz, List.length_map] at hsz
  refine acall_cw (rs := [.tmp 4]) Tryz.checked.mixed Tryz.func16 Tryz.ntmps16 rfl rfl rfl rfl rfl ?_
  simp -implicitDefEqProofs (disch := omega) only [go_sem]
  refine call_w (eqPackageS_ok x.fPackages _ (by omega)) ?_
  simp -implicitDefEqProofs (disch := omega) only [go_sem]
  with_reducible refine split2 (fun hb => ?_) (fun hb => ?_) <;> have h := hb <;> (try simp only [wf_preprocess] at h) <;> simp -implicitDefEqProofs (disch := omega) only [go_sem, hb] <;> (repeat (with_reducible refine And.intro ?_ ?_; focus first | omega | rfl | assumption | exact ⟨_, rfl, rfl⟩ | (simp; omega) | (simp; done)))
  · exact bool_eq (dec_false (fun e => h (by rw [e]))).symm
  have ePackages := h
  clear h
  exact bool_eq (dec_true (MProgram.ext' ePackages)).symm
end Go.Proofs.YtnleocfkdidhoaaGreat

namespace Go.Ab
theorem MProgram.bounds {x : MProgram} (h : x.sz ≤ 4194304) : x.fPackages.length ≤ 4194304 := by
  simp only [MProgram.sz, MProgram.enc_eq, szRow, szRow_append, D.sz, List.length_map] at h
  omega
def pkgIndex (w : MProgram) (name : List UInt8) : Int := indexP (fun p : MPackage => decide (p.fName = name)) w.fPackages
end Go.Ab
namespace Go.Proofs.YtnleocfkdidhoaaGreat
open Go Go.Ab
theorem specPkgIndex_ok (w : MProgram) (name : List UInt8) (hsz : w.sz ≤ 4194304) : PCall Tryz.prog 91 [w.v, .c (.d (.s name))] (.c (.d (.i .i64 (pkgIndex w name)))) := fun S => by
  have hb0 := MProgram.bounds hsz
  refine acall_cw (rs := [.tmp 4]) Tryz.checked.mixed Tryz.func91 Tryz.ntmps91 rfl rfl rfl rfl rfl ?_
  simp -implicitDefEqProofs (disch := omega) only [go_sem]
  refine loop_at (ι := Nat) Tryz.checked.mixed rfl [1, 2, 5] (fun i => [.c (.d (.s name)), .c (.ptr (0, 0) 0), .c (.d (.i .i64 i))]) (fun _ => [.box (w.enc.map .d)] :: S)
    (fun i => i ≤ w.fPackages.length ∧ ∀ j, ∀ hj : j < w.fPackages.length, j < i → (fun p : MPackage => decide (p.fName = name)) w.fPackages[j] = false) (fun i => w.fPackages.length - i) 0 rfl ?_ ⟨Nat.zero_le _, fun j _ h => by omega⟩ ?_
  · simp -implicitDefEqProofs (disch := omega) only [go_sem]
  rintro i ⟨p1, p2⟩
  simp -implicitDefEqProofs (disch := omega) only [go_sem]
  with_reducible refine split2 (fun hb => ?_) (fun hb => ?_) <;> have h := hb <;> (try simp only [wf_preprocess] at h) <;> simp -implicitDefEqProofs (disch := omega) only [go_sem, hb] <;> (repeat (with_reducible refine And.intro ?_ ?_; focus first | omega | rfl | assumption | exact ⟨_, rfl, rfl⟩ | (simp; omega) | (simp; done)))
  · have hi : i < w.fPackages.length := by omega
    (repeat (with_reducible refine And.intro ?_ ?_; focus first | omega | rfl | assumption | exact ⟨_, rfl, rfl⟩ | (simp; omega) | (simp; done)))
    with_reducible refine split2 (fun hb => ?_) (fun hb => ?_) <;> have h := hb <;> (try simp only [wf_preprocess] at h) <;> simp -implicitDefEqProofs (disch := omega) only [go_sem, hb] <;> (repeat (with_reducible refine And.intro ?_ ?_; focus first | omega | rfl | assumption | exact ⟨_, rfl, rfl⟩ | (simp; omega) | (simp; done)))
    · unfold pkgIndex
      rw [indexP_here (p := fun p : MPackage => decide (p.fName = name)) hi p2 hb]
    · refine inv_at (i + 1) (by omega) rfl rfl ⟨by omega, fun j hj hji => ?_⟩
      by_cases e : j = i
      · subst e; exact hb
      · exact p2 j hj (by omega)
  · unfold pkgIndex
    rw [indexP_no (p := fun p : MPackage => decide (p.fName = name)) (fun j hj => p2 j hj (by omega))]
end Go.Proofs.YtnleocfkdidhoaaGreat

namespace Go.Proofs.YtnleocfkdidhoaaGreat
open Go Go.Ab
theorem snocS (xs : List (List UInt8)) (x : List UInt8) : xs.map encS ++ [[D.s x]] = (xs ++ [x]).map encS := by simp [encS]
theorem l15Names_ok (p : MPackage) (hsz : p.sz ≤ 4194304) : PCall Tryz.prog 67 [p.v] (.tup [(false, [.d (.sl ((trNames p).map encS))]), (false, [.d (.sl ((dtNames p).map encS))]), (false, [.d (.sl ((ctNames p.fDataTypes).map encS))]), (false, [.d (.sl ((fnNames p).map encS))])]) := fun S => by
  have hb0 := MPackage.bounds hsz
  refine acall_cw (rs := [.tmp 2, .tmp 3, .tmp 4, .tmp 5]) Tryz.checked.mixed Tryz.func67 Tryz.ntmps67 rfl rfl rfl rfl rfl ?_
  simp -implicitDefEqProofs (disch := omega) only [go_sem]
  (repeat (with_reducible refine And.intro ?_ ?_; focus first | omega | rfl | assumption | exact ⟨_, rfl, rfl⟩ | (simp; omega) | (simp; done)))
  refine aw_tok 6 1 [] rfl (by simp) ?_
  refine aw_tok 7 1 [] rfl (by simp) ?_
  refine aw_tok 8 1 [] rfl (by simp) ?_
  refine aw_tok 9 1 [] rfl (by simp) ?_
  refine loop_at (ι := Nat × List (List UInt8)) Tryz.checked.mixed rfl [1, 6, 7, 8, 9, 10] (fun y => [.c (.ptr (0, 0) 0), .c (.tsl (0, 1) (y.2.map encS)), .c (.tsl (0, 2) []), .c (.tsl (0, 3) []), .c (.tsl (0, 4) []), .c (.d (.i .i64 y.1))]) (fun y => [.box (p.enc.map .d), .tok 1 (y.2.map encS), .tok 1 [], .tok 1 [], .tok 1 []] :: S)
    (fun y => y.1 ≤ p.fTraits.length ∧ y.2 = (trNames p).take y.1) (fun y => p.fTraits.length - y.1) (0, []) rfl ?_ ⟨Nat.zero_le _, rfl⟩ ?_
  · simp -implicitDefEqProofs (disch := omega) only [go_sem]
  rintro ⟨i, a⟩ ⟨p1, p2⟩
  simp only at p1 p2
  have pl : a.length ≤ p.fTraits.length := by rw [p2]; simp [trNames]; omega
  simp -implicitDefEqProofs (disch := omega) only [go_sem]
  with_reducible refine split2 (fun hb => ?_) (fun hb => ?_) <;> have h := hb <;> (try simp only [wf_preprocess] at h) <;> simp -implicitDefEqProofs (disch := omega) only [go_sem, hb] <;> (repeat (with_reducible refine And.intro ?_ ?_; focus first | omega | rfl | assumption | exact ⟨_, rfl, rfl⟩ | (simp; omega) | (simp; done)))
  · have hi : i < p.fTraits.length := by omega
    (repeat (with_reducible refine And.intro ?_ ?_; focus first | omega | rfl | assumption | exact ⟨_, rfl, rfl⟩ | (simp; omega) | (simp; done)))
    rw [snocS]
    exact inv_at (i + 1, a ++ [p.fTraits[i].fName]) (by simp only; omega) rfl rfl ⟨by simp only; omega, by simp only; rw [p2, take_snoc (by simpa [trNames] using hi)]; simp [trNames]⟩
  have ha : a = trNames p := by rw [p2, List.take_of_length_le (by simp [trNames]; omega)]
  clear p1 p2 pl hb h
  subst ha
  refine loop_at (ι := Nat × List (List UInt8) × List (List UInt8)) Tryz.checked.mixed rfl [1, 6, 7, 8, 9, 11] (fun y => [.c (.ptr (0, 0) 0), .c (.tsl (0, 1) ((trNames p).map encS)), .c (.tsl (0, 2) (y.2.1.map encS)), .c (.tsl (0, 3) (y.2.2.map encS)), .c (.tsl (0, 4) []), .c (.d (.i .i64 y.1))]) (fun y => [.box (p.enc.map .d), .tok 1 ((trNames p).map encS), .tok 1 (y.2.1.map encS), .tok 1 (y.2.2.map encS), .tok 1 []] :: S)
    (fun y => y.1 ≤ p.fDataTypes.length ∧ y.2.1 = (dtNames p).take y.1 ∧ y.2.2 = ctNames (p.fDataTypes.take y.1)) (fun y => p.fDataTypes.length - y.1) (0, [], []) rfl ?_ ⟨Nat.zero_le _, rfl, rfl⟩ ?_
  · simp -implicitDefEqProofs (disch := omega) only [go_sem]
  rintro ⟨i, b, c⟩ ⟨p1, p2, p3⟩
  simp only at p1 p2 p3
  have pl : b.length ≤ p.fDataTypes.length := by rw [p2]; simp [dtNames]; omega
  simp -implicitDefEqProofs (disch := omega) only [go_sem]
  with_reducible refine split2 (fun hb => ?_) (fun hb => ?_) <;> have h := hb <;> (try simp only [wf_preprocess] at h) <;> simp -implicitDefEqProofs (disch := omega) only [go_sem, hb] <;> (repeat (with_reducible refine And.intro ?_ ?_; focus first | omega | rfl | assumption | exact ⟨_, rfl, rfl⟩ | (simp; omega) | (simp; done)))
  · have hi : i < p.fDataTypes.length := by omega
    have e3 : ctNames (p.fDataTypes.take (i + 1)) = c ++ p.fDataTypes[i].fConstructors.map MConstructor.fName := by rw [p3]; exact flat_take _ hi
    have hcl : (ctNames (p.fDataTypes.take (i + 1))).length ≤ 4194304 := by
      have h1 : (ctNames (p.fDataTypes.take (i + 1))).length ≤ (ctNames p.fDataTypes).length := by
        conv => rhs; rw [← List.take_append_drop (i + 1) p.fDataTypes]
        unfold ctNames
        rw [List.flatMap_append, List.length_append]
        omega
      omega
    rw [e3, List.length_append, List.length_map] at hcl
    (repeat (with_reducible refine And.intro ?_ ?_; focus first | omega | rfl | assumption | exact ⟨_, rfl, rfl⟩ | (simp; omega) | (simp; done)))
    rw [snocS]
    refine loop_at (ι := Nat × List (List UInt8)) Tryz.checked.mixed rfl [1, 6, 7, 8, 9, 11, 12] (fun y => [.c (.ptr (0, 0) 0), .c (.tsl (0, 1) ((trNames p).map encS)), .c (.tsl (0, 2) ((b ++ [p.fDataTypes[i].fName]).map encS)), .c (.tsl (0, 3) (y.2.map encS)), .c (.tsl (0, 4) []), .c (.d (.i .i64 i)), .c (.d (.i .i64 y.1))]) (fun y => [.box (p.enc.map .d), .tok 1 ((trNames p).map encS), .tok 1 ((b ++ [p.fDataTypes[i].fName]).map encS), .tok 1 (y.2.map encS), .tok 1 []] :: S)
      (fun y => y.1 ≤ p.fDataTypes[i].fConstructors.length ∧ y.2 = c ++ (p.fDataTypes[i].fConstructors.map MConstructor.fName).take y.1) (fun y => p.fDataTypes[i].fConstructors.length - y.1) (0, c) rfl ?_ ⟨Nat.zero_le _, by simp⟩ ?_
    · simp -implicitDefEqProofs (disch := omega) only [go_sem]
    rintro ⟨k, e⟩ ⟨q1, q2⟩
    simp only at q1 q2
    have pl2 : e.length ≤ 4194304 := by rw [q2]; simp; omega
    simp -implicitDefEqProofs (disch := omega) only [go_sem]
    (repeat (with_reducible refine And.intro ?_ ?_; focus first | omega | rfl | assumption | exact ⟨_, rfl, rfl⟩ | (simp; omega) | (simp; done)))
    with_reducible refine split2 (fun hb => ?_) (fun hb => ?_) <;> have h := hb <;> (try simp only [wf_preprocess] at h) <;> simp -implicitDefEqProofs (disch := omega) only [go_sem, hb] <;> (repeat (with_reducible refine And.intro ?_ ?_; focus first | omega | rfl | assumption | exact ⟨_, rfl, rfl⟩ | (simp; omega) | (simp; done)))
    · have hk : k < p.fDataTypes[i].fConstructors.length := by omega
      (repeat (with_reducible refine And.intro ?_ ?_; focus first | omega | rfl | assumption | exact ⟨_, rfl, rfl⟩ | (simp; omega) | (simp; done)))
      rw [snocS]
      exact inv_at (k + 1, e ++ [p.fDataTypes[i].fConstructors[k].fName]) (by simp only; omega) rfl rfl ⟨by simp only; omega, by simp only; rw [q2, take_snoc (by simpa using hk)]; simp⟩
    · have hk : k = p.fDataTypes[i].fConstructors.length := by omega
      have he : e = c ++ p.fDataTypes[i].fConstructors.map MConstructor.fName := by rw [q2, List.take_of_length_le (by simp; omega)]
      exact inv_at (i + 1, b ++ [p.fDataTypes[i].fName], e) (by simp only; omega) rfl rfl ⟨by simp only; omega, by simp only; rw [p2, take_snoc (by simpa [dtNames] using hi)]; simp [dtNames], by simp only; rw [e3, he]⟩
  have hb1 : b = dtNames p := by rw [p2, List.take_of_length_le (by simp [dtNames]; omega)]
  have hc1 : c = ctNames p.fDataTypes := by rw [p3, List.take_of_length_le (by omega)]
  clear p1 p2 p3 pl hb h
  subst hb1
  subst hc1
  refine loop_at (ι := Nat × List (List UInt8)) Tryz.checked.mixed rfl [1, 6, 7, 8, 9, 13] (fun y => [.c (.ptr (0, 0) 0), .c (.tsl (0, 1) ((trNames p).map encS)), .c (.tsl (0, 2) ((dtNames p).map encS)), .c (.tsl (0, 3) ((ctNames p.fDataTypes).map encS)), .c (.tsl (0, 4) (y.2.map encS)), .c (.d (.i .i64 y.1))]) (fun y => [.box (p.enc.map .d), .tok 1 ((trNames p).map encS), .tok 1 ((dtNames p).map encS), .tok 1 ((ctNames p.fDataTypes).map encS), .tok 1 (y.2.map encS)] :: S)
    (fun y => y.1 ≤ p.fFunctions.length ∧ y.2 = (fnNames p).take y.1) (fun y => p.fFunctions.length - y.1) (0, []) rfl ?_ ⟨Nat.zero_le _, rfl⟩ ?_
  · simp -implicitDefEqProofs (disch := omega) only [go_sem]
  rintro ⟨i, a⟩ ⟨p1, p2⟩
  simp only at p1 p2
  have pl : a.length ≤ p.fFunctions.length := by rw [p2]; simp [fnNames]; omega
  simp -implicitDefEqProofs (disch := omega) only [go_sem]
  with_reducible refine split2 (fun hb => ?_) (fun hb => ?_) <;> have h := hb <;> (try simp only [wf_preprocess] at h) <;> simp -implicitDefEqProofs (disch := omega) only [go_sem, hb] <;> (repeat (with_reducible refine And.intro ?_ ?_; focus first | omega | rfl | assumption | exact ⟨_, rfl, rfl⟩ | (simp; omega) | (simp; done)))
  · have hi : i < p.fFunctions.length := by omega
    (repeat (with_reducible refine And.intro ?_ ?_; focus first | omega | rfl | assumption | exact ⟨_, rfl, rfl⟩ | (simp; omega) | (simp; done)))
    rw [snocS]
    exact inv_at (i + 1, a ++ [p.fFunctions[i].fName]) (by simp only; omega) rfl rfl ⟨by simp only; omega, by simp only; rw [p2, take_snoc (by simpa [fnNames] using hi)]; simp [fnNames]⟩
  · have ha : a = fnNames p := by rw [p2, List.take_of_length_le (by simp [fnNames]; omega)]
    rw [ha]
end Go.Proofs.YtnleocfkdidhoaaGreat

namespace Go.Proofs.YtnleocfkdidhoaaGreat
open Go Go.Ab
/-- The objects of impl.declared. -/
def dclS (a b c d : List (List UInt8)) (rest : List Ab.Obj) (S : Store) : Store :=
  (.box [.fsl [], .fsl [], .fsl [], .fsl []] :: .box [.tsl (0, 2) (a.map encS), .tsl (0, 3) (b.map encS), .tsl (0, 4) (c.map encS), .tsl (0, 5) (d.map encS)] :: .tok 1 (a.map encS) :: .tok 1 (b.map encS) :: .tok 1 (c.map encS) :: .tok 1 (d.map encS) :: rest) :: S
theorem declared_ok (ps : List MPackage) (hl : ps.length ≤ 4194304) (hz : szRows (ps.map MPackage.enc) ≤ 4194304) : PCall Tryz.prog 155 [.c (.d (.sl (ps.map MPackage.enc)))] (.agg [.d (.sl ((allTr ps).map encS)), .d (.sl ((allDt ps).map encS)), .d (.sl ((allCt ps).map encS)), .d (.sl ((allFn ps).map encS))]) := fun S => by
  have hn := names_le ps
  refine acall_cw (rs := [.cell 2 216]) Tryz.checked.mixed Tryz.func155 Tryz.ntmps155 rfl rfl rfl rfl rfl ?_
  simp -implicitDefEqProofs (disch := omega) only [go_sem]
  (repeat (with_reducible refine And.intro ?_ ?_; focus first | omega | rfl | assumption | exact ⟨_, rfl, rfl⟩ | (simp; omega) | (simp; done)))
  refine aw_tokbox 1 0 1 [] [.fsl [], .fsl [], .fsl [], .fsl []] rfl rfl (by simp) ?_
  refine aw_tokbox 1 1 1 [] [.tsl (0, 2) [], .fsl [], .fsl [], .fsl []] rfl rfl (by simp) ?_
  refine aw_tokbox 1 2 1 [] [.tsl (0, 2) [], .tsl (0, 3) [], .fsl [], .fsl []] rfl rfl (by simp) ?_
  refine aw_tokbox 1 3 1 [] [.tsl (0, 2) [], .tsl (0, 3) [], .tsl (0, 4) [], .fsl []] rfl rfl (by simp) ?_
  refine loop_at (ι := Nat × List (List UInt8) × List (List UInt8) × List (List UInt8) × List (List UInt8)) Tryz.checked.mixed rfl [2, 3, 15, 16, 17] (fun y => [.c (.ptr (0, 0) 0), .c (.ptr (0, 1) 0), .c (.d (.sl (ps.map MPackage.enc))), .c (.d (.i .i64 ps.length)), .c (.d (.i .i64 y.1))])
    (fun y => [.box [.fsl [], .fsl [], .fsl [], .fsl []], .box [.tsl (0, 2) (y.2.1.map encS), .tsl (0, 3) (y.2.2.1.map encS), .tsl (0, 4) (y.2.2.2.1.map encS), .tsl (0, 5) (y.2.2.2.2.map encS)], .tok 1 (y.2.1.map encS), .tok 1 (y.2.2.1.map encS), .tok 1 (y.2.2.2.1.map encS), .tok 1 (y.2.2.2.2.map encS)] :: S)
    (fun y => y.1 ≤ ps.length ∧ y.2.1 = allTr (ps.take y.1) ∧ y.2.2.1 = allDt (ps.take y.1) ∧ y.2.2.2.1 = allCt (ps.take y.1) ∧ y.2.2.2.2 = allFn (ps.take y.1)) (fun y => ps.length - y.1) (0, [], [], [], []) rfl rfl ⟨Nat.zero_le _, rfl, rfl, rfl, rfl⟩ ?_
  rintro ⟨i, a, b, c, d⟩ ⟨p1, p2, p3, p4, p5⟩
  simp only at p1 p2 p3 p4 p5
  simp -implicitDefEqProofs (disch := omega) only [go_sem]
  with_reducible refine split2 (fun hb => ?_) (fun hb => ?_) <;> have h := hb <;> (try simp only [wf_preprocess] at h) <;> simp -implicitDefEqProofs (disch := omega) only [go_sem, hb] <;> (repeat (with_reducible refine And.intro ?_ ?_; focus first | omega | rfl | assumption | exact ⟨_, rfl, rfl⟩ | (simp; omega) | (simp; done)))
  · have hi : i < ps.length := by omega
    have hp : ps[i].sz ≤ 4194304 := by
      have hx : ps[i].sz ≤ szRows (ps.map MPackage.enc) := szRows_mem (List.mem_map_of_mem (List.getElem_mem hi))
      omega
    (repeat (with_reducible refine And.intro ?_ ?_; focus first | omega | rfl | assumption | exact ⟨_, rfl, rfl⟩ | (simp; omega) | (simp; done)))
    have sub : ∀ (f : MPackage → List (List UInt8)), ((ps.take (i + 1)).flatMap f).length ≤ (ps.flatMap f).length := fun f => by
      conv => rhs; rw [← List.take_append_drop (i + 1) ps]
      rw [List.flatMap_append, List.length_append]
      omega
    have e2 : allTr (ps.take (i + 1)) = a ++ trNames ps[i] := by rw [p2]; exact flat_take _ hi
    have e3 : allDt (ps.take (i + 1)) = b ++ dtNames ps[i] := by rw [p3]; exact flat_take _ hi
    have e4 : allCt (ps.take (i + 1)) = c ++ ctNames ps[i].fDataTypes := by rw [p4]; exact flat_take _ hi
    have e5 : allFn (ps.take (i + 1)) = d ++ fnNames ps[i] := by rw [p5]; exact flat_take _ hi
    have l2 : (a ++ trNames ps[i]).length ≤ 4194304 := by rw [← e2]; have := sub trNames; unfold allTr at *; omega
    have l3 : (b ++ dtNames ps[i]).length ≤ 4194304 := by rw [← e3]; have := sub dtNames; unfold allDt at *; omega
    have l4 : (c ++ ctNames ps[i].fDataTypes).length ≤ 4194304 := by rw [← e4]; have := sub (fun p => ctNames p.fDataTypes); unfold allCt at *; omega
    have l5 : (d ++ fnNames ps[i]).length ≤ 4194304 := by rw [← e5]; have := sub fnNames; unfold allFn at *; omega
    have hbp := MPackage.bounds hp
    rw [List.length_append] at l2 l3 l4 l5
    -- the traits
    refine loop_at (ι := Nat × List (List UInt8)) Tryz.checked.mixed rfl [2, 3, 5, 15, 16, 17, 22, 23, 24] (fun y => [.c (.ptr (0, 0) 0), .c (.ptr (0, 1) 0), .c (.ptr (0, 6) 0), .c (.d (.sl (ps.map MPackage.enc))), .c (.d (.i .i64 ps.length)), .c (.d (.i .i64 i)), .c (.d (.sl (ps[i].fTraits.map MTrait.enc))), .c (.d (.i .i64 ps[i].fTraits.length)), .c (.d (.i .i64 y.1))]) (fun y => dclS y.2 b c d [.box (ps[i].enc.map .d)] S)
      (fun y => y.1 ≤ ps[i].fTraits.length ∧ y.2 = a ++ (trNames ps[i]).take y.1) (fun y => ps[i].fTraits.length - y.1) (0, a) rfl ?_ ⟨Nat.zero_le _, by simp⟩ ?_
    · unfold dclS
      simp -implicitDefEqProofs (disch := omega) only [go_sem]
    rintro ⟨k, a'⟩ ⟨q1, q2⟩
    simp only at q1 q2
    have ql : a'.length ≤ 4194304 := by rw [q2]; simp [trNames] at *; omega
    unfold dclS
    simp -implicitDefEqProofs (disch := omega) only [go_sem]
    with_reducible refine split2 (fun hb => ?_) (fun hb => ?_) <;> have h := hb <;> (try simp only [wf_preprocess] at h) <;> simp -implicitDefEqProofs (disch := omega) only [go_sem, hb] <;> (repeat (with_reducible refine And.intro ?_ ?_; focus first | omega | rfl | assumption | exact ⟨_, rfl, rfl⟩ | (simp; omega) | (simp; done)))
    · have hk : k < ps[i].fTraits.length := by omega
      have ql' : a'.length + 1 ≤ 4194304 := by rw [q2]; simp [trNames] at *; omega
      (repeat (with_reducible refine And.intro ?_ ?_; focus first | omega | rfl | assumption | exact ⟨_, rfl, rfl⟩ | (simp; omega) | (simp; done)))
      rw [snocS]
      exact inv_drop 7 (by decide) (k + 1, a' ++ [ps[i].fTraits[k].fName]) (by simp only; omega) rfl rfl rfl rfl ⟨by simp only; omega, by simp only; rw [q2, take_snoc (by simpa [trNames] using hk)]; simp [trNames]⟩
    have ha : a' = a ++ trNames ps[i] := by rw [q2, List.take_of_length_le (by simp [trNames]; omega)]
    clear q1 q2 ql hb h
    subst ha
    -- the data types
    refine loop_at (ι := Nat × List (List UInt8) × List (List UInt8)) Tryz.checked.mixed rfl [2, 3, 5, 15, 16, 17, 37, 38, 39] (fun y => [.c (.ptr (0, 0) 0), .c (.ptr (0, 1) 0), .c (.ptr (0, 6) 0), .c (.d (.sl (ps.map MPackage.enc))), .c (.d (.i .i64 ps.length)), .c (.d (.i .i64 i)), .c (.d (.sl (ps[i].fDataTypes.map MDataType.enc))), .c (.d (.i .i64 ps[i].fDataTypes.length)), .c (.d (.i .i64 y.1))]) (fun y => dclS (a ++ trNames ps[i]) y.2.1 y.2.2 d [.box (ps[i].enc.map .d)] S)
      (fun y => y.1 ≤ ps[i].fDataTypes.length ∧ y.2.1 = b ++ (dtNames ps[i]).take y.1 ∧ y.2.2 = c ++ ctNames (ps[i].fDataTypes.take y.1)) (fun y => ps[i].fDataTypes.length - y.1) (0, b, c) rfl ?_ ⟨Nat.zero_le _, by simp, by simp [ctNames]⟩ ?_
    · unfold dclS
      simp -implicitDefEqProofs (disch := omega) only [go_sem]
    rintro ⟨k', b', c'⟩ ⟨q1, q2, q3⟩
    simp only at q1 q2 q3
    unfold dclS
    simp -implicitDefEqProofs (disch := omega) only [go_sem]
    with_reducible refine split2 (fun hb => ?_) (fun hb => ?_) <;> have h := hb <;> (try simp only [wf_preprocess] at h) <;> simp -implicitDefEqProofs (disch := omega) only [go_sem, hb] <;> (repeat (with_reducible refine And.intro ?_ ?_; focus first | omega | rfl | assumption | exact ⟨_, rfl, rfl⟩ | (simp; omega) | (simp; done)))
    · have hk : k' < ps[i].fDataTypes.length := by omega
      have e6 : ctNames (ps[i].fDataTypes.take (k' + 1)) = ctNames (ps[i].fDataTypes.take k') ++ ps[i].fDataTypes[k'].fConstructors.map MConstructor.fName := flat_take _ hk
      have hcl : (ctNames (ps[i].fDataTypes.take (k' + 1))).length ≤ (ctNames ps[i].fDataTypes).length := by
        conv => rhs; rw [← List.take_append_drop (k' + 1) ps[i].fDataTypes]
        unfold ctNames
        rw [List.flatMap_append, List.length_append]
        omega
      have ql' : b'.length + 1 ≤ 4194304 := by rw [q2]; simp [dtNames] at *; omega
      have qc : c'.length + ps[i].fDataTypes[k'].fConstructors.length ≤ 4194304 := by
        rw [e6, List.length_append, List.length_map] at hcl
        rw [q3, List.length_append]
        omega
      (repeat (with_reducible refine And.intro ?_ ?_; focus first | omega | rfl | assumption | exact ⟨_, rfl, rfl⟩ | (simp; omega) | (simp; done)))
      rw [snocS]
      refine loop_at (ι := Nat × List (List UInt8)) Tryz.checked.mixed rfl [2, 3, 5, 15, 16, 17, 37, 38, 39, 51, 52, 53] (fun y => [.c (.ptr (0, 0) 0), .c (.ptr (0, 1) 0), .c (.ptr (0, 6) 0), .c (.d (.sl (ps.map MPackage.enc))), .c (.d (.i .i64 ps.length)), .c (.d (.i .i64 i)), .c (.d (.sl (ps[i].fDataTypes.map MDataType.enc))), .c (.d (.i .i64 ps[i].fDataTypes.length)), .c (.d (.i .i64 k')), .c (.d (.sl (ps[i].fDataTypes[k'].fConstructors.map MConstructor.enc))), .c (.d (.i .i64 ps[i].fDataTypes[k'].fConstructors.length)), .c (.d (.i .i64 y.1))]) (fun y => dclS (a ++ trNames ps[i]) (b' ++ [ps[i].fDataTypes[k'].fName]) y.2 d [.box (ps[i].enc.map .d), .box (ps[i].fDataTypes[k'].enc.map .d)] S)
        (fun y => y.1 ≤ ps[i].fDataTypes[k'].fConstructors.length ∧ y.2 = c' ++ (ps[i].fDataTypes[k'].fConstructors.map MConstructor.fName).take y.1) (fun y => ps[i].fDataTypes[k'].fConstructors.length - y.1) (0, c') rfl ?_ ⟨Nat.zero_le _, by simp⟩ ?_
      · unfold dclS
        simp -implicitDefEqProofs (disch := omega) only [go_sem]
      rintro ⟨m, c''⟩ ⟨r1, r2⟩
      simp only at r1 r2
      have rl : c''.length ≤ 4194304 := by rw [r2]; simp; omega
      unfold dclS
      simp -implicitDefEqProofs (disch := omega) only [go_sem]
      with_reducible refine split2 (fun hb => ?_) (fun hb => ?_) <;> have h := hb <;> (try simp only [wf_preprocess] at h) <;> simp -implicitDefEqProofs (disch := omega) only [go_sem, hb] <;> (repeat (with_reducible refine And.intro ?_ ?_; focus first | omega | rfl | assumption | exact ⟨_, rfl, rfl⟩ | (simp; omega) | (simp; done)))
      · have hm : m < ps[i].fDataTypes[k'].fConstructors.length := by omega
        have rl' : c''.length + 1 ≤ 4194304 := by rw [r2]; simp; omega
        (repeat (with_reducible refine And.intro ?_ ?_; focus first | omega | rfl | assumption | exact ⟨_, rfl, rfl⟩ | (simp; omega) | (simp; done)))
        rw [snocS]
        exact inv_drop 8 (by decide) (m + 1, c'' ++ [ps[i].fDataTypes[k'].fConstructors[m].fName]) (by simp only; omega) rfl rfl rfl rfl ⟨by simp only; omega, by simp only; rw [r2, take_snoc (by simpa using hm)]; simp⟩
      · have hm : m = ps[i].fDataTypes[k'].fConstructors.length := by omega
        have hc : c'' = c' ++ ps[i].fDataTypes[k'].fConstructors.map MConstructor.fName := by rw [r2, List.take_of_length_le (by simp; omega)]
        exact inv_drop 7 (by decide) (k' + 1, b' ++ [ps[i].fDataTypes[k'].fName], c'') (by simp only; omega) rfl rfl rfl rfl ⟨by simp only; omega, by simp only; rw [q2, take_snoc (by simpa [dtNames] using hk)]; simp [dtNames], by simp only; rw [hc, e6, q3, List.append_assoc]⟩
    have hb' : b' = b ++ dtNames ps[i] := by rw [q2, List.take_of_length_le (by simp [dtNames]; omega)]
    have hc' : c' = c ++ ctNames ps[i].fDataTypes := by rw [q3, List.take_of_length_le (by omega)]
    clear q1 q2 q3 hb h
    subst hb'
    subst hc'
    -- the functions
    refine loop_at (ι := Nat × List (List UInt8)) Tryz.checked.mixed rfl [2, 3, 5, 15, 16, 17, 67, 68, 69] (fun y => [.c (.ptr (0, 0) 0), .c (.ptr (0, 1) 0), .c (.ptr (0, 6) 0), .c (.d (.sl (ps.map MPackage.enc))), .c (.d (.i .i64 ps.length)), .c (.d (.i .i64 i)), .c (.d (.sl (ps[i].fFunctions.map MFunction.enc))), .c (.d (.i .i64 ps[i].fFunctions.length)), .c (.d (.i .i64 y.1))]) (fun y => dclS (a ++ trNames ps[i]) (b ++ dtNames ps[i]) (c ++ ctNames ps[i].fDataTypes) y.2 [.box (ps[i].enc.map .d)] S)
      (fun y => y.1 ≤ ps[i].fFunctions.length ∧ y.2 = d ++ (fnNames ps[i]).take y.1) (fun y => ps[i].fFunctions.length - y.1) (0, d) rfl ?_ ⟨Nat.zero_le _, by simp⟩ ?_
    · unfold dclS
      simp -implicitDefEqProofs (disch := omega) only [go_sem]
    rintro ⟨k4, d'⟩ ⟨q1, q2⟩
    simp only at q1 q2
    have ql : d'.length ≤ 4194304 := by rw [q2]; simp [fnNames] at *; omega
    unfold dclS
    simp -implicitDefEqProofs (disch := omega) only [go_sem]
    with_reducible refine split2 (fun hb => ?_) (fun hb => ?_) <;> have h := hb <;> (try simp only [wf_preprocess] at h) <;> simp -implicitDefEqProofs (disch := omega) only [go_sem, hb] <;> (repeat (with_reducible refine And.intro ?_ ?_; focus first | omega | rfl | assumption | exact ⟨_, rfl, rfl⟩ | (simp; omega) | (simp; done)))
    · have hk : k4 < ps[i].fFunctions.length := by omega
      have ql' : d'.length + 1 ≤ 4194304 := by rw [q2]; simp [fnNames] at *; omega
      (repeat (with_reducible refine And.intro ?_ ?_; focus first | omega | rfl | assumption | exact ⟨_, rfl, rfl⟩ | (simp; omega) | (simp; done)))
      rw [snocS]
      exact inv_drop 7 (by decide) (k4 + 1, d' ++ [ps[i].fFunctions[k4].fName]) (by simp only; omega) rfl rfl rfl rfl ⟨by simp only; omega, by simp only; rw [q2, take_snoc (by simpa [fnNames] using hk)]; simp [fnNames]⟩
    · have hd : d' = d ++ fnNames ps[i] := by rw [q2, List.take_of_length_le (by simp [fnNames]; omega)]
      exact inv_drop 6 (by decide) (i + 1, a ++ trNames ps[i], b ++ dtNames ps[i], c ++ ctNames ps[i].fDataTypes, d') (by simp only; omega) rfl rfl rfl rfl ⟨by simp only; omega, e2.symm, e3.symm, e4.symm, by simp only; rw [hd, e5]⟩
  · have hi : i = ps.length := by omega
    rw [List.take_of_length_le (by omega)] at p2 p3 p4 p5
    rw [p2, p3, p4, p5]
theorem areUnique_ok (ps : List MPackage) (hl : ps.length ≤ 4194304) (hz : szRows (ps.map MPackage.enc) ≤ 4194304) : PCall Tryz.prog 81 [.c (.d (.sl (ps.map MPackage.enc)))] (.c (.d (.b (namesUnique ps)))) := fun S => by
  have hn := names_le ps
  refine acall_cw (rs := [.tmp 2]) Tryz.checked.mixed Tryz.func81 Tryz.ntmps81 rfl rfl rfl rfl rfl ?_
  simp -implicitDefEqProofs (disch := omega) only [go_sem]
  refine call_w (declared_ok ps hl hz) ?_
  simp -implicitDefEqProofs (disch := omega) only [go_sem] <;> (repeat (with_reducible refine And.intro ?_ ?_; focus first | omega | rfl | assumption | exact ⟨_, rfl, rfl⟩ | (simp; omega) | (simp; done)))
  refine loop_at (ι := Int) Tryz.checked.mixed rfl [6, 7] (fun i => [.agg [.d (.sl ((allTr ps).map encS)), .d (.sl ((allDt ps).map encS)), .d (.sl ((allCt ps).map encS)), .d (.sl ((allFn ps).map encS))], .c (.d (.i .i64 i))]) (fun _ => [] :: S)
    (fun i => (0 ≤ i ∧ i ≤ 4) ∧ (1 ≤ i → (allTr ps).Nodup) ∧ (2 ≤ i → (allDt ps).Nodup) ∧ (3 ≤ i → (allCt ps).Nodup) ∧ (4 ≤ i → (allFn ps).Nodup)) (fun i => (4 - i).toNat) 0 rfl rfl ⟨⟨by omega, by omega⟩, by omega, by omega, by omega, by omega⟩ ?_
  rintro i ⟨p0, p1, p2, p3, p4⟩
  have hi : i = 0 ∨ i = 1 ∨ i = 2 ∨ i = 3 ∨ i = 4 := by omega
  rcases hi with rfl | rfl | rfl | rfl | rfl
  · simp -implicitDefEqProofs (disch := omega) only [go_sem]
    (repeat (with_reducible refine And.intro ?_ ?_; focus first | omega | rfl | assumption | exact ⟨_, rfl, rfl⟩ | (simp; omega) | (simp; done)))
    refine call_w (implDistinct_ok (allTr ps) (by omega)) ?_
    simp -implicitDefEqProofs (disch := omega) only [go_sem] <;> (repeat (with_reducible refine And.intro ?_ ?_; focus first | omega | rfl | assumption | exact ⟨_, rfl, rfl⟩ | (simp; omega) | (simp; done)))
    with_reducible refine split2 (fun hb => ?_) (fun hb => ?_) <;> have h := hb <;> (try simp only [wf_preprocess] at h) <;> simp -implicitDefEqProofs (disch := omega) only [go_sem, hb] <;> (repeat (with_reducible refine And.intro ?_ ?_; focus first | omega | rfl | assumption | exact ⟨_, rfl, rfl⟩ | (simp; omega) | (simp; done)))
    · exact bool_eq (by unfold namesUnique; rw [dec_false h]; rfl)
    · exact inv_at 1 (by decide) rfl rfl ⟨⟨by omega, by omega⟩, fun _ => h, by omega, by omega, by omega⟩
  · simp -implicitDefEqProofs (disch := omega) only [go_sem]
    (repeat (with_reducible refine And.intro ?_ ?_; focus first | omega | rfl | assumption | exact ⟨_, rfl, rfl⟩ | (simp; omega) | (simp; done)))
    refine call_w (implDistinct_ok (allDt ps) (by omega)) ?_
    simp -implicitDefEqProofs (disch := omega) only [go_sem] <;> (repeat (with_reducible refine And.intro ?_ ?_; focus first | omega | rfl | assumption | exact ⟨_, rfl, rfl⟩ | (simp; omega) | (simp; done)))
    with_reducible refine split2 (fun hb => ?_) (fun hb => ?_) <;> have h := hb <;> (try simp only [wf_preprocess] at h) <;> simp -implicitDefEqProofs (disch := omega) only [go_sem, hb] <;> (repeat (with_reducible refine And.intro ?_ ?_; focus first | omega | rfl | assumption | exact ⟨_, rfl, rfl⟩ | (simp; omega) | (simp; done)))
    · exact bool_eq (by unfold namesUnique; rw [dec_false h]; simp)
    · exact inv_at 2 (by decide) rfl rfl ⟨⟨by omega, by omega⟩, fun _ => p1 (by omega), fun _ => h, by omega, by omega⟩
  · simp -implicitDefEqProofs (disch := omega) only [go_sem]
    (repeat (with_reducible refine And.intro ?_ ?_; focus first | omega | rfl | assumption | exact ⟨_, rfl, rfl⟩ | (simp; omega) | (simp; done)))
    refine call_w (implDistinct_ok (allCt ps) (by omega)) ?_
    simp -implicitDefEqProofs (disch := omega) only [go_sem] <;> (repeat (with_reducible refine And.intro ?_ ?_; focus first | omega | rfl | assumption | exact ⟨_, rfl, rfl⟩ | (simp; omega) | (simp; done)))
    with_reducible refine split2 (fun hb => ?_) (fun hb => ?_) <;> have h := hb <;> (try simp only [wf_preprocess] at h) <;> simp -implicitDefEqProofs (disch := omega) only [go_sem, hb] <;> (repeat (with_reducible refine And.intro ?_ ?_; focus first | omega | rfl | assumption | exact ⟨_, rfl, rfl⟩ | (simp; omega) | (simp; done)))
    · exact bool_eq (by unfold namesUnique; rw [dec_false h]; simp)
    · exact inv_at 3 (by decide) rfl rfl ⟨⟨by omega, by omega⟩, fun _ => p1 (by omega), fun _ => p2 (by omega), fun _ => h, by omega⟩
  · simp -implicitDefEqProofs (disch := omega) only [go_sem]
    (repeat (with_reducible refine And.intro ?_ ?_; focus first | omega | rfl | assumption | exact ⟨_, rfl, rfl⟩ | (simp; omega) | (simp; done)))
    refine call_w (implDistinct_ok (allFn ps) (by omega)) ?_
    simp -implicitDefEqProofs (disch := omega) only [go_sem] <;> (repeat (with_reducible refine And.intro ?_ ?_; focus first | omega | rfl | assumption | exact ⟨_, rfl, rfl⟩ | (simp; omega) | (simp; done)))
    with_reducible refine split2 (fun hb => ?_) (fun hb => ?_) <;> have h := hb <;> (try simp only [wf_preprocess] at h) <;> simp -implicitDefEqProofs (disch := omega) only [go_sem, hb] <;> (repeat (with_reducible refine And.intro ?_ ?_; focus first | omega | rfl | assumption | exact ⟨_, rfl, rfl⟩ | (simp; omega) | (simp; done)))
    · exact bool_eq (by unfold namesUnique; rw [dec_false h]; simp)
    · exact inv_at 4 (by decide) rfl rfl ⟨⟨by omega, by omega⟩, fun _ => p1 (by omega), fun _ => p2 (by omega), fun _ => p3 (by omega), fun _ => h⟩
  · simp -implicitDefEqProofs (disch := omega) only [go_sem]
    exact bool_eq (by unfold namesUnique; rw [dec_true (p1 (by omega)), dec_true (p2 (by omega)), dec_true (p3 (by omega)), dec_true (p4 (by omega))]; rfl)
end Go.Proofs.YtnleocfkdidhoaaGreat

namespace Go.Ab
noncomputable def pkgItems (p : MPackage) : Bool := p.fTraits.all validTrait && (p.fDataTypes.all validData && (p.fInstances.all validInst && p.fFunctions.all validFn))
noncomputable def pkgHead (p : MPackage) : Bool := validName p.fName && (dec (p.fDeps.length ≤ 5) && (namesOk p.fDeps && (!dec (p.fName ∈ p.fDeps) && dec (p.fTraits.length + p.fDataTypes.length + p.fInstances.length + p.fFunctions.length ≤ 24))))
noncomputable def validPkg (p : MPackage) : Bool := pkgHead p && (namesUnique [p] && pkgItems p)
theorem MPackage.sum (x : MPackage) : x.fName.length + (x.fDeps.length + szRows (x.fDeps.map encS)) + (x.fTraits.length + szRows (x.fTraits.map MTrait.enc)) + (x.fDataTypes.length + szRows (x.fDataTypes.map MDataType.enc)) + (x.fInstances.length + szRows (x.fInstances.map MInstance.enc)) + (x.fFunctions.length + szRows (x.fFunctions.map MFunction.enc)) ≤ x.sz := by
  simp only [MPackage.sz, MPackage.enc_eq, szRow, szRow_append, D.sz, List.length_map]
  omega
theorem all_drop {α : Type} {f : α → Bool} {xs : List α} {i : Nat} (hi : i < xs.length) : (xs.drop i).all f = (f xs[i] && (xs.drop (i + 1)).all f) := by
  rw [List.drop_eq_getElem_cons hi, List.all_cons]
end Go.Ab
namespace Go.Proofs.YtnleocfkdidhoaaGreat
open Go Go.Ab
theorem implIndexOf_ok (xs : List (List UInt8)) (s : List UInt8) (hl : xs.length ≤ 1073741824) : PCall Tryz.prog 80 [.c (.d (.sl (xs.map encS))), .c (.d (.s s))] (.c (.d (.i .i64 (indexS xs s)))) := fun S => by
  refine acall_cw (rs := [.tmp 4]) Tryz.checked.mixed Tryz.func80 Tryz.ntmps80 rfl rfl rfl rfl rfl ?_
  simp -implicitDefEqProofs (disch := omega) only [go_sem]
  refine call_w (indexS_ok xs s hl) ?_
  simp -implicitDefEqProofs (disch := omega) only [go_sem] <;> (repeat (with_reducible refine And.intro ?_ ?_; focus first | omega | rfl | assumption | exact ⟨_, rfl, rfl⟩ | (simp; omega) | (simp; done)))
set_option maxHeartbeats 4000000 in
theorem implValidPkg_ok (p : MPackage) (hsz : p.sz ≤ 4194304) : PCall Tryz.prog 21 [p.v] (.c (.d (.b (validPkg p)))) := fun S => by
  have hs := MPackage.sum p
  have hV : ∀ s ∈ p.fDeps, s.length ≤ 4194304 := fun s h => by have := strs_b h; omega
  have no : pkgHead p = false → V.c (.d (.b false)) = V.c (.d (.b (validPkg p))) := fun h => bool_eq (by unfold validPkg; rw [h]; rfl)
  have hu := areUnique_ok [p] (by simp) (by simp [szRows]; have : szRow p.enc = p.sz := rfl; omega)
  have hix : decide (indexS p.fDeps p.fName ≥ 0) = dec (p.fName ∈ p.fDeps) := indexS_pos
  refine acall_cw (rs := [.tmp 2]) Tryz.checked.mixed Tryz.func21 Tryz.ntmps21 rfl rfl rfl rfl rfl ?_
  simp -implicitDefEqProofs (disch := omega) only [go_sem]
  refine call_w (implValidName_ok p.fName (by omega)) ?_
  simp -implicitDefEqProofs (disch := omega) only [go_sem] <;> (repeat (with_reducible refine And.intro ?_ ?_; focus first | omega | rfl | assumption | exact ⟨_, rfl, rfl⟩ | (simp; omega) | (simp; done)))
  with_reducible refine split2 (fun hb => ?_) (fun hb => ?_) <;> have h := hb <;> (try simp only [wf_preprocess] at h) <;> simp -implicitDefEqProofs (disch := omega) only [go_sem, hb] <;> (repeat (with_reducible refine And.intro ?_ ?_; focus first | omega | rfl | assumption | exact ⟨_, rfl, rfl⟩ | (simp; omega) | (simp; done)))
  · exact no (by unfold pkgHead; rw [h]; rfl)
  have k1 := h
  with_reducible refine split2 (fun hb => ?_) (fun hb => ?_) <;> have h := hb <;> (try simp only [wf_preprocess] at h) <;> simp -implicitDefEqProofs (disch := omega) only [go_sem, hb] <;> (repeat (with_reducible refine And.intro ?_ ?_; focus first | omega | rfl | assumption | exact ⟨_, rfl, rfl⟩ | (simp; omega) | (simp; done)))
  · exact no (by unfold pkgHead; rw [dec_false (show ¬ p.fDeps.length ≤ 5 by omega)]; simp)
  have k2 := h
  (repeat (with_reducible refine And.intro ?_ ?_; focus first | omega | rfl | assumption | exact ⟨_, rfl, rfl⟩ | (simp; omega) | (simp; done)))
  refine call_w (areNames_ok p.fDeps (by omega) hV) ?_
  simp -implicitDefEqProofs (disch := omega) only [go_sem] <;> (repeat (with_reducible refine And.intro ?_ ?_; focus first | omega | rfl | assumption | exact ⟨_, rfl, rfl⟩ | (simp; omega) | (simp; done)))
  with_reducible refine split2 (fun hb => ?_) (fun hb => ?_) <;> have h := hb <;> (try simp only [wf_preprocess] at h) <;> simp -implicitDefEqProofs (disch := omega) only [go_sem, hb] <;> (repeat (with_reducible refine And.intro ?_ ?_; focus first | omega | rfl | assumption | exact ⟨_, rfl, rfl⟩ | (simp; omega) | (simp; done)))
  · exact no (by unfold pkgHead; rw [h]; simp)
  have k3 := h
  (repeat (with_reducible refine And.intro ?_ ?_; focus first | omega | rfl | assumption | exact ⟨_, rfl, rfl⟩ | (simp; omega) | (simp; done)))
  refine call_w (implIndexOf_ok p.fDeps p.fName (by omega)) ?_
  simp -implicitDefEqProofs (disch := omega) only [go_sem]
  rw [show decide (0 ≤ indexS p.fDeps p.fName) = dec (p.fName ∈ p.fDeps) from hix]
  with_reducible refine split2 (fun hb => ?_) (fun hb => ?_) <;> have h := hb <;> (try simp only [wf_preprocess] at h) <;> simp -implicitDefEqProofs (disch := omega) only [go_sem, hb] <;> (repeat (with_reducible refine And.intro ?_ ?_; focus first | omega | rfl | assumption | exact ⟨_, rfl, rfl⟩ | (simp; omega) | (simp; done)))
  · exact no (by unfold pkgHead; rw [dec_true h]; simp)
  have k4 := h
  with_reducible refine split2 (fun hb => ?_) (fun hb => ?_) <;> have h := hb <;> (try simp only [wf_preprocess] at h) <;> simp -implicitDefEqProofs (disch := omega) only [go_sem, hb] <;> (repeat (with_reducible refine And.intro ?_ ?_; focus first | omega | rfl | assumption | exact ⟨_, rfl, rfl⟩ | (simp; omega) | (simp; done)))
  · exact no (by unfold pkgHead; rw [dec_false (show ¬ p.fTraits.length + p.fDataTypes.length + p.fInstances.length + p.fFunctions.length ≤ 24 by omega)]; simp)
  have hh : pkgHead p = true := by unfold pkgHead; rw [k1, k3, dec_true (show p.fDeps.length ≤ 5 by omega), dec_false k4, dec_true (by omega)]; rfl
  simp only [List.map_cons, List.map_nil] at hu
  (repeat (with_reducible refine And.intro ?_ ?_; focus first | omega | rfl | assumption | exact ⟨_, rfl, rfl⟩ | (simp; omega) | (simp; done)))
  refine call_w hu ?_
  simp -implicitDefEqProofs (disch := omega) only [go_sem]
  clear hu hix no k1 k2 k3 k4
  have fin : validPkg p = ((((namesUnique [p] && p.fTraits.all validTrait) && p.fDataTypes.all validData) && p.fInstances.all validInst) && p.fFunctions.all validFn) := by unfold validPkg pkgItems; rw [hh]; simp [Bool.and_assoc]
  generalize namesUnique [p] = b0 at fin ⊢
  refine loop_at (ι := Nat × Bool) Tryz.checked.mixed rfl [1, 3, 56, 57, 58] (fun y => [.c (.ptr (0, 0) 0), .c (.d (.b y.2)), .c (.d (.sl (p.fTraits.map MTrait.enc))), .c (.d (.i .i64 p.fTraits.length)), .c (.d (.i .i64 y.1))]) (fun _ => [.box (p.enc.map .d)] :: S)
    (fun y => y.1 ≤ p.fTraits.length ∧ (y.2 && (p.fTraits.drop y.1).all validTrait) = (b0 && p.fTraits.all validTrait)) (fun y => p.fTraits.length - y.1) (0, b0) rfl ?_ ⟨Nat.zero_le _, rfl⟩ ?_
  · simp -implicitDefEqProofs (disch := omega) only [go_sem]
  rintro ⟨i, b⟩ ⟨p1, p2⟩
  simp only at p1 p2
  simp -implicitDefEqProofs (disch := omega) only [go_sem]
  with_reducible refine split2 (fun hb => ?_) (fun hb => ?_) <;> have h := hb <;> (try simp only [wf_preprocess] at h) <;> simp -implicitDefEqProofs (disch := omega) only [go_sem, hb] <;> (repeat (with_reducible refine And.intro ?_ ?_; focus first | omega | rfl | assumption | exact ⟨_, rfl, rfl⟩ | (simp; omega) | (simp; done)))
  · have hi : i < p.fTraits.length := by omega
    have hx : p.fTraits[i].sz ≤ szRows (p.fTraits.map MTrait.enc) := szRows_mem (List.mem_map_of_mem (List.getElem_mem hi))
    rw [all_drop hi] at p2
    (repeat (with_reducible refine And.intro ?_ ?_; focus first | omega | rfl | assumption | exact ⟨_, rfl, rfl⟩ | (simp; omega) | (simp; done)))
    with_reducible refine split2 (fun hb => ?_) (fun hb => ?_) <;> have h := hb <;> (try simp only [wf_preprocess] at h) <;> simp -implicitDefEqProofs (disch := omega) only [go_sem, hb] <;> (repeat (with_reducible refine And.intro ?_ ?_; focus first | omega | rfl | assumption | exact ⟨_, rfl, rfl⟩ | (simp; omega) | (simp; done)))
    · have hb1 := h
      rw [hb1, Bool.true_and] at p2
      refine call_w (implValidTrait_ok p.fTraits[i] (by omega)) ?_
      simp -implicitDefEqProofs (disch := omega) only [go_sem] <;> (repeat (with_reducible refine And.intro ?_ ?_; focus first | omega | rfl | assumption | exact ⟨_, rfl, rfl⟩ | (simp; omega) | (simp; done)))
      exact inv_drop 1 (by decide) (i + 1, validTrait p.fTraits[i]) (by simp only; omega) rfl rfl rfl rfl ⟨by simp only; omega, p2⟩
    · have hb1 := h
      rw [hb1, Bool.false_and] at p2
      exact inv_drop 1 (by decide) (i + 1, false) (by simp only; omega) rfl rfl rfl rfl ⟨by simp only; omega, p2⟩
  rw [List.drop_of_length_le (by omega), List.all_nil, Bool.and_true] at p2
  rw [← p2] at fin
  clear p2 p1 hb h
  generalize b = b1 at fin ⊢
  refine loop_at (ι := Nat × Bool) Tryz.checked.mixed rfl [1, 3, 69, 70, 71] (fun y => [.c (.ptr (0, 0) 0), .c (.d (.b y.2)), .c (.d (.sl (p.fDataTypes.map MDataType.enc))), .c (.d (.i .i64 p.fDataTypes.length)), .c (.d (.i .i64 y.1))]) (fun _ => [.box (p.enc.map .d)] :: S)
    (fun y => y.1 ≤ p.fDataTypes.length ∧ (y.2 && (p.fDataTypes.drop y.1).all validData) = (b1 && p.fDataTypes.all validData)) (fun y => p.fDataTypes.length - y.1) (0, b1) rfl ?_ ⟨Nat.zero_le _, rfl⟩ ?_
  · simp -implicitDefEqProofs (disch := omega) only [go_sem]
  rintro ⟨i, b⟩ ⟨p1, p2⟩
  simp only at p1 p2
  simp -implicitDefEqProofs (disch := omega) only [go_sem]
  with_reducible refine split2 (fun hb => ?_) (fun hb => ?_) <;> have h := hb <;> (try simp only [wf_preprocess] at h) <;> simp -implicitDefEqProofs (disch := omega) only [go_sem, hb] <;> (repeat (with_reducible refine And.intro ?_ ?_; focus first | omega | rfl | assumption | exact ⟨_, rfl, rfl⟩ | (simp; omega) | (simp; done)))
  · have hi : i < p.fDataTypes.length := by omega
    have hx : p.fDataTypes[i].sz ≤ szRows (p.fDataTypes.map MDataType.enc) := szRows_mem (List.mem_map_of_mem (List.getElem_mem hi))
    rw [all_drop hi] at p2
    (repeat (with_reducible refine And.intro ?_ ?_; focus first | omega | rfl | assumption | exact ⟨_, rfl, rfl⟩ | (simp; omega) | (simp; done)))
    with_reducible refine split2 (fun hb => ?_) (fun hb => ?_) <;> have h := hb <;> (try simp only [wf_preprocess] at h) <;> simp -implicitDefEqProofs (disch := omega) only [go_sem, hb] <;> (repeat (with_reducible refine And.intro ?_ ?_; focus first | omega | rfl | assumption | exact ⟨_, rfl, rfl⟩ | (simp; omega) | (simp; done)))
    · have hb1 := h
      rw [hb1, Bool.true_and] at p2
      refine call_w (implValidData_ok p.fDataTypes[i] (by omega)) ?_
      simp -implicitDefEqProofs (disch := omega) only [go_sem] <;> (repeat (with_reducible refine And.intro ?_ ?_; focus first | omega | rfl | assumption | exact ⟨_, rfl, rfl⟩ | (simp; omega) | (simp; done)))
      exact inv_drop 1 (by decide) (i + 1, validData p.fDataTypes[i]) (by simp only; omega) rfl rfl rfl rfl ⟨by simp only; omega, p2⟩
    · have hb1 := h
      rw [hb1, Bool.false_and] at p2
      exact inv_drop 1 (by decide) (i + 1, false) (by simp only; omega) rfl rfl rfl rfl ⟨by simp only; omega, p2⟩
  rw [List.drop_of_length_le (by omega), List.all_nil, Bool.and_true] at p2
  rw [← p2] at fin
  clear p2 p1 hb h
  generalize b = b2 at fin ⊢
  refine loop_at (ι := Nat × Bool) Tryz.checked.mixed rfl [1, 3, 82, 83, 84] (fun y => [.c (.ptr (0, 0) 0), .c (.d (.b y.2)), .c (.d (.sl (p.fInstances.map MInstance.enc))), .c (.d (.i .i64 p.fInstances.length)), .c (.d (.i .i64 y.1))]) (fun _ => [.box (p.enc.map .d)] :: S)
    (fun y => y.1 ≤ p.fInstances.length ∧ (y.2 && (p.fInstances.drop y.1).all validInst) = (b2 && p.fInstances.all validInst)) (fun y => p.fInstances.length - y.1) (0, b2) rfl ?_ ⟨Nat.zero_le _, rfl⟩ ?_
  · simp -implicitDefEqProofs (disch := omega) only [go_sem]
  rintro ⟨i, b⟩ ⟨p1, p2⟩
  simp only at p1 p2
  simp -implicitDefEqProofs (disch := omega) only [go_sem]
  with_reducible refine split2 (fun hb => ?_) (fun hb => ?_) <;> have h := hb <;> (try simp only [wf_preprocess] at h) <;> simp -implicitDefEqProofs (disch := omega) only [go_sem, hb] <;> (repeat (with_reducible refine And.intro ?_ ?_; focus first | omega | rfl | assumption | exact ⟨_, rfl, rfl⟩ | (simp; omega) | (simp; done)))
  · have hi : i < p.fInstances.length := by omega
    have hx : p.fInstances[i].sz ≤ szRows (p.fInstances.map MInstance.enc) := szRows_mem (List.mem_map_of_mem (List.getElem_mem hi))
    rw [all_drop hi] at p2
    (repeat (with_reducible refine And.intro ?_ ?_; focus first | omega | rfl | assumption | exact ⟨_, rfl, rfl⟩ | (simp; omega) | (simp; done)))
    with_reducible refine split2 (fun hb => ?_) (fun hb => ?_) <;> have h := hb <;> (try simp only [wf_preprocess] at h) <;> simp -implicitDefEqProofs (disch := omega) only [go_sem, hb] <;> (repeat (with_reducible refine And.intro ?_ ?_; focus first | omega | rfl | assumption | exact ⟨_, rfl, rfl⟩ | (simp; omega) | (simp; done)))
    · have hb1 := h
      rw [hb1, Bool.true_and] at p2
      refine call_w (implValidInst_ok p.fInstances[i] (by omega)) ?_
      simp -implicitDefEqProofs (disch := omega) only [go_sem] <;> (repeat (with_reducible refine And.intro ?_ ?_; focus first | omega | rfl | assumption | exact ⟨_, rfl, rfl⟩ | (simp; omega) | (simp; done)))
      exact inv_drop 1 (by decide) (i + 1, validInst p.fInstances[i]) (by simp only; omega) rfl rfl rfl rfl ⟨by simp only; omega, p2⟩
    · have hb1 := h
      rw [hb1, Bool.false_and] at p2
      exact inv_drop 1 (by decide) (i + 1, false) (by simp only; omega) rfl rfl rfl rfl ⟨by simp only; omega, p2⟩
  rw [List.drop_of_length_le (by omega), List.all_nil, Bool.and_true] at p2
  rw [← p2] at fin
  clear p2 p1 hb h
  generalize b = b3 at fin ⊢
  refine loop_at (ι := Nat × Bool) Tryz.checked.mixed rfl [3, 95, 96, 97] (fun y => [.c (.d (.b y.2)), .c (.d (.sl (p.fFunctions.map MFunction.enc))), .c (.d (.i .i64 p.fFunctions.length)), .c (.d (.i .i64 y.1))]) (fun _ => [.box (p.enc.map .d)] :: S)
    (fun y => y.1 ≤ p.fFunctions.length ∧ (y.2 && (p.fFunctions.drop y.1).all validFn) = (b3 && p.fFunctions.all validFn)) (fun y => p.fFunctions.length - y.1) (0, b3) rfl ?_ ⟨Nat.zero_le _, rfl⟩ ?_
  · simp -implicitDefEqProofs (disch := omega) only [go_sem]
  rintro ⟨i, b⟩ ⟨p1, p2⟩
  simp only at p1 p2
  simp -implicitDefEqProofs (disch := omega) only [go_sem]
  with_reducible refine split2 (fun hb => ?_) (fun hb => ?_) <;> have h := hb <;> (try simp only [wf_preprocess] at h) <;> simp -implicitDefEqProofs (disch := omega) only [go_sem, hb] <;> (repeat (with_reducible refine And.intro ?_ ?_; focus first | omega | rfl | assumption | exact ⟨_, rfl, rfl⟩ | (simp; omega) | (simp; done)))
  · have hi : i < p.fFunctions.length := by omega
    have hx : p.fFunctions[i].sz ≤ szRows (p.fFunctions.map MFunction.enc) := szRows_mem (List.mem_map_of_mem (List.getElem_mem hi))
    rw [all_drop hi] at p2
    (repeat (with_reducible refine And.intro ?_ ?_; focus first | omega | rfl | assumption | exact ⟨_, rfl, rfl⟩ | (simp; omega) | (simp; done)))
    with_reducible refine split2 (fun hb => ?_) (fun hb => ?_) <;> have h := hb <;> (try simp only [wf_preprocess] at h) <;> simp -implicitDefEqProofs (disch := omega) only [go_sem, hb] <;> (repeat (with_reducible refine And.intro ?_ ?_; focus first | omega | rfl | assumption | exact ⟨_, rfl, rfl⟩ | (simp; omega) | (simp; done)))
    · have hb1 := h
      rw [hb1, Bool.true_and] at p2
      refine call_w (implValidFn_ok p.fFunctions[i] (by omega)) ?_
      simp -implicitDefEqProofs (disch := omega) only [go_sem] <;> (repeat (with_reducible refine And.intro ?_ ?_; focus first | omega | rfl | assumption | exact ⟨_, rfl, rfl⟩ | (simp; omega) | (simp; done)))
      exact inv_drop 1 (by decide) (i + 1, validFn p.fFunctions[i]) (by simp only; omega) rfl rfl rfl rfl ⟨by simp only; omega, p2⟩
    · have hb1 := h
      rw [hb1, Bool.false_and] at p2
      exact inv_drop 1 (by decide) (i + 1, false) (by simp only; omega) rfl rfl rfl rfl ⟨by simp only; omega, p2⟩
  rw [List.drop_of_length_le (by omega), List.all_nil, Bool.and_true] at p2
  rw [← p2] at fin
  clear p2 p1 hb h
  exact bool_eq fin.symm
set_option maxHeartbeats 4000000 in
theorem l15Right_ok (p : MPackage) (hsz : p.sz ≤ 4194304) : PCall Tryz.prog 72 [p.v] (.c (.d (.b (pkgItems p)))) := fun S => by
  have hs := MPackage.sum p
  refine acall_cw (rs := [.tmp 2]) Tryz.checked.mixed Tryz.func72 Tryz.ntmps72 rfl rfl rfl rfl rfl ?_
  simp -implicitDefEqProofs (disch := omega) only [go_sem]
  refine loop_at (ι := Nat) Tryz.checked.mixed rfl [1, 3] (fun i => [.c (.ptr (0, 0) 0), .c (.d (.i .i64 i))]) (fun _ => [.box (p.enc.map .d)] :: S)
    (fun i => i ≤ p.fTraits.length ∧ (p.fTraits.drop i).all validTrait = p.fTraits.all validTrait) (fun i => p.fTraits.length - i) 0 rfl ?_ ⟨Nat.zero_le _, rfl⟩ ?_
  · simp -implicitDefEqProofs (disch := omega) only [go_sem]
  rintro i ⟨p1, p2⟩
  simp -implicitDefEqProofs (disch := omega) only [go_sem]
  with_reducible refine split2 (fun hb => ?_) (fun hb => ?_) <;> have h := hb <;> (try simp only [wf_preprocess] at h) <;> simp -implicitDefEqProofs (disch := omega) only [go_sem, hb] <;> (repeat (with_reducible refine And.intro ?_ ?_; focus first | omega | rfl | assumption | exact ⟨_, rfl, rfl⟩ | (simp; omega) | (simp; done)))
  · have hi : i < p.fTraits.length := by omega
    have hx : p.fTraits[i].sz ≤ szRows (p.fTraits.map MTrait.enc) := szRows_mem (List.mem_map_of_mem (List.getElem_mem hi))
    rw [all_drop hi] at p2
    (repeat (with_reducible refine And.intro ?_ ?_; focus first | omega | rfl | assumption | exact ⟨_, rfl, rfl⟩ | (simp; omega) | (simp; done)))
    refine call_w (specValidTrait_ok p.fTraits[i] (by omega)) ?_
    simp -implicitDefEqProofs (disch := omega) only [go_sem] <;> (repeat (with_reducible refine And.intro ?_ ?_; focus first | omega | rfl | assumption | exact ⟨_, rfl, rfl⟩ | (simp; omega) | (simp; done)))
    with_reducible refine split2 (fun hb => ?_) (fun hb => ?_) <;> have h := hb <;> (try simp only [wf_preprocess] at h) <;> simp -implicitDefEqProofs (disch := omega) only [go_sem, hb] <;> (repeat (with_reducible refine And.intro ?_ ?_; focus first | omega | rfl | assumption | exact ⟨_, rfl, rfl⟩ | (simp; omega) | (simp; done)))
    · exact bool_eq (by unfold pkgItems; rw [← p2, h]; simp)
    · rw [h, Bool.true_and] at p2
      exact inv_at (i + 1) (by omega) rfl rfl ⟨by omega, p2⟩
  rw [List.drop_of_length_le (by omega), List.all_nil] at p2
  have f3 := p2.symm
  clear p2 p1 hb h
  refine loop_at (ι := Nat) Tryz.checked.mixed rfl [1, 4] (fun i => [.c (.ptr (0, 0) 0), .c (.d (.i .i64 i))]) (fun _ => [.box (p.enc.map .d)] :: S)
    (fun i => i ≤ p.fDataTypes.length ∧ (p.fDataTypes.drop i).all validData = p.fDataTypes.all validData) (fun i => p.fDataTypes.length - i) 0 rfl ?_ ⟨Nat.zero_le _, rfl⟩ ?_
  · simp -implicitDefEqProofs (disch := omega) only [go_sem]
  rintro i ⟨p1, p2⟩
  simp -implicitDefEqProofs (disch := omega) only [go_sem]
  with_reducible refine split2 (fun hb => ?_) (fun hb => ?_) <;> have h := hb <;> (try simp only [wf_preprocess] at h) <;> simp -implicitDefEqProofs (disch := omega) only [go_sem, hb] <;> (repeat (with_reducible refine And.intro ?_ ?_; focus first | omega | rfl | assumption | exact ⟨_, rfl, rfl⟩ | (simp; omega) | (simp; done)))
  · have hi : i < p.fDataTypes.length := by omega
    have hx : p.fDataTypes[i].sz ≤ szRows (p.fDataTypes.map MDataType.enc) := szRows_mem (List.mem_map_of_mem (List.getElem_mem hi))
    rw [all_drop hi] at p2
    (repeat (with_reducible refine And.intro ?_ ?_; focus first | omega | rfl | assumption | exact ⟨_, rfl, rfl⟩ | (simp; omega) | (simp; done)))
    refine call_w (specValidData_ok p.fDataTypes[i] (by omega)) ?_
    simp -implicitDefEqProofs (disch := omega) only [go_sem] <;> (repeat (with_reducible refine And.intro ?_ ?_; focus first | omega | rfl | assumption | exact ⟨_, rfl, rfl⟩ | (simp; omega) | (simp; done)))
    with_reducible refine split2 (fun hb => ?_) (fun hb => ?_) <;> have h := hb <;> (try simp only [wf_preprocess] at h) <;> simp -implicitDefEqProofs (disch := omega) only [go_sem, hb] <;> (repeat (with_reducible refine And.intro ?_ ?_; focus first | omega | rfl | assumption | exact ⟨_, rfl, rfl⟩ | (simp; omega) | (simp; done)))
    · exact bool_eq (by unfold pkgItems; rw [← p2, h]; simp)
    · rw [h, Bool.true_and] at p2
      exact inv_at (i + 1) (by omega) rfl rfl ⟨by omega, p2⟩
  rw [List.drop_of_length_le (by omega), List.all_nil] at p2
  have f4 := p2.symm
  clear p2 p1 hb h
  refine loop_at (ι := Nat) Tryz.checked.mixed rfl [1, 5] (fun i => [.c (.ptr (0, 0) 0), .c (.d (.i .i64 i))]) (fun _ => [.box (p.enc.map .d)] :: S)
    (fun i => i ≤ p.fInstances.length ∧ (p.fInstances.drop i).all validInst = p.fInstances.all validInst) (fun i => p.fInstances.length - i) 0 rfl ?_ ⟨Nat.zero_le _, rfl⟩ ?_
  · simp -implicitDefEqProofs (disch := omega) only [go_sem]
  rintro i ⟨p1, p2⟩
  simp -implicitDefEqProofs (disch := omega) only [go_sem]
  with_reducible refine split2 (fun hb => ?_) (fun hb => ?_) <;> have h := hb <;> (try simp only [wf_preprocess] at h) <;> simp -implicitDefEqProofs (disch := omega) only [go_sem, hb] <;> (repeat (with_reducible refine And.intro ?_ ?_; focus first | omega | rfl | assumption | exact ⟨_, rfl, rfl⟩ | (simp; omega) | (simp; done)))
  · have hi : i < p.fInstances.length := by omega
    have hx : p.fInstances[i].sz ≤ szRows (p.fInstances.map MInstance.enc) := szRows_mem (List.mem_map_of_mem (List.getElem_mem hi))
    rw [all_drop hi] at p2
    (repeat (with_reducible refine And.intro ?_ ?_; focus first | omega | rfl | assumption | exact ⟨_, rfl, rfl⟩ | (simp; omega) | (simp; done)))
    refine call_w (specValidInst_ok p.fInstances[i] (by omega)) ?_
    simp -implicitDefEqProofs (disch := omega) only [go_sem] <;> (repeat (with_reducible refine And.intro ?_ ?_; focus first | omega | rfl | assumption | exact ⟨_, rfl, rfl⟩ | (simp; omega) | (simp; done)))
    with_reducible refine split2 (fun hb => ?_) (fun hb => ?_) <;> have h := hb <;> (try simp only [wf_preprocess] at h) <;> simp -implicitDefEqProofs (disch := omega) only [go_sem, hb] <;> (repeat (with_reducible refine And.intro ?_ ?_; focus first | omega | rfl | assumption | exact ⟨_, rfl, rfl⟩ | (simp; omega) | (simp; done)))
    · exact bool_eq (by unfold pkgItems; rw [← p2, h]; simp)
    · rw [h, Bool.true_and] at p2
      exact inv_at (i + 1) (by omega) rfl rfl ⟨by omega, p2⟩
  rw [List.drop_of_length_le (by omega), List.all_nil] at p2
  have f5 := p2.symm
  clear p2 p1 hb h
  refine loop_at (ι := Nat) Tryz.checked.mixed rfl [1, 6] (fun i => [.c (.ptr (0, 0) 0), .c (.d (.i .i64 i))]) (fun _ => [.box (p.enc.map .d)] :: S)
    (fun i => i ≤ p.fFunctions.length ∧ (p.fFunctions.drop i).all validFn = p.fFunctions.all validFn) (fun i => p.fFunctions.length - i) 0 rfl ?_ ⟨Nat.zero_le _, rfl⟩ ?_
  · simp -implicitDefEqProofs (disch := omega) only [go_sem]
  rintro i ⟨p1, p2⟩
  simp -implicitDefEqProofs (disch := omega) only [go_sem]
  with_reducible refine split2 (fun hb => ?_) (fun hb => ?_) <;> have h := hb <;> (try simp only [wf_preprocess] at h) <;> simp -implicitDefEqProofs (disch := omega) only [go_sem, hb] <;> (repeat (with_reducible refine And.intro ?_ ?_; focus first | omega | rfl | assumption | exact ⟨_, rfl, rfl⟩ | (simp; omega) | (simp; done)))
  · have hi : i < p.fFunctions.length := by omega
    have hx : p.fFunctions[i].sz ≤ szRows (p.fFunctions.map MFunction.enc) := szRows_mem (List.mem_map_of_mem (List.getElem_mem hi))
    rw [all_drop hi] at p2
    (repeat (with_reducible refine And.intro ?_ ?_; focus first | omega | rfl | assumption | exact ⟨_, rfl, rfl⟩ | (simp; omega) | (simp; done)))
    refine call_w (specValidFn_ok p.fFunctions[i] (by omega)) ?_
    simp -implicitDefEqProofs (disch := omega) only [go_sem] <;> (repeat (with_reducible refine And.intro ?_ ?_; focus first | omega | rfl | assumption | exact ⟨_, rfl, rfl⟩ | (simp; omega) | (simp; done)))
    with_reducible refine split2 (fun hb => ?_) (fun hb => ?_) <;> have h := hb <;> (try simp only [wf_preprocess] at h) <;> simp -implicitDefEqProofs (disch := omega) only [go_sem, hb] <;> (repeat (with_reducible refine And.intro ?_ ?_; focus first | omega | rfl | assumption | exact ⟨_, rfl, rfl⟩ | (simp; omega) | (simp; done)))
    · exact bool_eq (by unfold pkgItems; rw [← p2, h]; simp)
    · rw [h, Bool.true_and] at p2
      exact inv_at (i + 1) (by omega) rfl rfl ⟨by omega, p2⟩
  rw [List.drop_of_length_le (by omega), List.all_nil] at p2
  have f6 := p2.symm
  clear p2 p1 hb h
  exact bool_eq (by unfold pkgItems; rw [f3, f4, f5, f6]; rfl)
end Go.Proofs.YtnleocfkdidhoaaGreat

namespace Go.Ab
theorem indexP_cases {α : Type} (p : α → Bool) (xs : List α) : (indexP p xs = -1 ∧ ∀ j, ∀ hj : j < xs.length, p xs[j] = false) ∨ ∃ j : Nat, ∃ hj : j < xs.length, indexP p xs = j ∧ p xs[j] = true ∧ ∀ k, ∀ hk : k < xs.length, k < j → p xs[k] = false := by
  by_cases h : xs.any p = true
  · right
    have hlt : xs.findIdx p < xs.length := List.findIdx_lt_length_of_exists (List.any_eq_true.1 h)
    refine ⟨xs.findIdx p, hlt, by unfold indexP; rw [if_pos h], List.findIdx_getElem, fun k hk hkj => ?_⟩
    have := List.not_of_lt_findIdx hkj
    simpa using this
  · left
    have hf : ∀ j, ∀ hj : j < xs.length, p xs[j] = false := fun j hj => Bool.eq_false_iff.2 fun hx => h (List.any_eq_true.2 ⟨_, List.getElem_mem hj, hx⟩)
    exact ⟨indexP_no hf, hf⟩
def pkgNames (w : MProgram) : List (List UInt8) := w.fPackages.map MPackage.fName
def pkgRight (w : MProgram) (i : Nat) : Prop := ∀ p, w.fPackages[i]? = some p → validPkg p = true ∧ ∀ d ∈ p.fDeps, d ∈ (pkgNames w).take i
def depsOk (w : MProgram) : Prop := (∀ i, i < w.fPackages.length → pkgRight w i) ∧ (pkgNames w).Nodup ∧ w.fPackages.length ≤ 5
theorem pkgIndex_self {w : MProgram} {i : Nat} (hi : i < w.fPackages.length) (hn : (pkgNames w).Nodup) : pkgIndex w w.fPackages[i].fName = i := by
  unfold pkgIndex
  refine indexP_here (p := fun p : MPackage => decide (p.fName = w.fPackages[i].fName)) hi (fun j hj hji => ?_) (by simp)
  simp only [decide_eq_false_iff_not]
  intro e
  unfold pkgNames at hn
  rw [List.nodup_iff_pairwise_ne, List.pairwise_iff_getElem] at hn
  have := hn j i (by simpa using hj) (by simpa using hi) hji
  simp only [List.getElem_map] at this
  exact this e
theorem pkgIndex_first {w : MProgram} {i : Nat} (hi : i < w.fPackages.length) (h : pkgIndex w w.fPackages[i].fName = i) : ∀ j, ∀ hj : j < i, w.fPackages[j].fName ≠ w.fPackages[i].fName := by
  intro j hj e
  unfold pkgIndex at h
  rcases indexP_cases (fun p : MPackage => decide (p.fName = w.fPackages[i].fName)) w.fPackages with ⟨h1, h2⟩ | ⟨k, hk, h1, h2, h3⟩
  · have := h2 i hi
    simp at this
  · have hki : k = i := by omega
    have := h3 j (by omega) (by omega)
    simp only [decide_eq_false_iff_not] at this
    exact this e
theorem nodup_of_first {w : MProgram} (h : ∀ i, ∀ hi : i < w.fPackages.length, pkgIndex w w.fPackages[i].fName = i) : (pkgNames w).Nodup := by
  unfold pkgNames
  rw [List.nodup_iff_pairwise_ne, List.pairwise_iff_getElem]
  intro j i hj hi hji
  simp only [List.getElem_map, List.length_map] at hj hi ⊢
  exact pkgIndex_first hi (h i hi) j hji
theorem dep_iff {w : MProgram} {i : Nat} (hi : i ≤ w.fPackages.length) (d : List UInt8) : (0 ≤ pkgIndex w d ∧ pkgIndex w d ≤ (i : Int) - 1) ↔ d ∈ (pkgNames w).take i := by
  unfold pkgIndex pkgNames
  rcases indexP_cases (fun p : MPackage => decide (p.fName = d)) w.fPackages with ⟨h1, h2⟩ | ⟨k, hk, h1, h2, h3⟩
  · rw [h1]
    refine ⟨fun h => by omega, fun h => ?_⟩
    obtain ⟨j, hj, e⟩ := List.getElem_of_mem h
    simp only [List.length_take, List.length_map] at hj
    simp only [List.getElem_take, List.getElem_map] at e
    have := h2 j (by omega)
    simp only [decide_eq_false_iff_not] at this
    exact absurd e this
  · rw [h1]
    simp only [decide_eq_true_eq] at h2
    constructor
    · intro h
      have hki : k < i := by omega
      rw [← h2]
      have : ((w.fPackages.map MPackage.fName).take i)[k]'(by simp; omega) = w.fPackages[k].fName := by simp
      rw [← this]
      exact List.getElem_mem _
    · intro h
      obtain ⟨j, hj, e⟩ := List.getElem_of_mem h
      simp only [List.length_take, List.length_map] at hj
      simp only [List.getElem_take, List.getElem_map] at e
      refine ⟨by omega, ?_⟩
      rcases Nat.lt_or_ge j k with hjk | hjk
      · have := h3 j (by omega) hjk
        simp only [decide_eq_false_iff_not] at this
        exact absurd e this
      · omega
theorem allTr1 (p : MPackage) : allTr [p] = trNames p := by simp [allTr]
theorem allDt1 (p : MPackage) : allDt [p] = dtNames p := by simp [allDt]
theorem allCt1 (p : MPackage) : allCt [p] = ctNames p.fDataTypes := by simp [allCt]
theorem allFn1 (p : MPackage) : allFn [p] = fnNames p := by simp [allFn]
theorem MProgram.pkgZ {w : MProgram} {i : Nat} (hi : i < w.fPackages.length) (h : w.sz ≤ 4194304) : w.fPackages[i].sz ≤ 4194304 := by
  have hx : w.fPackages[i].sz ≤ szRows (w.fPackages.map MPackage.enc) := szRows_mem (List.mem_map_of_mem (List.getElem_mem hi))
  simp only [MProgram.sz, MProgram.enc_eq, szRow, szRow_append, D.sz, List.length_map] at h
  omega
end Go.Ab
namespace Go.Proofs.YtnleocfkdidhoaaGreat
open Go Go.Ab
set_option maxHeartbeats 2000000 in
theorem specValidPkg_ok (p : MPackage) (hsz : p.sz ≤ 4194304) : PCall Tryz.prog 19 [p.v] (.c (.d (.b (validPkg p)))) := fun S => by
  have hs := MPackage.sum p
  have hb := MPackage.bounds hsz
  have hV : ∀ s ∈ p.fDeps, s.length ≤ 4194304 := fun s h => by have := strs_b h; omega
  have l1 : (trNames p).length ≤ 1073741824 := by simp [trNames]; omega
  have l2 : (dtNames p).length ≤ 1073741824 := by simp [dtNames]; omega
  have l3 : (ctNames p.fDataTypes).length ≤ 1073741824 := by omega
  have l4 : (fnNames p).length ≤ 1073741824 := by simp [fnNames]; omega
  refine acall_cw (rs := [.tmp 2]) Tryz.checked.mixed Tryz.func19 Tryz.ntmps19 rfl rfl rfl rfl rfl ?_
  simp -implicitDefEqProofs (disch := omega) only [go_sem]
  refine call_w (l15Names_ok p hsz) ?_
  simp -implicitDefEqProofs (disch := omega) only [go_sem]
  repeat' (first
    | with_reducible refine split2 (fun hb => ?_) (fun hb => ?_) <;> have h := hb <;> (try simp only [wf_preprocess] at h) <;> simp -implicitDefEqProofs (disch := omega) only [go_sem, hb] <;> (repeat (with_reducible refine And.intro ?_ ?_; focus first | omega | rfl | assumption | exact ⟨_, rfl, rfl⟩ | (simp; omega) | (simp; done)))
    | ((with_reducible show CallG _ _ 68 _ _ _ _); refine call_w (specValidName_ok p.fName (by omega)) ?_; simp -implicitDefEqProofs (disch := omega) only [go_sem])
    | ((with_reducible show CallG _ _ 69 _ _ _ _); refine call_w (l13Words_ok p.fDeps 5 (by omega) hV) ?_; simp -implicitDefEqProofs (disch := omega) only [go_sem])
    | ((with_reducible show CallG _ _ 70 _ _ _ _); refine call_w (l1Has_ok p.fDeps p.fName (by omega)) ?_; simp -implicitDefEqProofs (disch := omega) only [go_sem])
    | ((with_reducible show CallG _ _ 71 _ _ _ _); refine call_w (specDistinct_ok (trNames p) l1) ?_; simp -implicitDefEqProofs (disch := omega) only [go_sem])
    | ((with_reducible show CallG _ _ 71 _ _ _ _); refine call_w (specDistinct_ok (dtNames p) l2) ?_; simp -implicitDefEqProofs (disch := omega) only [go_sem])
    | ((with_reducible show CallG _ _ 71 _ _ _ _); refine call_w (specDistinct_ok (ctNames p.fDataTypes) l3) ?_; simp -implicitDefEqProofs (disch := omega) only [go_sem])
    | ((with_reducible show CallG _ _ 71 _ _ _ _); refine call_w (specDistinct_ok (fnNames p) l4) ?_; simp -implicitDefEqProofs (disch := omega) only [go_sem])
    | ((with_reducible show CallG _ _ 72 _ _ _ _); refine call_w (l15Right_ok p hsz) ?_; simp -implicitDefEqProofs (disch := omega) only [go_sem])
    | (refine bool_eq ?_; unfold validPkg pkgHead namesUnique; rw [allTr1, allDt1, allCt1, allFn1]; grind [of_dec, of_dec_false, dec_true, dec_false]))
theorem implDepsValid_ok (w : MProgram) (hsz : w.sz ≤ 4194304) : PCall Tryz.prog 24 [w.v] (.c (.d (.b (dec (depsOk w))))) := fun S => by
  have hb0 := MProgram.bounds hsz
  have bad : ∀ i, ∀ hi : i < w.fPackages.length, ¬ (validPkg w.fPackages[i] = true ∧ ∀ d ∈ w.fPackages[i].fDeps, d ∈ (pkgNames w).take i) → V.c (.d (.b false)) = V.c (.d (.b (dec (depsOk w)))) := fun i hi h =>
    bool_eq (dec_false fun x => h (x.1 i hi _ (List.getElem?_eq_getElem hi))).symm
  refine acall_cw (rs := [.tmp 2]) Tryz.checked.mixed Tryz.func24 Tryz.ntmps24 rfl rfl rfl rfl rfl ?_
  simp -implicitDefEqProofs (disch := omega) only [go_sem]
  (repeat (with_reducible refine And.intro ?_ ?_; focus first | omega | rfl | assumption | exact ⟨_, rfl, rfl⟩ | (simp; omega) | (simp; done)))
  refine aw_tok 3 1 [] rfl (by simp) ?_
  refine loop_at (ι := Nat × List (List UInt8)) Tryz.checked.mixed rfl [3, 8, 9, 10] (fun y => [.c (.tsl (0, 1) (y.2.map encS)), .c (.d (.sl (w.fPackages.map MPackage.enc))), .c (.d (.i .i64 w.fPackages.length)), .c (.d (.i .i64 y.1))]) (fun y => [.box (w.enc.map .d), .tok 1 (y.2.map encS)] :: S)
    (fun y => y.1 ≤ w.fPackages.length ∧ y.2 = (pkgNames w).take y.1 ∧ ∀ j, j < y.1 → pkgRight w j) (fun y => w.fPackages.length - y.1) (0, []) rfl ?_ ⟨Nat.zero_le _, rfl, fun j h => by simp only at h; omega⟩ ?_
  · simp -implicitDefEqProofs (disch := omega) only [go_sem]
  rintro ⟨i, names⟩ ⟨p1, p2, p3⟩
  simp only at p1 p2 p3
  have pl : names.length ≤ w.fPackages.length := by rw [p2]; simp [pkgNames]; omega
  simp -implicitDefEqProofs (disch := omega) only [go_sem]
  with_reducible refine split2 (fun hb => ?_) (fun hb => ?_) <;> have h := hb <;> (try simp only [wf_preprocess] at h) <;> simp -implicitDefEqProofs (disch := omega) only [go_sem, hb] <;> (repeat (with_reducible refine And.intro ?_ ?_; focus first | omega | rfl | assumption | exact ⟨_, rfl, rfl⟩ | (simp; omega) | (simp; done)))
  · have hi : i < w.fPackages.length := by omega
    have hz := MProgram.pkgZ hi hsz
    have hd := (MPackage.bounds hz).2.1
    (repeat (with_reducible refine And.intro ?_ ?_; focus first | omega | rfl | assumption | exact ⟨_, rfl, rfl⟩ | (simp; omega) | (simp; done)))
    refine call_w (implValidPkg_ok w.fPackages[i] hz) ?_
    simp -implicitDefEqProofs (disch := omega) only [go_sem] <;> (repeat (with_reducible refine And.intro ?_ ?_; focus first | omega | rfl | assumption | exact ⟨_, rfl, rfl⟩ | (simp; omega) | (simp; done)))
    with_reducible refine split2 (fun hb => ?_) (fun hb => ?_) <;> have h := hb <;> (try simp only [wf_preprocess] at h) <;> simp -implicitDefEqProofs (disch := omega) only [go_sem, hb] <;> (repeat (with_reducible refine And.intro ?_ ?_; focus first | omega | rfl | assumption | exact ⟨_, rfl, rfl⟩ | (simp; omega) | (simp; done)))
    · exact bad i hi (fun x => by rw [h] at x; cases x.1)
    have k1 := h
    (repeat (with_reducible refine And.intro ?_ ?_; focus first | omega | rfl | assumption | exact ⟨_, rfl, rfl⟩ | (simp; omega) | (simp; done)))
    refine call_w (areAmong_ok w.fPackages[i].fDeps names (by omega) (by omega)) ?_
    simp -implicitDefEqProofs (disch := omega) only [go_sem] <;> (repeat (with_reducible refine And.intro ?_ ?_; focus first | omega | rfl | assumption | exact ⟨_, rfl, rfl⟩ | (simp; omega) | (simp; done)))
    with_reducible refine split2 (fun hb => ?_) (fun hb => ?_) <;> have h := hb <;> (try simp only [wf_preprocess] at h) <;> simp -implicitDefEqProofs (disch := omega) only [go_sem, hb] <;> (repeat (with_reducible refine And.intro ?_ ?_; focus first | omega | rfl | assumption | exact ⟨_, rfl, rfl⟩ | (simp; omega) | (simp; done)))
    · refine bad i hi (fun x => ?_)
      have : among w.fPackages[i].fDeps names = true := List.all_eq_true.2 fun d hd => dec_true (by rw [p2]; exact x.2 d hd)
      rw [h] at this; cases this
    have k2 := h
    (repeat (with_reducible refine And.intro ?_ ?_; focus first | omega | rfl | assumption | exact ⟨_, rfl, rfl⟩ | (simp; omega) | (simp; done)))
    rw [show List.map encS names ++ [[D.s w.fPackages[i].fName]] = List.map encS (names ++ [w.fPackages[i].fName]) by simp [encS]]
    exact inv_drop 2 (by decide) (i + 1, names ++ [w.fPackages[i].fName]) (by simp only; omega) rfl rfl rfl rfl ⟨by simp only; omega, by simp only; rw [p2, take_snoc (by simpa [pkgNames] using hi)]; simp [pkgNames], fun j hji => by
      simp only at hji
      by_cases e : j = i
      · subst e
        intro p hp
        rw [List.getElem?_eq_getElem hi] at hp
        cases hp
        exact ⟨k1, fun d hd => by rw [← p2]; exact of_dec (List.all_eq_true.1 k2 d hd)⟩
      · exact p3 j (by omega)⟩
  have hi : i = w.fPackages.length := by omega
  have hn : names = pkgNames w := by rw [p2, List.take_of_length_le (by simp [pkgNames]; omega)]
  have hlen : names.length = w.fPackages.length := by rw [hn]; simp [pkgNames]
  have hall : ∀ i, i < w.fPackages.length → pkgRight w i := fun j hj => p3 j (by omega)
  with_reducible refine split2 (fun hb => ?_) (fun hb => ?_) <;> have h := hb <;> (try simp only [wf_preprocess] at h) <;> simp -implicitDefEqProofs (disch := omega) only [go_sem, hb] <;> (repeat (with_reducible refine And.intro ?_ ?_; focus first | omega | rfl | assumption | exact ⟨_, rfl, rfl⟩ | (simp; omega) | (simp; done)))
  · have k1 := h
    refine call_w (implDistinct_ok names (by omega)) ?_
    simp -implicitDefEqProofs (disch := omega) only [go_sem] <;> (repeat (with_reducible refine And.intro ?_ ?_; focus first | omega | rfl | assumption | exact ⟨_, rfl, rfl⟩ | (simp; omega) | (simp; done)))
    refine bool_eq (dec_congr ?_)
    rw [hn]
    exact ⟨fun x => ⟨hall, x, by omega⟩, fun x => x.2.1⟩
  · exact bool_eq (dec_false fun x => by have := x.2.2; omega).symm
theorem specDepsValid_ok (w : MProgram) (hsz : w.sz ≤ 4194304) : PCall Tryz.prog 23 [w.v] (.c (.d (.b (dec (depsOk w))))) := fun S => by
  have hb0 := MProgram.bounds hsz
  have bad : ∀ i, ∀ hi : i < w.fPackages.length, ¬ (validPkg w.fPackages[i] = true ∧ ∀ d ∈ w.fPackages[i].fDeps, d ∈ (pkgNames w).take i) → V.c (.d (.b false)) = V.c (.d (.b (dec (depsOk w)))) := fun i hi h =>
    bool_eq (dec_false fun x => h (x.1 i hi _ (List.getElem?_eq_getElem hi))).symm
  refine acall_cw (rs := [.tmp 2]) Tryz.checked.mixed Tryz.func23 Tryz.ntmps23 rfl rfl rfl rfl rfl ?_
  simp -implicitDefEqProofs (disch := omega) only [go_sem]
  refine loop_at (ι := Nat) Tryz.checked.mixed rfl [1, 3] (fun i => [.c (.ptr (0, 0) 0), .c (.d (.i .i64 i))]) (fun _ => [.box (w.enc.map .d)] :: S)
    (fun i => i ≤ w.fPackages.length ∧ ∀ j, ∀ hj : j < w.fPackages.length, j < i → pkgRight w j ∧ pkgIndex w w.fPackages[j].fName = j) (fun i => w.fPackages.length - i) 0 rfl ?_ ⟨Nat.zero_le _, fun j _ h => by omega⟩ ?_
  · simp -implicitDefEqProofs (disch := omega) only [go_sem]
  rintro i ⟨p1, p3⟩
  simp -implicitDefEqProofs (disch := omega) only [go_sem]
  with_reducible refine split2 (fun hb => ?_) (fun hb => ?_) <;> have h := hb <;> (try simp only [wf_preprocess] at h) <;> simp -implicitDefEqProofs (disch := omega) only [go_sem, hb] <;> (repeat (with_reducible refine And.intro ?_ ?_; focus first | omega | rfl | assumption | exact ⟨_, rfl, rfl⟩ | (simp; omega) | (simp; done)))
  · have hi : i < w.fPackages.length := by omega
    have hz := MProgram.pkgZ hi hsz
    have hd := (MPackage.bounds hz).2.1
    (repeat (with_reducible refine And.intro ?_ ?_; focus first | omega | rfl | assumption | exact ⟨_, rfl, rfl⟩ | (simp; omega) | (simp; done)))
    refine call_w (specValidPkg_ok w.fPackages[i] hz) ?_
    simp -implicitDefEqProofs (disch := omega) only [go_sem] <;> (repeat (with_reducible refine And.intro ?_ ?_; focus first | omega | rfl | assumption | exact ⟨_, rfl, rfl⟩ | (simp; omega) | (simp; done)))
    with_reducible refine split2 (fun hb => ?_) (fun hb => ?_) <;> have h := hb <;> (try simp only [wf_preprocess] at h) <;> simp -implicitDefEqProofs (disch := omega) only [go_sem, hb] <;> (repeat (with_reducible refine And.intro ?_ ?_; focus first | omega | rfl | assumption | exact ⟨_, rfl, rfl⟩ | (simp; omega) | (simp; done)))
    · exact bad i hi (fun x => by rw [h] at x; cases x.1)
    have k1 := h
    (repeat (with_reducible refine And.intro ?_ ?_; focus first | omega | rfl | assumption | exact ⟨_, rfl, rfl⟩ | (simp; omega) | (simp; done)))
    refine call_w (specPkgIndex_ok w w.fPackages[i].fName hsz) ?_
    simp -implicitDefEqProofs (disch := omega) only [go_sem] <;> (repeat (with_reducible refine And.intro ?_ ?_; focus first | omega | rfl | assumption | exact ⟨_, rfl, rfl⟩ | (simp; omega) | (simp; done)))
    with_reducible refine split2 (fun hb => ?_) (fun hb => ?_) <;> have h := hb <;> (try simp only [wf_preprocess] at h) <;> simp -implicitDefEqProofs (disch := omega) only [go_sem, hb] <;> (repeat (with_reducible refine And.intro ?_ ?_; focus first | omega | rfl | assumption | exact ⟨_, rfl, rfl⟩ | (simp; omega) | (simp; done)))
    · exact bool_eq (dec_false fun x => h (pkgIndex_self hi x.2.1)).symm
    have k2 := h
    (repeat (with_reducible refine And.intro ?_ ?_; focus first | omega | rfl | assumption | exact ⟨_, rfl, rfl⟩ | (simp; omega) | (simp; done)))
    refine loop_at (ι := Nat) Tryz.checked.mixed rfl [1, 3, 4, 5] (fun k => [.c (.ptr (0, 0) 0), .c (.d (.i .i64 i)), .c (.ptr (0, 1) 0), .c (.d (.i .i64 k))]) (fun _ => [.box (w.enc.map .d), .box (w.fPackages[i].enc.map .d)] :: S)
      (fun k => k ≤ w.fPackages[i].fDeps.length ∧ ∀ j, ∀ hj : j < w.fPackages[i].fDeps.length, j < k → w.fPackages[i].fDeps[j] ∈ (pkgNames w).take i) (fun k => w.fPackages[i].fDeps.length - k) 0 rfl ?_ ⟨Nat.zero_le _, fun j _ h => by omega⟩ ?_
    · simp -implicitDefEqProofs (disch := omega) only [go_sem]
    rintro k ⟨q1, q2⟩
    simp -implicitDefEqProofs (disch := omega) only [go_sem]
    with_reducible refine split2 (fun hb => ?_) (fun hb => ?_) <;> have h := hb <;> (try simp only [wf_preprocess] at h) <;> simp -implicitDefEqProofs (disch := omega) only [go_sem, hb] <;> (repeat (with_reducible refine And.intro ?_ ?_; focus first | omega | rfl | assumption | exact ⟨_, rfl, rfl⟩ | (simp; omega) | (simp; done)))
    · have hk : k < w.fPackages[i].fDeps.length := by omega
      (repeat (with_reducible refine And.intro ?_ ?_; focus first | omega | rfl | assumption | exact ⟨_, rfl, rfl⟩ | (simp; omega) | (simp; done)))
      refine call_w (specPkgIndex_ok w w.fPackages[i].fDeps[k] hsz) ?_
      simp -implicitDefEqProofs (disch := omega) only [go_sem] <;> (repeat (with_reducible refine And.intro ?_ ?_; focus first | omega | rfl | assumption | exact ⟨_, rfl, rfl⟩ | (simp; omega) | (simp; done)))
      refine call_w (l1In_ok (pkgIndex w w.fPackages[i].fDeps[k]) 0 (i - 1)) ?_
      simp -implicitDefEqProofs (disch := omega) only [go_sem] <;> (repeat (with_reducible refine And.intro ?_ ?_; focus first | omega | rfl | assumption | exact ⟨_, rfl, rfl⟩ | (simp; omega) | (simp; done)))
      rw [dec_congr (dep_iff (w := w) (i := i) (by omega) w.fPackages[i].fDeps[k])]
      with_reducible refine split2 (fun hb => ?_) (fun hb => ?_) <;> have h := hb <;> (try simp only [wf_preprocess] at h) <;> simp -implicitDefEqProofs (disch := omega) only [go_sem, hb] <;> (repeat (with_reducible refine And.intro ?_ ?_; focus first | omega | rfl | assumption | exact ⟨_, rfl, rfl⟩ | (simp; omega) | (simp; done)))
      · exact bad i hi (fun x => h (x.2 _ (List.getElem_mem hk)))
      · have k3 := h
        exact inv_at (k + 1) (by omega) rfl rfl ⟨by omega, fun j hj hji => by
          by_cases e : j = k
          · subst e; exact k3
          · exact q2 j hj (by omega)⟩
    · refine inv_drop 1 (by decide) (i + 1) (by omega) rfl rfl rfl rfl ⟨by omega, fun j hj hji => ?_⟩
      by_cases e : j = i
      · subst e
        refine ⟨fun p hp => ?_, k2⟩
        rw [List.getElem?_eq_getElem hi] at hp
        cases hp
        exact ⟨k1, fun d hd => by
          obtain ⟨m, hm, em⟩ := List.getElem_of_mem hd
          rw [← em]; exact q2 m hm (by omega)⟩
      · exact p3 j hj (by omega)
  · have hn : (pkgNames w).Nodup := nodup_of_first fun j hj => (p3 j hj (by omega)).2
    refine bool_eq ?_
    rw [decide_dec]
    exact dec_congr ⟨fun x => ⟨fun j hj => (p3 j hj (by omega)).1, hn, by omega⟩, fun x => by have := x.2.2; omega⟩
end Go.Proofs.YtnleocfkdidhoaaGreat

namespace Go.Proofs.YtnleocfkdidhoaaGreat.fnExactDependenciesValid
open Go Go.Ab
theorem law (x0 : MProgram) (f0 : FitL x0.enc) : ACall Tryz.prog 5 [x0.v] [] (fun r _ => r = .c (.d (.b true))) := by
  refine acall_cw (rs := [.tmp 2]) Tryz.checked.mixed Tryz.func5 Tryz.ntmps5 rfl rfl rfl rfl rfl ?_
  simp -implicitDefEqProofs (disch := omega) only [go_sem]
  refine call_w (szProgram_ok x0 _ (by omega) (by omega) f0) ?_
  simp -implicitDefEqProofs (disch := omega) only [go_sem] <;> (repeat (with_reducible refine And.intro ?_ ?_; focus first | omega | rfl | assumption | exact ⟨_, rfl, rfl⟩ | (simp; omega) | (simp; done)))
  with_reducible refine split2 (fun hb => ?_) (fun hb => ?_) <;> have h := hb <;> (try simp only [wf_preprocess] at h) <;> simp -implicitDefEqProofs (disch := omega) only [go_sem, hb] <;> (repeat (with_reducible refine And.intro ?_ ?_; focus first | omega | rfl | assumption | exact ⟨_, rfl, rfl⟩ | (simp; omega) | (simp; done)))
  have h0 := sub1_nn h
  refine call_w (toProgram_ok x0 (by omega)) ?_
  simp -implicitDefEqProofs (disch := omega) only [go_sem] <;> (repeat (with_reducible refine And.intro ?_ ?_; focus first | omega | rfl | assumption | exact ⟨_, rfl, rfl⟩ | (simp; omega) | (simp; done)))
  refine call_w (specDepsValid_ok x0 (by omega) ) ?_
  simp -implicitDefEqProofs (disch := omega) only [go_sem] <;> (repeat (with_reducible refine And.intro ?_ ?_; focus first | omega | rfl | assumption | exact ⟨_, rfl, rfl⟩ | (simp; omega) | (simp; done)))
  refine call_w (toProgram_ok x0 (by omega)) ?_
  simp -implicitDefEqProofs (disch := omega) only [go_sem] <;> (repeat (with_reducible refine And.intro ?_ ?_; focus first | omega | rfl | assumption | exact ⟨_, rfl, rfl⟩ | (simp; omega) | (simp; done)))
  refine call_w (implDepsValid_ok x0 (by omega) ) ?_
  simp -implicitDefEqProofs (disch := omega) only [go_sem] <;> (repeat (with_reducible refine And.intro ?_ ?_; focus first | omega | rfl | assumption | exact ⟨_, rfl, rfl⟩ | (simp; omega) | (simp; done)))
  refine call_w (toProgram_ok x0 (by omega)) ?_
  simp -implicitDefEqProofs (disch := omega) only [go_sem] <;> (repeat (with_reducible refine And.intro ?_ ?_; focus first | omega | rfl | assumption | exact ⟨_, rfl, rfl⟩ | (simp; omega) | (simp; done)))
  refine call_w (eqProgram_ok x0 x0 (by omega)) ?_
  simp -implicitDefEqProofs (disch := omega) only [go_sem] <;> (repeat (with_reducible refine And.intro ?_ ?_; focus first | omega | rfl | assumption | exact ⟨_, rfl, rfl⟩ | (simp; omega) | (simp; done)))
end Go.Proofs.YtnleocfkdidhoaaGreat.fnExactDependenciesValid

namespace Go.Ab
theorem wt_pos {P : Program} {n : Nat} {t : TypeId} {ds : List D} (h : WT P n t ds) : ∃ m, n = m + 1 := by
  cases n with
  | zero => exact h.elim
  | succ m => exact ⟨m, rfl⟩
theorem wt_bool {P : Program} {n : Nat} {t : TypeId} {ds : List D} (ht : P.underlying t = some .bool) (h : WT P n t ds) : ∃ b, ds = [.b b] := by
  obtain ⟨m, rfl⟩ := wt_pos h
  simp only [WT, ht] at h; exact h
theorem wt_int {P : Program} {n : Nat} {t : TypeId} {k : IntKind} {ds : List D} (ht : P.underlying t = some (.int k)) (h : WT P n t ds) : ∃ x, ds = [.i k x] ∧ (Lit.int k x).wf = true := by
  obtain ⟨m, rfl⟩ := wt_pos h
  simp only [WT, ht] at h; exact h
theorem wt_string {P : Program} {n : Nat} {t : TypeId} {ds : List D} (ht : P.underlying t = some .string) (h : WT P n t ds) : ∃ l, ds = [.s l] := by
  obtain ⟨m, rfl⟩ := wt_pos h
  simp only [WT, ht] at h; exact ⟨h.choose, h.choose_spec.1⟩
theorem wt_slice {P : Program} {n : Nat} {t e : TypeId} {ds : List D} (ht : P.underlying t = some (.slice e)) (h : WT P n t ds) : ∃ es m, m < n ∧ ds = [.sl es] ∧ ∀ x ∈ es, WT P m e x := by
  obtain ⟨m, rfl⟩ := wt_pos h
  simp only [WT, ht] at h
  obtain ⟨es, h1, _, h2⟩ := h
  exact ⟨es, m, by omega, h1, fun x hx => (h2 x hx).2⟩
theorem wt_struct {P : Program} {n : Nat} {t : TypeId} {fs : Array Field} {ds : List D} (ht : P.underlying t = some (.struct fs)) (h : WT P n t ds) : ∃ m, m < n ∧ WTF P (WT P m) fs.toList ds := by
  obtain ⟨m, rfl⟩ := wt_pos h
  simp only [WT, ht] at h
  exact ⟨m, by omega, h⟩
theorem list_enc {α : Type} {enc : α → List D} : ∀ {es : List (List D)}, (∀ x ∈ es, ∃ m, x = enc m) → ∃ ms : List α, es = ms.map enc
  | [], _ => ⟨[], rfl⟩
  | e :: es, h => by
    obtain ⟨m, hm⟩ := h e (by simp)
    obtain ⟨ms, hms⟩ := list_enc (es := es) fun x hx => h x (by simp [hx])
    exact ⟨m :: ms, by rw [List.map_cons, ← hm, ← hms]⟩
theorem wtf_fit {P : Program} {W : TypeId → List D → Prop} (hW : ∀ t ds, W t ds → FitL ds) : ∀ (fs : List Field) (ds : List D), WTF P W fs ds → FitL ds
  | [], ds, h => by
    have h : ds = [] := h
    rw [h]; exact fitL_nil
  | f :: fs, ds, h => by
    obtain ⟨a, b, rfl, _, h1, h2⟩ := h
    exact fitL_append.2 ⟨hW _ _ h1, wtf_fit hW fs b h2⟩
theorem wt_fit {P : Program} : ∀ (n : Nat) (t : TypeId) (ds : List D), WT P n t ds → FitL ds
  | 0, t, ds, h => h.elim
  | n + 1, t, ds, h => by
    simp only [WT] at h
    split at h
    · obtain ⟨b, rfl⟩ := h; exact fitL_cons.2 ⟨.b _, fitL_nil⟩
    · obtain ⟨b, rfl, _⟩ := h; exact fitL_cons.2 ⟨.i _ _, fitL_nil⟩
    · obtain ⟨l, rfl, hl⟩ := h; exact fitL_cons.2 ⟨.s _ hl, fitL_nil⟩
    · obtain ⟨es, rfl, hl, hh⟩ := h
      exact fitL_cons.2 ⟨.sl _ hl fun e he d hd => wt_fit n _ e (hh e he).2 d hd, fitL_nil⟩
    · exact wtf_fit (wt_fit n) _ _ h
    · exact h.elim
end Go.Ab
namespace Go.Proofs.YtnleocfkdidhoaaGreat
open Go Go.Ab
theorem wt_Type : ∀ (n : Nat) (ds : List D), WT Tryz.prog n 27 ds → ∃ x : MType, ds = x.enc := by
  intro n
  induction n using Nat.strongRecOn with
  | _ n ih =>
    intro ds h
    obtain ⟨m, hm, h⟩ := wt_struct Tryz.underlying27 h
    simp only [WTF] at h
    obtain ⟨a0, r0, rfl, l0, h0, a1, r1, rfl, l1, h1, a2, r2, rfl, l2, h2, rfl⟩ := h
    obtain ⟨x0, rfl, _⟩ := wt_int Tryz.underlying3 h0
    obtain ⟨x1, rfl⟩ := wt_string Tryz.underlying9 h1
    obtain ⟨es2, m2, hm2, rfl, hs2⟩ := wt_slice Tryz.underlying25 h2
    obtain ⟨x2, rfl⟩ := list_enc (enc := MType.enc) fun y hy => ih m2 (by omega) y (hs2 y hy)
    refine ⟨MType.mk x0 x1 x2, ?_⟩
    rw [MType.enc_eq]
    simp [MType.fKind, MType.fName, MType.fArgs]
theorem wt_Bound : ∀ (n : Nat) (ds : List D), WT Tryz.prog n 303 ds → ∃ x : MBound, ds = x.enc := by
  intro n
  induction n using Nat.strongRecOn with
  | _ n ih =>
    intro ds h
    obtain ⟨m, hm, h⟩ := wt_struct Tryz.underlying303 h
    simp only [WTF] at h
    obtain ⟨a0, r0, rfl, l0, h0, a1, r1, rfl, l1, h1, rfl⟩ := h
    obtain ⟨x0, rfl⟩ := wt_string Tryz.underlying9 h0
    obtain ⟨x1, rfl⟩ := wt_Type m a1 h1
    refine ⟨MBound.mk x0 x1, ?_⟩
    rw [MBound.enc_eq]
    simp
theorem wt_ExprArm : ∀ (n : Nat), (∀ ds : List D, WT Tryz.prog n 31 ds → ∃ x : MExpr, ds = x.enc) ∧ (∀ ds : List D, WT Tryz.prog n 173 ds → ∃ x : MArm, ds = x.enc) := by
  intro n
  induction n using Nat.strongRecOn with
  | _ n ih =>
    refine ⟨fun ds h => ?_, fun ds h => ?_⟩
    · obtain ⟨m, hm, h⟩ := wt_struct Tryz.underlying31 h
      simp only [WTF] at h
      obtain ⟨a0, r0, rfl, l0, h0, a1, r1, rfl, l1, h1, a2, r2, rfl, l2, h2, a3, r3, rfl, l3, h3, a4, r4, rfl, l4, h4, a5, r5, rfl, l5, h5, a6, r6, rfl, l6, h6, rfl⟩ := h
      obtain ⟨x0, rfl, _⟩ := wt_int Tryz.underlying3 h0
      obtain ⟨x1, rfl⟩ := wt_string Tryz.underlying9 h1
      obtain ⟨x2, rfl⟩ := wt_string Tryz.underlying9 h2
      obtain ⟨x3, rfl, _⟩ := wt_int Tryz.underlying3 h3
      obtain ⟨x4, rfl⟩ := wt_Type m a4 h4
      obtain ⟨es5, m5, hm5, rfl, hs5⟩ := wt_slice Tryz.underlying28 h5
      obtain ⟨x5, rfl⟩ := list_enc (enc := MExpr.enc) fun y hy => (ih m5 (by omega)).1 y (hs5 y hy)
      obtain ⟨es6, m6, hm6, rfl, hs6⟩ := wt_slice Tryz.underlying29 h6
      obtain ⟨x6, rfl⟩ := list_enc (enc := MArm.enc) fun y hy => (ih m6 (by omega)).2 y (hs6 y hy)
      refine ⟨MExpr.mk x0 x1 x2 x3 x4 x5 x6, ?_⟩
      rw [MExpr.enc_eq]
      simp [MExpr.fKind, MExpr.fTrait, MExpr.fName, MExpr.fN, MExpr.fType, MExpr.fArgs, MExpr.fArms]
    · obtain ⟨m, hm, h⟩ := wt_struct Tryz.underlying173 h
      simp only [WTF] at h
      obtain ⟨a0, r0, rfl, l0, h0, a1, r1, rfl, l1, h1, a2, r2, rfl, l2, h2, rfl⟩ := h
      obtain ⟨x0, rfl⟩ := wt_string Tryz.underlying9 h0
      obtain ⟨es1, m1, hm1, rfl, hs1⟩ := wt_slice Tryz.underlying50 h1
      obtain ⟨x1, rfl⟩ := list_enc (enc := encS) fun y hy => wt_string Tryz.underlying9 (hs1 y hy)
      obtain ⟨x2, rfl⟩ := (ih m (by omega)).1 a2 h2
      refine ⟨MArm.mk x0 x1 x2, ?_⟩
      rw [MArm.enc_eq]
      simp [MArm.fConstructor, MArm.fVars, MArm.fBody]
theorem wt_Expr (n : Nat) (ds : List D) (h : WT Tryz.prog n 31 ds) : ∃ x : MExpr, ds = x.enc := (wt_ExprArm n).1 ds h
theorem wt_Signature : ∀ (n : Nat) (ds : List D), WT Tryz.prog n 297 ds → ∃ x : MSignature, ds = x.enc := by
  intro n
  induction n using Nat.strongRecOn with
  | _ n ih =>
    intro ds h
    obtain ⟨m, hm, h⟩ := wt_struct Tryz.underlying297 h
    simp only [WTF] at h
    obtain ⟨a0, r0, rfl, l0, h0, a1, r1, rfl, l1, h1, a2, r2, rfl, l2, h2, a3, r3, rfl, l3, h3, a4, r4, rfl, l4, h4, a5, r5, rfl, l5, h5, rfl⟩ := h
    obtain ⟨x0, rfl⟩ := wt_string Tryz.underlying9 h0
    obtain ⟨es1, m1, hm1, rfl, hs1⟩ := wt_slice Tryz.underlying25 h1
    obtain ⟨x1, rfl⟩ := list_enc (enc := MType.enc) fun y hy => wt_Type m1 y (hs1 y hy)
    obtain ⟨x2, rfl⟩ := wt_Type m a2 h2
    obtain ⟨x3, rfl⟩ := wt_bool Tryz.underlying4 h3
    obtain ⟨es4, m4, hm4, rfl, hs4⟩ := wt_slice Tryz.underlying50 h4
    obtain ⟨x4, rfl⟩ := list_enc (enc := encS) fun y hy => wt_string Tryz.underlying9 (hs4 y hy)
    obtain ⟨x5, rfl⟩ := wt_Expr m a5 h5
    refine ⟨MSignature.mk x0 x1 x2 x3 x4 x5, ?_⟩
    rw [MSignature.enc_eq]
    simp
theorem wt_Trait : ∀ (n : Nat) (ds : List D), WT Tryz.prog n 196 ds → ∃ x : MTrait, ds = x.enc := by
  intro n
  induction n using Nat.strongRecOn with
  | _ n ih =>
    intro ds h
    obtain ⟨m, hm, h⟩ := wt_struct Tryz.underlying196 h
    simp only [WTF] at h
    obtain ⟨a0, r0, rfl, l0, h0, a1, r1, rfl, l1, h1, a2, r2, rfl, l2, h2, a3, r3, rfl, l3, h3, a4, r4, rfl, l4, h4, rfl⟩ := h
    obtain ⟨x0, rfl⟩ := wt_string Tryz.underlying9 h0
    obtain ⟨es1, m1, hm1, rfl, hs1⟩ := wt_slice Tryz.underlying50 h1
    obtain ⟨x1, rfl⟩ := list_enc (enc := encS) fun y hy => wt_string Tryz.underlying9 (hs1 y hy)
    obtain ⟨x2, rfl⟩ := wt_bool Tryz.underlying4 h2
    obtain ⟨x3, rfl⟩ := wt_bool Tryz.underlying4 h3
    obtain ⟨es4, m4, hm4, rfl, hs4⟩ := wt_slice Tryz.underlying194 h4
    obtain ⟨x4, rfl⟩ := list_enc (enc := MSignature.enc) fun y hy => wt_Signature m4 y (hs4 y hy)
    refine ⟨MTrait.mk x0 x1 x2 x3 x4, ?_⟩
    rw [MTrait.enc_eq]
    simp
theorem wt_Constructor : ∀ (n : Nat) (ds : List D), WT Tryz.prog n 300 ds → ∃ x : MConstructor, ds = x.enc := by
  intro n
  induction n using Nat.strongRecOn with
  | _ n ih =>
    intro ds h
    obtain ⟨m, hm, h⟩ := wt_struct Tryz.underlying300 h
    simp only [WTF] at h
    obtain ⟨a0, r0, rfl, l0, h0, a1, r1, rfl, l1, h1, rfl⟩ := h
    obtain ⟨x0, rfl⟩ := wt_string Tryz.underlying9 h0
    obtain ⟨es1, m1, hm1, rfl, hs1⟩ := wt_slice Tryz.underlying25 h1
    obtain ⟨x1, rfl⟩ := list_enc (enc := MType.enc) fun y hy => wt_Type m1 y (hs1 y hy)
    refine ⟨MConstructor.mk x0 x1, ?_⟩
    rw [MConstructor.enc_eq]
    simp
theorem wt_DataType : ∀ (n : Nat) (ds : List D), WT Tryz.prog n 200 ds → ∃ x : MDataType, ds = x.enc := by
  intro n
  induction n using Nat.strongRecOn with
  | _ n ih =>
    intro ds h
    obtain ⟨m, hm, h⟩ := wt_struct Tryz.underlying200 h
    simp only [WTF] at h
    obtain ⟨a0, r0, rfl, l0, h0, a1, r1, rfl, l1, h1, a2, r2, rfl, l2, h2, rfl⟩ := h
    obtain ⟨x0, rfl⟩ := wt_string Tryz.underlying9 h0
    obtain ⟨es1, m1, hm1, rfl, hs1⟩ := wt_slice Tryz.underlying50 h1
    obtain ⟨x1, rfl⟩ := list_enc (enc := encS) fun y hy => wt_string Tryz.underlying9 (hs1 y hy)
    obtain ⟨es2, m2, hm2, rfl, hs2⟩ := wt_slice Tryz.underlying198 h2
    obtain ⟨x2, rfl⟩ := list_enc (enc := MConstructor.enc) fun y hy => wt_Constructor m2 y (hs2 y hy)
    refine ⟨MDataType.mk x0 x1 x2, ?_⟩
    rw [MDataType.enc_eq]
    simp
theorem wt_Method : ∀ (n : Nat) (ds : List D), WT Tryz.prog n 306 ds → ∃ x : MMethod, ds = x.enc := by
  intro n
  induction n using Nat.strongRecOn with
  | _ n ih =>
    intro ds h
    obtain ⟨m, hm, h⟩ := wt_struct Tryz.underlying306 h
    simp only [WTF] at h
    obtain ⟨a0, r0, rfl, l0, h0, a1, r1, rfl, l1, h1, a2, r2, rfl, l2, h2, rfl⟩ := h
    obtain ⟨x0, rfl⟩ := wt_string Tryz.underlying9 h0
    obtain ⟨es1, m1, hm1, rfl, hs1⟩ := wt_slice Tryz.underlying50 h1
    obtain ⟨x1, rfl⟩ := list_enc (enc := encS) fun y hy => wt_string Tryz.underlying9 (hs1 y hy)
    obtain ⟨x2, rfl⟩ := wt_Expr m a2 h2
    refine ⟨MMethod.mk x0 x1 x2, ?_⟩
    rw [MMethod.enc_eq]
    simp
theorem wt_Instance : ∀ (n : Nat) (ds : List D), WT Tryz.prog n 205 ds → ∃ x : MInstance, ds = x.enc := by
  intro n
  induction n using Nat.strongRecOn with
  | _ n ih =>
    intro ds h
    obtain ⟨m, hm, h⟩ := wt_struct Tryz.underlying205 h
    simp only [WTF] at h
    obtain ⟨a0, r0, rfl, l0, h0, a1, r1, rfl, l1, h1, a2, r2, rfl, l2, h2, a3, r3, rfl, l3, h3, a4, r4, rfl, l4, h4, a5, r5, rfl, l5, h5, a6, r6, rfl, l6, h6, a7, r7, rfl, l7, h7, rfl⟩ := h
    obtain ⟨x0, rfl⟩ := wt_string Tryz.underlying9 h0
    obtain ⟨es1, m1, hm1, rfl, hs1⟩ := wt_slice Tryz.underlying50 h1
    obtain ⟨x1, rfl⟩ := list_enc (enc := encS) fun y hy => wt_string Tryz.underlying9 (hs1 y hy)
    obtain ⟨x2, rfl⟩ := wt_Type m a2 h2
    obtain ⟨es3, m3, hm3, rfl, hs3⟩ := wt_slice Tryz.underlying202 h3
    obtain ⟨x3, rfl⟩ := list_enc (enc := MBound.enc) fun y hy => wt_Bound m3 y (hs3 y hy)
    obtain ⟨x4, rfl⟩ := wt_bool Tryz.underlying4 h4
    obtain ⟨x5, rfl⟩ := wt_bool Tryz.underlying4 h5
    obtain ⟨x6, rfl⟩ := wt_Type m a6 h6
    obtain ⟨es7, m7, hm7, rfl, hs7⟩ := wt_slice Tryz.underlying203 h7
    obtain ⟨x7, rfl⟩ := list_enc (enc := MMethod.enc) fun y hy => wt_Method m7 y (hs7 y hy)
    refine ⟨MInstance.mk x0 x1 x2 x3 x4 x5 x6 x7, ?_⟩
    rw [MInstance.enc_eq]
    simp
theorem wt_Param : ∀ (n : Nat) (ds : List D), WT Tryz.prog n 309 ds → ∃ x : MParam, ds = x.enc := by
  intro n
  induction n using Nat.strongRecOn with
  | _ n ih =>
    intro ds h
    obtain ⟨m, hm, h⟩ := wt_struct Tryz.underlying309 h
    simp only [WTF] at h
    obtain ⟨a0, r0, rfl, l0, h0, a1, r1, rfl, l1, h1, rfl⟩ := h
    obtain ⟨x0, rfl⟩ := wt_string Tryz.underlying9 h0
    obtain ⟨x1, rfl⟩ := wt_Type m a1 h1
    refine ⟨MParam.mk x0 x1, ?_⟩
    rw [MParam.enc_eq]
    simp
theorem wt_Function : ∀ (n : Nat) (ds : List D), WT Tryz.prog n 209 ds → ∃ x : MFunction, ds = x.enc := by
  intro n
  induction n using Nat.strongRecOn with
  | _ n ih =>
    intro ds h
    obtain ⟨m, hm, h⟩ := wt_struct Tryz.underlying209 h
    simp only [WTF] at h
    obtain ⟨a0, r0, rfl, l0, h0, a1, r1, rfl, l1, h1, a2, r2, rfl, l2, h2, a3, r3, rfl, l3, h3, a4, r4, rfl, l4, h4, a5, r5, rfl, l5, h5, rfl⟩ := h
    obtain ⟨x0, rfl⟩ := wt_string Tryz.underlying9 h0
    obtain ⟨es1, m1, hm1, rfl, hs1⟩ := wt_slice Tryz.underlying50 h1
    obtain ⟨x1, rfl⟩ := list_enc (enc := encS) fun y hy => wt_string Tryz.underlying9 (hs1 y hy)
    obtain ⟨es2, m2, hm2, rfl, hs2⟩ := wt_slice Tryz.underlying202 h2
    obtain ⟨x2, rfl⟩ := list_enc (enc := MBound.enc) fun y hy => wt_Bound m2 y (hs2 y hy)
    obtain ⟨es3, m3, hm3, rfl, hs3⟩ := wt_slice Tryz.underlying207 h3
    obtain ⟨x3, rfl⟩ := list_enc (enc := MParam.enc) fun y hy => wt_Param m3 y (hs3 y hy)
    obtain ⟨x4, rfl⟩ := wt_Type m a4 h4
    obtain ⟨x5, rfl⟩ := wt_Expr m a5 h5
    refine ⟨MFunction.mk x0 x1 x2 x3 x4 x5, ?_⟩
    rw [MFunction.enc_eq]
    simp
theorem wt_Package : ∀ (n : Nat) (ds : List D), WT Tryz.prog n 56 ds → ∃ x : MPackage, ds = x.enc := by
  intro n
  induction n using Nat.strongRecOn with
  | _ n ih =>
    intro ds h
    obtain ⟨m, hm, h⟩ := wt_struct Tryz.underlying56 h
    simp only [WTF] at h
    obtain ⟨a0, r0, rfl, l0, h0, a1, r1, rfl, l1, h1, a2, r2, rfl, l2, h2, a3, r3, rfl, l3, h3, a4, r4, rfl, l4, h4, a5, r5, rfl, l5, h5, rfl⟩ := h
    obtain ⟨x0, rfl⟩ := wt_string Tryz.underlying9 h0
    obtain ⟨es1, m1, hm1, rfl, hs1⟩ := wt_slice Tryz.underlying50 h1
    obtain ⟨x1, rfl⟩ := list_enc (enc := encS) fun y hy => wt_string Tryz.underlying9 (hs1 y hy)
    obtain ⟨es2, m2, hm2, rfl, hs2⟩ := wt_slice Tryz.underlying51 h2
    obtain ⟨x2, rfl⟩ := list_enc (enc := MTrait.enc) fun y hy => wt_Trait m2 y (hs2 y hy)
    obtain ⟨es3, m3, hm3, rfl, hs3⟩ := wt_slice Tryz.underlying52 h3
    obtain ⟨x3, rfl⟩ := list_enc (enc := MDataType.enc) fun y hy => wt_DataType m3 y (hs3 y hy)
    obtain ⟨es4, m4, hm4, rfl, hs4⟩ := wt_slice Tryz.underlying53 h4
    obtain ⟨x4, rfl⟩ := list_enc (enc := MInstance.enc) fun y hy => wt_Instance m4 y (hs4 y hy)
    obtain ⟨es5, m5, hm5, rfl, hs5⟩ := wt_slice Tryz.underlying54 h5
    obtain ⟨x5, rfl⟩ := list_enc (enc := MFunction.enc) fun y hy => wt_Function m5 y (hs5 y hy)
    refine ⟨MPackage.mk x0 x1 x2 x3 x4 x5, ?_⟩
    rw [MPackage.enc_eq]
    simp
theorem wt_Program : ∀ (n : Nat) (ds : List D), WT Tryz.prog n 24 ds → ∃ x : MProgram, ds = x.enc := by
  intro n
  induction n using Nat.strongRecOn with
  | _ n ih =>
    intro ds h
    obtain ⟨m, hm, h⟩ := wt_struct Tryz.underlying24 h
    simp only [WTF] at h
    obtain ⟨a0, r0, rfl, l0, h0, rfl⟩ := h
    obtain ⟨es0, m0, hm0, rfl, hs0⟩ := wt_slice Tryz.underlying22 h0
    obtain ⟨x0, rfl⟩ := list_enc (enc := MPackage.enc) fun y hy => wt_Package m0 y (hs0 y hy)
    refine ⟨MProgram.mk x0, ?_⟩
    rw [MProgram.enc_eq]
    simp
end Go.Proofs.YtnleocfkdidhoaaGreat

