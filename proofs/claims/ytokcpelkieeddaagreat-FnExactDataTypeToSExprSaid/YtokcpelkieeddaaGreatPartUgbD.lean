/-
  SEVERAL TEXTS IN ONE (merged by program): contracts and models, each with its own heading.
-/
import Derived.Test.YtokcpelkieeddaaGreatPartUgbC
set_option linter.unusedSimpArgs false
set_option linter.unusedVariables false
set_option maxRecDepth 4000
set_option maxRecDepth 8000
namespace Go.Proofs.YtokcpelkieeddaaGreat
open Go Go.Ab
theorem eqSExpr_all : ∀ n : Nat, (∀ x : MSExpr, SizeOf.sizeOf x < n → ∀ y : MSExpr, x.sz ≤ 1048576 → PCall Tryz.prog 11 [x.v, y.v] (.c (.d (.b (dec (x = y)))))) ∧
    (∀ xs : List MSExpr, SizeOf.sizeOf xs < n → ∀ ys : List MSExpr, xs.length + szRows (xs.map MSExpr.enc) ≤ 1048576 → PCall Tryz.prog 46 [.c (.d (.sl (xs.map MSExpr.enc))), .c (.d (.sl (ys.map MSExpr.enc)))] (.c (.d (.b (dec (xs = ys))))))
  | 0 => ⟨fun x h => by omega, fun x h => by omega⟩
  | n + 1 => by
    obtain ⟨ihSExpr, ihSSExpr⟩ := eqSExpr_all n
    refine ⟨fun x hn y hsz S => ?_, fun xs hn ys hsz S => ?_⟩
    · have lList := MSExpr.lt_List x
      simp only [MSExpr.sz, MSExpr.enc_eq, szRow, szRow_append, D.sz, List.length_map] at hsz
      refine acall_cw (rs := [.tmp 4]) Tryz.checked.mixed Tryz.func11 Tryz.ntmps11 rfl rfl rfl rfl rfl ?_
      simp -implicitDefEqProofs (disch := omega) only [go_sem]
      with_reducible refine split2 (fun hb => ?_) (fun hb => ?_) <;> have h := hb <;> (try simp only [wf_preprocess] at h) <;> simp -implicitDefEqProofs (disch := omega) only [go_sem, hb] <;> (repeat (with_reducible refine And.intro ?_ ?_; focus first | omega | rfl | assumption | exact ⟨_, rfl, rfl⟩ | (simp; omega) | (simp; done)))
      · exact bool_eq (dec_false (fun e => h (by rw [e]))).symm
      have eAtom := h
      clear h
      refine call_w (ihSSExpr x.fList (by omega) _ (by omega)) ?_
      simp -implicitDefEqProofs (disch := omega) only [go_sem]
      with_reducible refine split2 (fun hb => ?_) (fun hb => ?_) <;> have h := hb <;> (try simp only [wf_preprocess] at h) <;> simp -implicitDefEqProofs (disch := omega) only [go_sem, hb] <;> (repeat (with_reducible refine And.intro ?_ ?_; focus first | omega | rfl | assumption | exact ⟨_, rfl, rfl⟩ | (simp; omega) | (simp; done)))
      · exact bool_eq (dec_false (fun e => h (by rw [e]))).symm
      have eList := h
      clear h
      exact bool_eq (dec_true (MSExpr.ext eAtom eList)).symm
    · refine acall_cw (rs := [.tmp 4]) Tryz.checked.mixed Tryz.func46 Tryz.ntmps46 rfl rfl rfl rfl rfl ?_
      simp -implicitDefEqProofs (disch := omega) only [go_sem]
      with_reducible refine split2 (fun hb => ?_) (fun hb => ?_) <;> have h := hb <;> (try simp only [wf_preprocess] at h) <;> simp -implicitDefEqProofs (disch := omega) only [go_sem, hb] <;> (repeat (with_reducible refine And.intro ?_ ?_; focus first | omega | rfl | assumption | exact ⟨_, rfl, rfl⟩ | (simp; omega) | (simp; done)))
      · exact bool_eq (dec_false (fun e => h (by rw [e]))).symm
      have hl : xs.length = ys.length := by omega
      refine loop_at (ι := Nat) Tryz.checked.mixed rfl [0, 1, 5] (fun y => [.c (.d (.sl (xs.map MSExpr.enc))), .c (.d (.sl (ys.map MSExpr.enc))), .c (.d (.i .i64 y))]) (fun y => [] :: S)
        (fun i => i ≤ xs.length ∧ ∀ j, j < i → xs[j]? = ys[j]?) (fun y => xs.length - y) 0 rfl rfl ⟨Nat.zero_le _, fun j h => by omega⟩ ?_
      rintro i ⟨p1, p2⟩
      simp -implicitDefEqProofs (disch := omega) only [go_sem]
      with_reducible refine split2 (fun hb => ?_) (fun hb => ?_) <;> have h := hb <;> (try simp only [wf_preprocess] at h) <;> simp -implicitDefEqProofs (disch := omega) only [go_sem, hb] <;> (repeat (with_reducible refine And.intro ?_ ?_; focus first | omega | rfl | assumption | exact ⟨_, rfl, rfl⟩ | (simp; omega) | (simp; done)))
      · have hi : i < xs.length := by omega
        have hi' : i < ys.length := by omega
        have hx : xs[i].sz ≤ szRows (xs.map MSExpr.enc) := szRows_mem (List.mem_map_of_mem (List.getElem_mem hi))
        (repeat (with_reducible refine And.intro ?_ ?_; focus first | omega | rfl | assumption | exact ⟨_, rfl, rfl⟩ | (simp; omega) | (simp; done)))
        refine call_w (ihSExpr xs[i] (by have := List.sizeOf_lt_of_mem (List.getElem_mem hi); omega) ys[i] (by omega)) ?_
        simp -implicitDefEqProofs (disch := omega) only [go_sem]
        with_reducible refine split2 (fun hb => ?_) (fun hb => ?_) <;> have h := hb <;> (try simp only [wf_preprocess] at h) <;> simp -implicitDefEqProofs (disch := omega) only [go_sem, hb] <;> (repeat (with_reducible refine And.intro ?_ ?_; focus first | omega | rfl | assumption | exact ⟨_, rfl, rfl⟩ | (simp; omega) | (simp; done)))
        · exact bool_eq (dec_false (fun e => h (by simp only [e]))).symm
        refine inv_at (i + 1) (by omega) rfl rfl ⟨by omega, fun j hj => ?_⟩
        by_cases e : j = i
        · subst e
          rw [List.getElem?_eq_getElem hi, List.getElem?_eq_getElem hi', h]
        · exact p2 j (by omega)
      · have hi : i = xs.length := by omega
        refine bool_eq (dec_true (List.ext_getElem? fun j => ?_)).symm
        by_cases hj : j < i
        · exact p2 j hj
        · rw [List.getElem?_eq_none (by omega), List.getElem?_eq_none (by omega)]
theorem eqSExpr_ok (x : MSExpr) : ∀ y : MSExpr, x.sz ≤ 1048576 → PCall Tryz.prog 11 [x.v, y.v] (.c (.d (.b (dec (x = y))))) := (eqSExpr_all _).1 x (Nat.lt_succ_self _)
end Go.Proofs.YtokcpelkieeddaaGreat

namespace Go.Proofs.YtokcpelkieeddaaGreat
open Go Go.Ab
end Go.Proofs.YtokcpelkieeddaaGreat

namespace Go.Proofs.YtokcpelkieeddaaGreat
open Go Go.Ab
end Go.Proofs.YtokcpelkieeddaaGreat

namespace Go.Proofs.YtokcpelkieeddaaGreat
open Go Go.Ab
theorem szConstructor_ok (x : MConstructor) : ∀ left : Int, 0 ≤ left → left ≤ 1048576 → FitL x.enc → PCall Tryz.prog 88 [x.v, .c (.d (.i .i64 left))] (.c (.d (.i .i64 (sub1 left x.sz)))) := by
  intro left h0 h1 hf S
  simp only [MConstructor.enc_eq, List.cons_append, List.nil_append, fitL_cons, fitL_append, fitL_nil_iff, and_true] at hf
  obtain ⟨fName, fFields⟩ := hf
  have hz : x.sz = x.fName.length + ((x.fFields.length + szRows (x.fFields.map MType.enc))) := by
    simp only [MConstructor.sz, MConstructor.enc_eq, szRow, szRow_append, D.sz, List.length_map, Nat.add_zero, Nat.zero_add] <;> omega
  refine acall_cw (rs := [.tmp 4]) Tryz.checked.mixed Tryz.func88 Tryz.ntmps88 rfl rfl rfl rfl rfl ?_
  rw [hz]
  have gName := fit_s fName
  simp -implicitDefEqProofs (disch := omega) only [go_sem]
  with_reducible refine split2 (fun hb => ?_) (fun hb => ?_) <;> have h := hb <;> (try simp only [wf_preprocess] at h) <;> simp -implicitDefEqProofs (disch := omega) only [go_sem, hb] <;> (repeat (with_reducible refine And.intro ?_ ?_; focus first | omega | rfl | assumption | exact ⟨_, rfl, rfl⟩ | (simp; omega) | (simp; done)))
  · exact int_eq (sub1_no (by omega)).symm
  refine call_w (szTypeS_ok x.fFields _ (by omega) (by omega) fFields) ?_
  simp -implicitDefEqProofs (disch := omega) only [go_sem]
  with_reducible refine split2 (fun hb => ?_) (fun hb => ?_) <;> have h := hb <;> (try simp only [wf_preprocess] at h) <;> simp -implicitDefEqProofs (disch := omega) only [go_sem, hb] <;> (repeat (with_reducible refine And.intro ?_ ?_; focus first | omega | rfl | assumption | exact ⟨_, rfl, rfl⟩ | (simp; omega) | (simp; done)))
  · have h' := sub1_neg h
    exact int_eq (sub1_no (by omega)).symm
  have hFields := sub1_nn h
  simp only [hFields.1]
  refine int_eq ?_
  rw [sub1_yes (by omega)]
  omega
theorem szConstructorS_ok (xs : List MConstructor) : ∀ left : Int, 0 ≤ left → left ≤ 1048576 → (D.sl (xs.map MConstructor.enc)).Fit → PCall Tryz.prog 34 [.c (.d (.sl (xs.map MConstructor.enc))), .c (.d (.i .i64 left))] (.c (.d (.i .i64 (sub1 left (xs.length + szRows (xs.map MConstructor.enc)))))) := by
  intro left h0 h1 hf S
  obtain ⟨hf1, hf2⟩ := fit_sl hf
  rw [List.length_map] at hf1
  refine acall_cw (rs := [.tmp 4]) Tryz.checked.mixed Tryz.func34 Tryz.ntmps34 rfl rfl rfl rfl rfl ?_
  simp -implicitDefEqProofs (disch := omega) only [go_sem]
  with_reducible refine split2 (fun hb => ?_) (fun hb => ?_) <;> have h := hb <;> (try simp only [wf_preprocess] at h) <;> simp -implicitDefEqProofs (disch := omega) only [go_sem, hb] <;> (repeat (with_reducible refine And.intro ?_ ?_; focus first | omega | rfl | assumption | exact ⟨_, rfl, rfl⟩ | (simp; omega) | (simp; done)))
  · exact int_eq (sub1_no (by omega)).symm
  refine loop_at (ι := Nat × Int) Tryz.checked.mixed rfl [0, 1, 5] (fun y => [.c (.d (.sl (xs.map MConstructor.enc))), .c (.d (.i .i64 y.2)), .c (.d (.i .i64 y.1))]) (fun _ => [] :: S)
    (fun y => y.1 ≤ xs.length ∧ 0 ≤ y.2 ∧ y.2 ≤ 1048576 ∧ sub1 y.2 (szRows ((xs.map MConstructor.enc).drop y.1)) = sub1 left (xs.length + szRows (xs.map MConstructor.enc))) (fun y => xs.length - y.1) (0, left - xs.length) rfl rfl ⟨by omega, by omega, by omega, ?_⟩ ?_
  · unfold sub1
    rw [List.drop_zero]
    split <;> split <;> omega
  rintro ⟨i, l⟩ ⟨p1, p2, p3, p4⟩
  simp only at p1 p2 p3 p4
  simp -implicitDefEqProofs (disch := omega) only [go_sem]
  with_reducible refine split2 (fun hb => ?_) (fun hb => ?_) <;> have h := hb <;> (try simp only [wf_preprocess] at h) <;> simp -implicitDefEqProofs (disch := omega) only [go_sem, hb] <;> (repeat (with_reducible refine And.intro ?_ ?_; focus first | omega | rfl | assumption | exact ⟨_, rfl, rfl⟩ | (simp; omega) | (simp; done)))
  · have hi : i < xs.length := by omega
    rw [List.drop_eq_getElem_cons (by rw [List.length_map]; exact hi), szRows, List.getElem_map, MConstructor.sz_def] at p4
    (repeat (with_reducible refine And.intro ?_ ?_; focus first | omega | rfl | assumption | exact ⟨_, rfl, rfl⟩ | (simp; omega) | (simp; done)))
    refine call_w (szConstructor_ok xs[i] _ (by omega) (by omega) (hf2 _ (List.mem_map_of_mem (List.getElem_mem hi)))) ?_
    simp -implicitDefEqProofs (disch := omega) only [go_sem]
    with_reducible refine split2 (fun hb => ?_) (fun hb => ?_) <;> have h := hb <;> (try simp only [wf_preprocess] at h) <;> simp -implicitDefEqProofs (disch := omega) only [go_sem, hb] <;> (repeat (with_reducible refine And.intro ?_ ?_; focus first | omega | rfl | assumption | exact ⟨_, rfl, rfl⟩ | (simp; omega) | (simp; done)))
    · have h' := sub1_neg h
      rw [← p4, sub1_no (by omega)]
    · have h' := sub1_nn h
      refine inv_at (i + 1, sub1 l _) (by simp only; omega) rfl rfl ⟨by simp only; omega, by simp only; omega, by simp only; omega, ?_⟩
      simp only
      rw [← p4, h'.1]
      unfold sub1
      split <;> split <;> omega
  · have hi : i = xs.length := by omega
    rw [hi, List.drop_of_length_le (by simp), szRows, sub1_yes (by omega)] at p4
    rw [← p4]
    refine int_eq ?_
    omega
theorem toConstructor_ok (x : MConstructor) : x.sz ≤ 1048576 → PCall Tryz.prog 94 [x.v] x.v := by
  intro hsz S
  simp only [MConstructor.sz, MConstructor.enc_eq, szRow, szRow_append, D.sz, List.length_map] at hsz
  refine acall_cw (rs := [.cell 2 83]) Tryz.checked.mixed Tryz.func94 Tryz.ntmps94 rfl rfl rfl rfl rfl ?_
  simp -implicitDefEqProofs (disch := omega) only [go_sem]
  refine call_w (toTypeS_ok x.fFields (by omega)) ?_
  simp -implicitDefEqProofs (disch := omega) only [go_sem]
theorem toConstructorS_ok (xs : List MConstructor) : xs.length + szRows (xs.map MConstructor.enc) ≤ 1048576 → PCall Tryz.prog 42 [.c (.d (.sl (xs.map MConstructor.enc)))] (.c (.d (.sl (xs.map MConstructor.enc)))) := by
  intro hsz S
  refine acall_cw (rs := [.tmp 2]) Tryz.checked.mixed Tryz.func42 Tryz.ntmps42 rfl rfl rfl rfl rfl ?_
  simp -implicitDefEqProofs (disch := omega) only [go_sem]
  (repeat (with_reducible refine And.intro ?_ ?_; focus first | omega | rfl | assumption | exact ⟨_, rfl, rfl⟩ | (simp; omega) | (simp; done)))
  refine loop_at (ι := Nat × List (List D)) Tryz.checked.mixed rfl [0, 3, 4] (fun y => [.c (.d (.sl (xs.map MConstructor.enc))), .c (.msl (0, 0)), .c (.d (.i .i64 y.1))]) (fun y => [.mrow 2 y.2] :: S)
    (fun y => y.1 ≤ xs.length ∧ Filled 2 y.1 y.2 (xs.map MConstructor.enc)) (fun y => xs.length - y.1) (0, _) rfl rfl ⟨Nat.zero_le _, Filled.start (by simp) rfl⟩ ?_
  rintro ⟨i, R⟩ ⟨p1, p2⟩
  simp only at p1 p2
  simp -implicitDefEqProofs (disch := omega) only [go_sem]
  with_reducible refine split2 (fun hb => ?_) (fun hb => ?_) <;> have h := hb <;> (try simp only [wf_preprocess] at h) <;> simp -implicitDefEqProofs (disch := omega) only [go_sem, hb] <;> (repeat (with_reducible refine And.intro ?_ ?_; focus first | omega | rfl | assumption | exact ⟨_, rfl, rfl⟩ | (simp; omega) | (simp; done)))
  · have hi : i < xs.length := by omega
    have hx : xs[i].sz ≤ szRows (xs.map MConstructor.enc) := szRows_mem (List.mem_map_of_mem (List.getElem_mem hi))
    (repeat (with_reducible refine And.intro ?_ ?_; focus first | omega | rfl | assumption | exact ⟨_, rfl, rfl⟩ | (simp; omega) | (simp; done)))
    refine call_w (toConstructor_ok xs[i] (by omega)) ?_
    simp -implicitDefEqProofs (disch := omega) only [go_sem]
    have hR := p2.1
    rw [List.length_map] at hR
    (repeat (with_reducible refine And.intro ?_ ?_; focus first | omega | rfl | assumption | exact ⟨_, rfl, rfl⟩ | (simp; omega) | (simp; done)))
    refine inv_at (i + 1, _) (by simp only; omega) rfl rfl ⟨by simp only; omega, p2.step (by simp [hi, MConstructor.enc_eq]) rfl⟩
  · have hi : i = xs.length := by omega
    rw [p2.done (by rw [List.length_map]; omega)]
theorem eqConstructor_ok (x : MConstructor) : ∀ y : MConstructor, x.sz ≤ 1048576 → PCall Tryz.prog 103 [x.v, y.v] (.c (.d (.b (dec (x = y))))) := by
  intro y hsz S
  simp only [MConstructor.sz, MConstructor.enc_eq, szRow, szRow_append, D.sz, List.length_map] at hsz
  refine acall_cw (rs := [.tmp 4]) Tryz.checked.mixed Tryz.func103 Tryz.ntmps103 rfl rfl rfl rfl rfl ?_
  simp -implicitDefEqProofs (disch := omega) only [go_sem]
  with_reducible refine split2 (fun hb => ?_) (fun hb => ?_) <;> have h := hb <;> (try simp only [wf_preprocess] at h) <;> simp -implicitDefEqProofs (disch := omega) only [go_sem, hb] <;> (repeat (with_reducible refine And.intro ?_ ?_; focus first | omega | rfl | assumption | exact ⟨_, rfl, rfl⟩ | (simp; omega) | (simp; done)))
  · exact bool_eq (dec_false (fun e => h (by rw [e]))).symm
  have eName := h
  clear h
  refine call_w (eqTypeS_ok x.fFields _ (by omega)) ?_
  simp -implicitDefEqProofs (disch := omega) only [go_sem]
  with_reducible refine split2 (fun hb => ?_) (fun hb => ?_) <;> have h := hb <;> (try simp only [wf_preprocess] at h) <;> simp -implicitDefEqProofs (disch := omega) only [go_sem, hb] <;> (repeat (with_reducible refine And.intro ?_ ?_; focus first | omega | rfl | assumption | exact ⟨_, rfl, rfl⟩ | (simp; omega) | (simp; done)))
  · exact bool_eq (dec_false (fun e => h (by rw [e]))).symm
  have eFields := h
  clear h
  exact bool_eq (dec_true (MConstructor.ext' eName eFields)).symm
theorem eqConstructorS_ok (xs : List MConstructor) : ∀ ys : List MConstructor, xs.length + szRows (xs.map MConstructor.enc) ≤ 1048576 → PCall Tryz.prog 48 [.c (.d (.sl (xs.map MConstructor.enc))), .c (.d (.sl (ys.map MConstructor.enc)))] (.c (.d (.b (dec (xs = ys))))) := by
  intro ys hsz S
  refine acall_cw (rs := [.tmp 4]) Tryz.checked.mixed Tryz.func48 Tryz.ntmps48 rfl rfl rfl rfl rfl ?_
  simp -implicitDefEqProofs (disch := omega) only [go_sem]
  with_reducible refine split2 (fun hb => ?_) (fun hb => ?_) <;> have h := hb <;> (try simp only [wf_preprocess] at h) <;> simp -implicitDefEqProofs (disch := omega) only [go_sem, hb] <;> (repeat (with_reducible refine And.intro ?_ ?_; focus first | omega | rfl | assumption | exact ⟨_, rfl, rfl⟩ | (simp; omega) | (simp; done)))
  · exact bool_eq (dec_false (fun e => h (by rw [e]))).symm
  have hl : xs.length = ys.length := by omega
  refine loop_at (ι := Nat) Tryz.checked.mixed rfl [0, 1, 5] (fun y => [.c (.d (.sl (xs.map MConstructor.enc))), .c (.d (.sl (ys.map MConstructor.enc))), .c (.d (.i .i64 y))]) (fun y => [] :: S)
    (fun i => i ≤ xs.length ∧ ∀ j, j < i → xs[j]? = ys[j]?) (fun y => xs.length - y) 0 rfl rfl ⟨Nat.zero_le _, fun j h => by omega⟩ ?_
  rintro i ⟨p1, p2⟩
  simp -implicitDefEqProofs (disch := omega) only [go_sem]
  with_reducible refine split2 (fun hb => ?_) (fun hb => ?_) <;> have h := hb <;> (try simp only [wf_preprocess] at h) <;> simp -implicitDefEqProofs (disch := omega) only [go_sem, hb] <;> (repeat (with_reducible refine And.intro ?_ ?_; focus first | omega | rfl | assumption | exact ⟨_, rfl, rfl⟩ | (simp; omega) | (simp; done)))
  · have hi : i < xs.length := by omega
    have hi' : i < ys.length := by omega
    have hx : xs[i].sz ≤ szRows (xs.map MConstructor.enc) := szRows_mem (List.mem_map_of_mem (List.getElem_mem hi))
    (repeat (with_reducible refine And.intro ?_ ?_; focus first | omega | rfl | assumption | exact ⟨_, rfl, rfl⟩ | (simp; omega) | (simp; done)))
    refine call_w (eqConstructor_ok xs[i] ys[i] (by omega)) ?_
    simp -implicitDefEqProofs (disch := omega) only [go_sem]
    with_reducible refine split2 (fun hb => ?_) (fun hb => ?_) <;> have h := hb <;> (try simp only [wf_preprocess] at h) <;> simp -implicitDefEqProofs (disch := omega) only [go_sem, hb] <;> (repeat (with_reducible refine And.intro ?_ ?_; focus first | omega | rfl | assumption | exact ⟨_, rfl, rfl⟩ | (simp; omega) | (simp; done)))
    · exact bool_eq (dec_false (fun e => h (by simp only [e]))).symm
    refine inv_at (i + 1) (by omega) rfl rfl ⟨by omega, fun j hj => ?_⟩
    by_cases e : j = i
    · subst e
      rw [List.getElem?_eq_getElem hi, List.getElem?_eq_getElem hi', h]
    · exact p2 j (by omega)
  · have hi : i = xs.length := by omega
    refine bool_eq (dec_true (List.ext_getElem? fun j => ?_)).symm
    by_cases hj : j < i
    · exact p2 j hj
    · rw [List.getElem?_eq_none (by omega), List.getElem?_eq_none (by omega)]
end Go.Proofs.YtokcpelkieeddaaGreat

namespace Go.Proofs.YtokcpelkieeddaaGreat
open Go Go.Ab
theorem szDataType_ok (x : MDataType) : ∀ left : Int, 0 ≤ left → left ≤ 1048576 → FitL x.enc → PCall Tryz.prog 7 [x.v, .c (.d (.i .i64 left))] (.c (.d (.i .i64 (sub1 left x.sz)))) := by
  intro left h0 h1 hf S
  simp only [MDataType.enc_eq, List.cons_append, List.nil_append, fitL_cons, fitL_append, fitL_nil_iff, and_true] at hf
  obtain ⟨fName, fVars, fConstructors⟩ := hf
  have hz : x.sz = x.fName.length + ((x.fVars.length + szRows (x.fVars.map encS)) + ((x.fConstructors.length + szRows (x.fConstructors.map MConstructor.enc)))) := by
    simp only [MDataType.sz, MDataType.enc_eq, szRow, szRow_append, D.sz, List.length_map, Nat.add_zero, Nat.zero_add] <;> omega
  refine acall_cw (rs := [.tmp 4]) Tryz.checked.mixed Tryz.func7 Tryz.ntmps7 rfl rfl rfl rfl rfl ?_
  rw [hz]
  have gName := fit_s fName
  simp -implicitDefEqProofs (disch := omega) only [go_sem]
  with_reducible refine split2 (fun hb => ?_) (fun hb => ?_) <;> have h := hb <;> (try simp only [wf_preprocess] at h) <;> simp -implicitDefEqProofs (disch := omega) only [go_sem, hb] <;> (repeat (with_reducible refine And.intro ?_ ?_; focus first | omega | rfl | assumption | exact ⟨_, rfl, rfl⟩ | (simp; omega) | (simp; done)))
  · exact int_eq (sub1_no (by omega)).symm
  refine call_w (szStringS_ok x.fVars _ (by omega) (by omega) fVars) ?_
  simp -implicitDefEqProofs (disch := omega) only [go_sem]
  with_reducible refine split2 (fun hb => ?_) (fun hb => ?_) <;> have h := hb <;> (try simp only [wf_preprocess] at h) <;> simp -implicitDefEqProofs (disch := omega) only [go_sem, hb] <;> (repeat (with_reducible refine And.intro ?_ ?_; focus first | omega | rfl | assumption | exact ⟨_, rfl, rfl⟩ | (simp; omega) | (simp; done)))
  · have h' := sub1_neg h
    exact int_eq (sub1_no (by omega)).symm
  have hVars := sub1_nn h
  simp only [hVars.1]
  refine call_w (szConstructorS_ok x.fConstructors _ (by omega) (by omega) fConstructors) ?_
  simp -implicitDefEqProofs (disch := omega) only [go_sem]
  with_reducible refine split2 (fun hb => ?_) (fun hb => ?_) <;> have h := hb <;> (try simp only [wf_preprocess] at h) <;> simp -implicitDefEqProofs (disch := omega) only [go_sem, hb] <;> (repeat (with_reducible refine And.intro ?_ ?_; focus first | omega | rfl | assumption | exact ⟨_, rfl, rfl⟩ | (simp; omega) | (simp; done)))
  · have h' := sub1_neg h
    exact int_eq (sub1_no (by omega)).symm
  have hConstructors := sub1_nn h
  simp only [hConstructors.1]
  refine int_eq ?_
  rw [sub1_yes (by omega)]
  omega
theorem toDataType_ok (x : MDataType) : x.sz ≤ 1048576 → PCall Tryz.prog 9 [x.v] x.v := by
  intro hsz S
  simp only [MDataType.sz, MDataType.enc_eq, szRow, szRow_append, D.sz, List.length_map] at hsz
  refine acall_cw (rs := [.cell 2 33]) Tryz.checked.mixed Tryz.func9 Tryz.ntmps9 rfl rfl rfl rfl rfl ?_
  simp -implicitDefEqProofs (disch := omega) only [go_sem]
  refine call_w (toStringS_ok x.fVars (by omega)) ?_
  simp -implicitDefEqProofs (disch := omega) only [go_sem]
  refine call_w (toConstructorS_ok x.fConstructors (by omega)) ?_
  simp -implicitDefEqProofs (disch := omega) only [go_sem]
theorem eqDataType_ok (x : MDataType) : ∀ y : MDataType, x.sz ≤ 1048576 → PCall Tryz.prog 12 [x.v, y.v] (.c (.d (.b (dec (x = y))))) := by
  intro y hsz S
  simp only [MDataType.sz, MDataType.enc_eq, szRow, szRow_append, D.sz, List.length_map] at hsz
  refine acall_cw (rs := [.tmp 4]) Tryz.checked.mixed Tryz.func12 Tryz.ntmps12 rfl rfl rfl rfl rfl ?_
  simp -implicitDefEqProofs (disch := omega) only [go_sem]
  with_reducible refine split2 (fun hb => ?_) (fun hb => ?_) <;> have h := hb <;> (try simp only [wf_preprocess] at h) <;> simp -implicitDefEqProofs (disch := omega) only [go_sem, hb] <;> (repeat (with_reducible refine And.intro ?_ ?_; focus first | omega | rfl | assumption | exact ⟨_, rfl, rfl⟩ | (simp; omega) | (simp; done)))
  · exact bool_eq (dec_false (fun e => h (by rw [e]))).symm
  have eName := h
  clear h
  refine call_w (eqStringS_ok x.fVars _ (by omega)) ?_
  simp -implicitDefEqProofs (disch := omega) only [go_sem]
  with_reducible refine split2 (fun hb => ?_) (fun hb => ?_) <;> have h := hb <;> (try simp only [wf_preprocess] at h) <;> simp -implicitDefEqProofs (disch := omega) only [go_sem, hb] <;> (repeat (with_reducible refine And.intro ?_ ?_; focus first | omega | rfl | assumption | exact ⟨_, rfl, rfl⟩ | (simp; omega) | (simp; done)))
  · exact bool_eq (dec_false (fun e => h (by rw [e]))).symm
  have eVars := h
  clear h
  refine call_w (eqConstructorS_ok x.fConstructors _ (by omega)) ?_
  simp -implicitDefEqProofs (disch := omega) only [go_sem]
  with_reducible refine split2 (fun hb => ?_) (fun hb => ?_) <;> have h := hb <;> (try simp only [wf_preprocess] at h) <;> simp -implicitDefEqProofs (disch := omega) only [go_sem, hb] <;> (repeat (with_reducible refine And.intro ?_ ?_; focus first | omega | rfl | assumption | exact ⟨_, rfl, rfl⟩ | (simp; omega) | (simp; done)))
  · exact bool_eq (dec_false (fun e => h (by rw [e]))).symm
  have eConstructors := h
  clear h
  exact bool_eq (dec_true (MDataType.ext' eName eVars eConstructors)).symm
end Go.Proofs.YtokcpelkieeddaaGreat

namespace Go.Proofs.YtokcpelkieeddaaGreat
open Go Go.Ab
end Go.Proofs.YtokcpelkieeddaaGreat

namespace Go.Proofs.YtokcpelkieeddaaGreat
open Go Go.Ab
theorem l1In_ok (n a b : Int) : PCall Tryz.prog 126 [.c (.d (.i .i64 n)), .c (.d (.i .i64 a)), .c (.d (.i .i64 b))] (.c (.d (.b (dec (a ≤ n ∧ n ≤ b))))) := fun S => by
  refine acall_cw (rs := [.tmp 6]) Tryz.checked.mixed Tryz.func126 Tryz.ntmps126 rfl rfl rfl rfl rfl ?_
  simp -implicitDefEqProofs (disch := omega) only [go_sem]
  with_reducible refine split2 (fun hb => ?_) (fun hb => ?_) <;> have h := hb <;> (try simp only [wf_preprocess] at h) <;> simp -implicitDefEqProofs (disch := omega) only [go_sem, hb] <;> (repeat (with_reducible refine And.intro ?_ ?_; focus first | omega | rfl | assumption | exact ⟨_, rfl, rfl⟩ | (simp; omega) | (simp; done)))
  · exact bool_eq (by rw [decide_dec]; exact dec_congr ⟨fun x => ⟨by omega, x⟩, fun x => x.2⟩)
  · exact bool_eq (dec_false (by omega)).symm
theorem l1Has_ok (xs : List (List UInt8)) (s : List UInt8) (hl : xs.length ≤ 1073741824) : PCall Tryz.prog 185 [.c (.d (.sl (xs.map encS))), .c (.d (.s s))] (.c (.d (.b (dec (s ∈ xs))))) := fun S => by
  refine acall_cw (rs := [.tmp 4]) Tryz.checked.mixed Tryz.func185 Tryz.ntmps185 rfl rfl rfl rfl rfl ?_
  simp -implicitDefEqProofs (disch := omega) only [go_sem, encS]
  refine loop_at (ι := Nat) Tryz.checked.mixed rfl [0, 1, 5] (fun i => [.c (.d (.sl (xs.map encS))), .c (.d (.s s)), .c (.d (.i .i64 i))]) (fun _ => [] :: S)
    (fun i => i ≤ xs.length ∧ ∀ j, j < i → ∀ h : j < xs.length, xs[j] ≠ s) (fun i => xs.length - i) 0 rfl rfl ⟨Nat.zero_le _, fun j h => by omega⟩ ?_
  rintro i ⟨p1, p2⟩
  simp -implicitDefEqProofs (disch := omega) only [go_sem, encS]
  with_reducible refine split2 (fun hb => ?_) (fun hb => ?_) <;> have h := hb <;> (try simp only [wf_preprocess] at h) <;> simp -implicitDefEqProofs (disch := omega) only [go_sem, hb, encS] <;> (repeat (with_reducible refine And.intro ?_ ?_; focus first | omega | rfl | assumption | exact ⟨_, rfl, rfl⟩ | (simp; omega) | (simp; done)))
  · have hi : i < xs.length := by omega
    with_reducible refine split2 (fun hb => ?_) (fun hb => ?_) <;> have h := hb <;> (try simp only [wf_preprocess] at h) <;> simp -implicitDefEqProofs (disch := omega) only [go_sem, hb, encS] <;> (repeat (with_reducible refine And.intro ?_ ?_; focus first | omega | rfl | assumption | exact ⟨_, rfl, rfl⟩ | (simp; omega) | (simp; done)))
    · exact bool_eq (dec_true (by rw [← h]; exact List.getElem_mem hi)).symm
    · refine inv_at (i + 1) (by omega) rfl rfl ⟨by omega, fun j hj hl => ?_⟩
      by_cases e : j = i
      · subst e; exact h
      · exact p2 j (by omega) hl
  · refine bool_eq (dec_false fun hm => ?_).symm
    obtain ⟨j, h1, h2⟩ := List.getElem_of_mem hm
    exact p2 j (by omega) h1 h2
theorem indexS_ok (xs : List (List UInt8)) (s : List UInt8) (hl : xs.length ≤ 1073741824) : PCall Tryz.prog 213 [.c (.d (.sl (xs.map encS))), .c (.d (.s s))] (.c (.d (.i .i64 (indexS xs s)))) := fun S => by
  refine acall_cw (rs := [.tmp 4]) Tryz.checked.mixed Tryz.func213 Tryz.ntmps213 rfl rfl rfl rfl rfl ?_
  simp -implicitDefEqProofs (disch := omega) only [go_sem, encS]
  refine loop_at (ι := Nat) Tryz.checked.mixed rfl [0, 1, 7, 8] (fun i => [.c (.d (.sl (xs.map encS))), .c (.d (.s s)), .c (.d (.i .i64 xs.length)), .c (.d (.i .i64 i))]) (fun _ => [] :: S)
    (fun i => i ≤ xs.length ∧ ∀ j, j < i → xs.getD j [] ≠ s) (fun i => xs.length - i) 0 rfl rfl ⟨Nat.zero_le _, fun j h => by omega⟩ ?_
  rintro i ⟨p1, p2⟩
  simp -implicitDefEqProofs (disch := omega) only [go_sem, encS]
  with_reducible refine split2 (fun hb => ?_) (fun hb => ?_) <;> have h := hb <;> (try simp only [wf_preprocess] at h) <;> simp -implicitDefEqProofs (disch := omega) only [go_sem, hb, encS] <;> (repeat (with_reducible refine And.intro ?_ ?_; focus first | omega | rfl | assumption | exact ⟨_, rfl, rfl⟩ | (simp; omega) | (simp; done)))
  · have hi : i < xs.length := by omega
    have e : xs.getD i [] = xs[i] := by simp [List.getD, hi]
    with_reducible refine split2 (fun hb => ?_) (fun hb => ?_) <;> have h := hb <;> (try simp only [wf_preprocess] at h) <;> simp -implicitDefEqProofs (disch := omega) only [go_sem, hb, encS] <;> (repeat (with_reducible refine And.intro ?_ ?_; focus first | omega | rfl | assumption | exact ⟨_, rfl, rfl⟩ | (simp; omega) | (simp; done)))
    · rw [indexS_here hi p2 (by rw [e]; exact h.symm)]
    · refine inv_at (i + 1) (by omega) rfl rfl ⟨by omega, fun j hj => ?_⟩
      by_cases e' : j = i
      · subst e'; rw [e]; exact fun x => h x.symm
      · exact p2 j (by omega)
  · rw [indexS_no (fun j hj => p2 j (by omega))]
theorem containsS_ok (xs : List (List UInt8)) (s : List UInt8) (hl : xs.length ≤ 1073741824) : PCall Tryz.prog 188 [.c (.d (.sl (xs.map encS))), .c (.d (.s s))] (.c (.d (.b (dec (s ∈ xs))))) := fun S => by
  refine acall_cw (rs := [.tmp 4]) Tryz.checked.mixed Tryz.func188 Tryz.ntmps188 rfl rfl rfl rfl rfl ?_
  simp -implicitDefEqProofs (disch := omega) only [go_sem]
  refine call_w (indexS_ok xs s hl) ?_
  simp -implicitDefEqProofs (disch := omega) only [go_sem] <;> (repeat (with_reducible refine And.intro ?_ ?_; focus first | omega | rfl | assumption | exact ⟨_, rfl, rfl⟩ | (simp; omega) | (simp; done)))
  exact bool_eq indexS_pos
theorem specReserved_ok (s : List UInt8) : PCall Tryz.prog 142 [.c (.d (.s s))] (.c (.d (.b (dec (s ∈ reserved))))) := fun S => by
  refine acall_cw (rs := [.tmp 2]) Tryz.checked.mixed Tryz.func142 Tryz.ntmps142 rfl rfl rfl rfl rfl ?_
  simp -implicitDefEqProofs (disch := omega) only [go_sem]
  (repeat (with_reducible refine And.intro ?_ ?_; focus first | omega | rfl | assumption | exact ⟨_, rfl, rfl⟩ | (simp; omega) | (simp; done)))
  refine call_w (l1Has_ok reserved s (by decide)) ?_
  simp -implicitDefEqProofs (disch := omega) only [go_sem] <;> (repeat (with_reducible refine And.intro ?_ ?_; focus first | omega | rfl | assumption | exact ⟨_, rfl, rfl⟩ | (simp; omega) | (simp; done)))
theorem implReserved_ok (s : List UInt8) : PCall Tryz.prog 148 [.c (.d (.s s))] (.c (.d (.b (dec (s ∈ reserved))))) := fun S => by
  refine acall_cw (rs := [.tmp 2]) Tryz.checked.mixed Tryz.func148 Tryz.ntmps148 rfl rfl rfl rfl rfl ?_
  simp -implicitDefEqProofs (disch := omega) only [go_sem]
  (repeat (with_reducible refine And.intro ?_ ?_; focus first | omega | rfl | assumption | exact ⟨_, rfl, rfl⟩ | (simp; omega) | (simp; done)))
  refine call_w (containsS_ok reserved s (by decide)) ?_
  simp -implicitDefEqProofs (disch := omega) only [go_sem] <;> (repeat (with_reducible refine And.intro ?_ ?_; focus first | omega | rfl | assumption | exact ⟨_, rfl, rfl⟩ | (simp; omega) | (simp; done)))
theorem isLower_ok (b : UInt8) : PCall Tryz.prog 146 [.c (.d (.i .u8 b.toNat))] (.c (.d (.b (dec (lowerB b))))) := fun S => by
  refine acall_cw (rs := [.tmp 2]) Tryz.checked.mixed Tryz.func146 Tryz.ntmps146 rfl rfl rfl rfl rfl ?_
  simp -implicitDefEqProofs (disch := omega) only [go_sem]
  with_reducible refine split2 (fun hb => ?_) (fun hb => ?_) <;> have h := hb <;> (try simp only [wf_preprocess] at h) <;> simp -implicitDefEqProofs (disch := omega) only [go_sem, hb] <;> (repeat (with_reducible refine And.intro ?_ ?_; focus first | omega | rfl | assumption | exact ⟨_, rfl, rfl⟩ | (simp; omega) | (simp; done)))
  · exact bool_eq (by rw [decide_dec]; exact dec_congr ⟨fun x => ⟨by omega, by omega⟩, fun x => by have := x.2; omega⟩)
  · exact bool_eq (dec_false fun x => by have := x.1; omega).symm
theorem isDigit_ok (b : UInt8) : PCall Tryz.prog 147 [.c (.d (.i .u8 b.toNat))] (.c (.d (.b (dec (digitB b))))) := fun S => by
  refine acall_cw (rs := [.tmp 2]) Tryz.checked.mixed Tryz.func147 Tryz.ntmps147 rfl rfl rfl rfl rfl ?_
  simp -implicitDefEqProofs (disch := omega) only [go_sem]
  with_reducible refine split2 (fun hb => ?_) (fun hb => ?_) <;> have h := hb <;> (try simp only [wf_preprocess] at h) <;> simp -implicitDefEqProofs (disch := omega) only [go_sem, hb] <;> (repeat (with_reducible refine And.intro ?_ ?_; focus first | omega | rfl | assumption | exact ⟨_, rfl, rfl⟩ | (simp; omega) | (simp; done)))
  · exact bool_eq (by rw [decide_dec]; exact dec_congr ⟨fun x => ⟨by omega, by omega⟩, fun x => by have := x.2; omega⟩)
  · exact bool_eq (dec_false fun x => by have := x.1; omega).symm
theorem implValidName_ok (s : List UInt8) (hl : s.length ≤ 1073741824) : PCall Tryz.prog 95 [.c (.d (.s s))] (.c (.d (.b (validName s)))) := fun S => by
  refine acall_cw (rs := [.tmp 2]) Tryz.checked.mixed Tryz.func95 Tryz.ntmps95 rfl rfl rfl rfl rfl ?_
  simp -implicitDefEqProofs (disch := omega) only [go_sem]
  refine loop_at (ι := Nat) Tryz.checked.mixed rfl [0, 5, 6] (fun i => [.c (.d (.s s)), .c (.d (.i .i64 s.length)), .c (.d (.i .i64 i))]) (fun _ => [] :: S)
    (fun i => i ≤ s.length ∧ ∀ j, j < i → lowerB (s.getD j 0) ∨ (j ≠ 0 ∧ digitB (s.getD j 0))) (fun i => s.length - i) 0 rfl rfl ⟨Nat.zero_le _, fun j h => by omega⟩ ?_
  rintro i ⟨p1, p2⟩
  have next : i < s.length → (lowerB (s.getD i 0) ∨ (i ≠ 0 ∧ digitB (s.getD i 0))) → ∀ j, j < i + 1 → lowerB (s.getD j 0) ∨ (j ≠ 0 ∧ digitB (s.getD j 0)) := fun hi h j hj => by
    by_cases e : j = i
    · subst e; exact h
    · exact p2 j (by omega)
  have bad : i < s.length → ¬ (lowerB (s.getD i 0) ∨ (i ≠ 0 ∧ digitB (s.getD i 0))) → validName s = false := fun hi h => dec_false fun x => h (x.2.2 i hi)
  simp -implicitDefEqProofs (disch := omega) only [go_sem]
  with_reducible refine split2 (fun hb => ?_) (fun hb => ?_) <;> have h := hb <;> (try simp only [wf_preprocess] at h) <;> simp -implicitDefEqProofs (disch := omega) only [go_sem, hb] <;> (repeat (with_reducible refine And.intro ?_ ?_; focus first | omega | rfl | assumption | exact ⟨_, rfl, rfl⟩ | (simp; omega) | (simp; done)))
  · have hi : i < s.length := by omega
    (repeat (with_reducible refine And.intro ?_ ?_; focus first | omega | rfl | assumption | exact ⟨_, rfl, rfl⟩ | (simp; omega) | (simp; done)))
    refine call_w (isLower_ok (s.getD i 0)) ?_
    simp -implicitDefEqProofs (disch := omega) only [go_sem] <;> (repeat (with_reducible refine And.intro ?_ ?_; focus first | omega | rfl | assumption | exact ⟨_, rfl, rfl⟩ | (simp; omega) | (simp; done)))
    with_reducible refine split2 (fun hb => ?_) (fun hb => ?_) <;> have h := hb <;> (try simp only [wf_preprocess] at h) <;> simp -implicitDefEqProofs (disch := omega) only [go_sem, hb] <;> (repeat (with_reducible refine And.intro ?_ ?_; focus first | omega | rfl | assumption | exact ⟨_, rfl, rfl⟩ | (simp; omega) | (simp; done)))
    · have nl := h
      with_reducible refine split2 (fun hb => ?_) (fun hb => ?_) <;> have h := hb <;> (try simp only [wf_preprocess] at h) <;> simp -implicitDefEqProofs (disch := omega) only [go_sem, hb] <;> (repeat (with_reducible refine And.intro ?_ ?_; focus first | omega | rfl | assumption | exact ⟨_, rfl, rfl⟩ | (simp; omega) | (simp; done)))
      · have i0 : i = 0 := by omega
        rw [bad hi (fun x => x.elim nl fun y => y.1 i0)]
      · have ne := h
        (repeat (with_reducible refine And.intro ?_ ?_; focus first | omega | rfl | assumption | exact ⟨_, rfl, rfl⟩ | (simp; omega) | (simp; done)))
        refine call_w (isDigit_ok (s.getD i 0)) ?_
        simp -implicitDefEqProofs (disch := omega) only [go_sem] <;> (repeat (with_reducible refine And.intro ?_ ?_; focus first | omega | rfl | assumption | exact ⟨_, rfl, rfl⟩ | (simp; omega) | (simp; done)))
        with_reducible refine split2 (fun hb => ?_) (fun hb => ?_) <;> have h := hb <;> (try simp only [wf_preprocess] at h) <;> simp -implicitDefEqProofs (disch := omega) only [go_sem, hb] <;> (repeat (with_reducible refine And.intro ?_ ?_; focus first | omega | rfl | assumption | exact ⟨_, rfl, rfl⟩ | (simp; omega) | (simp; done)))
        · rw [bad hi (fun x => x.elim nl fun y => h y.2)]
        · exact inv_at (i + 1) (by omega) rfl rfl ⟨by omega, next hi (.inr ⟨by omega, h⟩)⟩
    · exact inv_at (i + 1) (by omega) rfl rfl ⟨by omega, next hi (.inl h)⟩
  · have hn : nameOk s := fun j hj => p2 j (by omega)
    have h0 : ∀ b, dec (s ∈ reserved) = b → ∀ c, decide ((s.length : Int) ≥ 1) = c → ∀ d, decide ((s.length : Int) ≤ 8) = d → validName s = (c && d && !b) := by
      rintro b rfl c rfl d rfl
      unfold validName
      rw [Bool.eq_iff_iff]
      simp only [dec_eq_true, Bool.and_eq_true, decide_eq_true_eq, Bool.not_eq_true', dec_eq_false]
      exact ⟨fun x => ⟨⟨by omega, by omega⟩, x.2.1⟩, fun x => ⟨⟨by omega, by omega⟩, x.2, hn⟩⟩
    with_reducible refine split2 (fun hb => ?_) (fun hb => ?_) <;> have h := hb <;> (try simp only [wf_preprocess] at h) <;> simp -implicitDefEqProofs (disch := omega) only [go_sem, hb] <;> (repeat (with_reducible refine And.intro ?_ ?_; focus first | omega | rfl | assumption | exact ⟨_, rfl, rfl⟩ | (simp; omega) | (simp; done)))
    · have c1 := hb
      with_reducible refine split2 (fun hb => ?_) (fun hb => ?_) <;> have h := hb <;> (try simp only [wf_preprocess] at h) <;> simp -implicitDefEqProofs (disch := omega) only [go_sem, hb] <;> (repeat (with_reducible refine And.intro ?_ ?_; focus first | omega | rfl | assumption | exact ⟨_, rfl, rfl⟩ | (simp; omega) | (simp; done)))
      · refine call_w (implReserved_ok s) ?_
        simp -implicitDefEqProofs (disch := omega) only [go_sem] <;> (repeat (with_reducible refine And.intro ?_ ?_; focus first | omega | rfl | assumption | exact ⟨_, rfl, rfl⟩ | (simp; omega) | (simp; done)))
        exact bool_eq (by rw [h0 _ rfl _ c1 _ hb]; simp)
      · exact bool_eq (by rw [h0 _ rfl _ c1 _ hb]; simp)
    · exact bool_eq (by rw [h0 _ rfl _ hb _ rfl]; simp)
theorem specValidName_ok (s : List UInt8) (hl : s.length ≤ 1073741824) : PCall Tryz.prog 92 [.c (.d (.s s))] (.c (.d (.b (validName s)))) := fun S => by
  have bad : ¬ nameOk s → validName s = false := fun h => dec_false fun x => h x.2.2
  refine acall_cw (rs := [.tmp 2]) Tryz.checked.mixed Tryz.func92 Tryz.ntmps92 rfl rfl rfl rfl rfl ?_
  simp -implicitDefEqProofs (disch := omega) only [go_sem]
  refine call_w (l1In_ok s.length 1 8) ?_
  simp -implicitDefEqProofs (disch := omega) only [go_sem] <;> (repeat (with_reducible refine And.intro ?_ ?_; focus first | omega | rfl | assumption | exact ⟨_, rfl, rfl⟩ | (simp; omega) | (simp; done)))
  with_reducible refine split2 (fun hb => ?_) (fun hb => ?_) <;> have h := hb <;> (try simp only [wf_preprocess] at h) <;> simp -implicitDefEqProofs (disch := omega) only [go_sem, hb] <;> (repeat (with_reducible refine And.intro ?_ ?_; focus first | omega | rfl | assumption | exact ⟨_, rfl, rfl⟩ | (simp; omega) | (simp; done)))
  · rw [show validName s = false from dec_false fun x => h (by omega)]
  have hlen := h
  refine call_w (specReserved_ok s) ?_
  simp -implicitDefEqProofs (disch := omega) only [go_sem] <;> (repeat (with_reducible refine And.intro ?_ ?_; focus first | omega | rfl | assumption | exact ⟨_, rfl, rfl⟩ | (simp; omega) | (simp; done)))
  with_reducible refine split2 (fun hb => ?_) (fun hb => ?_) <;> have h := hb <;> (try simp only [wf_preprocess] at h) <;> simp -implicitDefEqProofs (disch := omega) only [go_sem, hb] <;> (repeat (with_reducible refine And.intro ?_ ?_; focus first | omega | rfl | assumption | exact ⟨_, rfl, rfl⟩ | (simp; omega) | (simp; done)))
  · rw [show validName s = false from dec_false fun x => x.2.1 h]
  have hres := h
  refine loop_at (ι := Nat) Tryz.checked.mixed rfl [0, 3] (fun i => [.c (.d (.s s)), .c (.d (.i .i64 i))]) (fun _ => [] :: S)
    (fun i => i ≤ s.length ∧ ∀ j, j < i → lowerB (s.getD j 0) ∨ (j ≠ 0 ∧ digitB (s.getD j 0))) (fun i => s.length - i) 0 rfl rfl ⟨Nat.zero_le _, fun j h => by omega⟩ ?_
  rintro i ⟨p1, p2⟩
  have next : i < s.length → (lowerB (s.getD i 0) ∨ (i ≠ 0 ∧ digitB (s.getD i 0))) → ∀ j, j < i + 1 → lowerB (s.getD j 0) ∨ (j ≠ 0 ∧ digitB (s.getD j 0)) := fun hi h j hj => by
    by_cases e : j = i
    · subst e; exact h
    · exact p2 j (by omega)
  simp -implicitDefEqProofs (disch := omega) only [go_sem]
  with_reducible refine split2 (fun hb => ?_) (fun hb => ?_) <;> have h := hb <;> (try simp only [wf_preprocess] at h) <;> simp -implicitDefEqProofs (disch := omega) only [go_sem, hb] <;> (repeat (with_reducible refine And.intro ?_ ?_; focus first | omega | rfl | assumption | exact ⟨_, rfl, rfl⟩ | (simp; omega) | (simp; done)))
  · have hi : i < s.length := by omega
    have bad' : ¬ (lowerB (s.getD i 0) ∨ (i ≠ 0 ∧ digitB (s.getD i 0))) → validName s = false := fun h => bad fun x => h (x i hi)
    have next := next hi
    unfold lowerB digitB at bad' next
    all_goals try (with_reducible refine split2 (fun hb => ?_) (fun hb => ?_) <;> have h := hb <;> (try simp only [wf_preprocess] at h) <;> simp -implicitDefEqProofs (disch := omega) only [go_sem, hb] <;> (repeat (with_reducible refine And.intro ?_ ?_; focus first | omega | rfl | assumption | exact ⟨_, rfl, rfl⟩ | (simp; omega) | (simp; done))))
    all_goals try (with_reducible refine split2 (fun hb => ?_) (fun hb => ?_) <;> have h := hb <;> (try simp only [wf_preprocess] at h) <;> simp -implicitDefEqProofs (disch := omega) only [go_sem, hb] <;> (repeat (with_reducible refine And.intro ?_ ?_; focus first | omega | rfl | assumption | exact ⟨_, rfl, rfl⟩ | (simp; omega) | (simp; done))))
    all_goals try (with_reducible refine split2 (fun hb => ?_) (fun hb => ?_) <;> have h := hb <;> (try simp only [wf_preprocess] at h) <;> simp -implicitDefEqProofs (disch := omega) only [go_sem, hb] <;> (repeat (with_reducible refine And.intro ?_ ?_; focus first | omega | rfl | assumption | exact ⟨_, rfl, rfl⟩ | (simp; omega) | (simp; done))))
    all_goals try (with_reducible refine split2 (fun hb => ?_) (fun hb => ?_) <;> have h := hb <;> (try simp only [wf_preprocess] at h) <;> simp -implicitDefEqProofs (disch := omega) only [go_sem, hb] <;> (repeat (with_reducible refine And.intro ?_ ?_; focus first | omega | rfl | assumption | exact ⟨_, rfl, rfl⟩ | (simp; omega) | (simp; done))))
    all_goals try (with_reducible refine split2 (fun hb => ?_) (fun hb => ?_) <;> have h := hb <;> (try simp only [wf_preprocess] at h) <;> simp -implicitDefEqProofs (disch := omega) only [go_sem, hb] <;> (repeat (with_reducible refine And.intro ?_ ?_; focus first | omega | rfl | assumption | exact ⟨_, rfl, rfl⟩ | (simp; omega) | (simp; done))))
    all_goals try (with_reducible refine split2 (fun hb => ?_) (fun hb => ?_) <;> have h := hb <;> (try simp only [wf_preprocess] at h) <;> simp -implicitDefEqProofs (disch := omega) only [go_sem, hb] <;> (repeat (with_reducible refine And.intro ?_ ?_; focus first | omega | rfl | assumption | exact ⟨_, rfl, rfl⟩ | (simp; omega) | (simp; done))))
    all_goals first
      | exact inv_at (i + 1) (by omega) rfl rfl ⟨by omega, next (by omega)⟩
      | exact bool_eq (bad' (by omega)).symm
  · rw [show validName s = true from dec_true ⟨by omega, hres, fun j hj => p2 j (by omega)⟩]
theorem l4Base_ok (s : List UInt8) : PCall Tryz.prog 235 [.c (.d (.s s))] (.c (.d (.b (builtInB s)))) := fun S => by
  refine acall_cw (rs := [.tmp 2]) Tryz.checked.mixed Tryz.func235 Tryz.ntmps235 rfl rfl rfl rfl rfl ?_
  simp -implicitDefEqProofs (disch := omega) only [go_sem]
  with_reducible refine split2 (fun hb => ?_) (fun hb => ?_) <;> have h := hb <;> (try simp only [wf_preprocess] at h) <;> simp -implicitDefEqProofs (disch := omega) only [go_sem, hb] <;> (repeat (with_reducible refine And.intro ?_ ?_; focus first | omega | rfl | assumption | exact ⟨_, rfl, rfl⟩ | (simp; omega) | (simp; done)))
  · exact bool_eq (dec_true (.inl h)).symm
  · exact bool_eq (by rw [decide_dec]; exact dec_congr ⟨fun x => .inr x, fun x => x.resolve_left h⟩)
theorem isBuiltIn_ok (s : List UInt8) : PCall Tryz.prog 236 [.c (.d (.s s))] (.c (.d (.b (builtInB s)))) := fun S => by
  refine acall_cw (rs := [.tmp 2]) Tryz.checked.mixed Tryz.func236 Tryz.ntmps236 rfl rfl rfl rfl rfl ?_
  simp -implicitDefEqProofs (disch := omega) only [go_sem]
  with_reducible refine split2 (fun hb => ?_) (fun hb => ?_) <;> have h := hb <;> (try simp only [wf_preprocess] at h) <;> simp -implicitDefEqProofs (disch := omega) only [go_sem, hb] <;> (repeat (with_reducible refine And.intro ?_ ?_; focus first | omega | rfl | assumption | exact ⟨_, rfl, rfl⟩ | (simp; omega) | (simp; done)))
  · exact bool_eq (dec_true (.inl h)).symm
  · exact bool_eq (by rw [decide_dec]; exact dec_congr ⟨fun x => .inr x, fun x => x.resolve_left h⟩)
end Go.Proofs.YtokcpelkieeddaaGreat

namespace Go.Proofs.YtokcpelkieeddaaGreat
open Go Go.Ab
theorem arg_sz {x : MType} {i : Nat} (hi : i < x.fArgs.length) (h : x.sz ≤ 4194304) : x.fArgs[i].sz ≤ 4194304 ∧ x.fArgs.length ≤ 4194304 ∧ x.fName.length ≤ 4194304 := by
  have hx : x.fArgs[i].sz ≤ szRows (x.fArgs.map MType.enc) := szRows_mem (List.mem_map_of_mem (List.getElem_mem hi))
  simp only [MType.sz, MType.enc_eq, szRow, D.sz, List.length_map] at h
  omega
theorem ty_sz {x : MType} (h : x.sz ≤ 4194304) : x.fArgs.length ≤ 4194304 ∧ x.fName.length ≤ 4194304 := by
  simp only [MType.sz, MType.enc_eq, szRow, D.sz, List.length_map] at h
  omega
theorem cnts_drop : ∀ {ts : List MType} {i : Nat} (hi : i < ts.length), MType.cnts (ts.drop i) = ts[i].cnt + MType.cnts (ts.drop (i + 1)) := fun {ts} {i} hi => by
  rw [List.drop_eq_getElem_cons hi, MType.cnts]
theorem depths_drop : ∀ {ts : List MType} {i : Nat} (hi : i < ts.length), depths (ts.drop i) = max (depthT ts[i] + 1) (depths (ts.drop (i + 1))) := fun {ts} {i} hi => by
  rw [List.drop_eq_getElem_cons hi, depths]
theorem formeds_drop : ∀ {ts : List MType} {i : Nat} (hi : i < ts.length), formeds (ts.drop i) = (formed ts[i] && formeds (ts.drop (i + 1))) := fun {ts} {i} hi => by
  rw [List.drop_eq_getElem_cons hi, formeds]
theorem l4Left_all : ∀ n : Nat, ∀ x : MType, SizeOf.sizeOf x < n → ∀ l : Int, 0 ≤ l → l ≤ 1073741824 → x.sz ≤ 4194304 → PCall Tryz.prog 210 [x.v, .c (.d (.i .i64 l))] (.c (.d (.i .i64 (sub1 l x.cnt))))
  | 0 => fun x h => by omega
  | n + 1 => by
    have ih := l4Left_all n
    intro x hn l h0 h1 hsz S
    have lArgs := MType.lt_Args x
    have hts := ty_sz hsz
    have hcn := MType.cnt_eq x
    refine acall_cw (rs := [.tmp 4]) Tryz.checked.mixed Tryz.func210 Tryz.ntmps210 rfl rfl rfl rfl rfl ?_
    simp -implicitDefEqProofs (disch := omega) only [go_sem]
    refine loop_at (ι := Nat × Int) Tryz.checked.mixed rfl [1, 2, 5] (fun y => [.c (.d (.i .i64 y.2)), .c (.ptr (0, 0) 0), .c (.d (.i .i64 y.1))]) (fun y => [.box [.d (.i .i64 x.fKind), .d (.s x.fName), .d (.sl (x.fArgs.map MType.enc))]] :: S)
      (fun y => y.1 ≤ x.fArgs.length ∧ -1 ≤ y.2 ∧ y.2 ≤ 1073741824 ∧ (0 ≤ y.2 → sub1 l x.cnt = sub1 y.2 (MType.cnts (x.fArgs.drop y.1))) ∧ (y.2 < 0 → sub1 l x.cnt = -1)) (fun y => x.fArgs.length - y.1) (0, l - 1) rfl rfl ⟨Nat.zero_le _, by simp only; omega, by simp only; omega, fun h => ?_, fun h => ?_⟩ ?_
    · simp only [List.drop_zero] at h ⊢
      unfold sub1
      rw [hcn]
      split <;> split <;> omega
    · simp only at h
      exact sub1_no (by omega)
    rintro ⟨i, c⟩ ⟨p1, p2, p3, p4, p5⟩
    simp only at p1 p2 p3 p4 p5
    simp -implicitDefEqProofs (disch := omega) only [go_sem]
    with_reducible refine split2 (fun hb => ?_) (fun hb => ?_) <;> have h := hb <;> (try simp only [wf_preprocess] at h) <;> simp -implicitDefEqProofs (disch := omega) only [go_sem, hb] <;> (repeat (with_reducible refine And.intro ?_ ?_; focus first | omega | rfl | assumption | exact ⟨_, rfl, rfl⟩ | (simp; omega) | (simp; done)))
    · have hi : i < x.fArgs.length := by omega
      with_reducible refine split2 (fun hb => ?_) (fun hb => ?_) <;> have h := hb <;> (try simp only [wf_preprocess] at h) <;> simp -implicitDefEqProofs (disch := omega) only [go_sem, hb] <;> (repeat (with_reducible refine And.intro ?_ ?_; focus first | omega | rfl | assumption | exact ⟨_, rfl, rfl⟩ | (simp; omega) | (simp; done)))
      · have hsz' := arg_sz hi hsz
        have p6 := p4 h
        rw [cnts_drop hi] at p6
        (repeat (with_reducible refine And.intro ?_ ?_; focus first | omega | rfl | assumption | exact ⟨_, rfl, rfl⟩ | (simp; omega) | (simp; done)))
        refine call_w (ih x.fArgs[i] (by have := List.sizeOf_lt_of_mem (List.getElem_mem hi); omega) c (by omega) (by omega) (by omega)) ?_
        simp -implicitDefEqProofs (disch := omega) only [go_sem] <;> (repeat (with_reducible refine And.intro ?_ ?_; focus first | omega | rfl | assumption | exact ⟨_, rfl, rfl⟩ | (simp; omega) | (simp; done)))
        refine inv_at (i + 1, sub1 c _) (by simp only; omega) rfl rfl ⟨by simp only; omega, ?_, ?_, fun h => ?_, fun h => ?_⟩
        · simp only; unfold sub1; split <;> omega
        · simp only; unfold sub1; split <;> omega
        · simp only at h ⊢
          rw [p6]
          have := sub1_nn (l := c) (a := x.fArgs[i].cnt) (by omega)
          rw [this.1]
          unfold sub1
          split <;> split <;> omega
        · simp only at h ⊢
          rw [p6]
          have := sub1_neg h
          exact sub1_no (by omega)
      · have hc : c = -1 := by omega
        rw [p5 (by omega), hc]
    · have hi : i = x.fArgs.length := by omega
      by_cases hc : 0 ≤ c
      · rw [p4 hc, hi, List.drop_length, MType.cnts, sub1_yes (by omega)]
        exact int_eq (by simp)
      · rw [p5 (by omega)]
        exact int_eq (by omega)
theorem l4Left_ok (x : MType) (l : Int) (h0 : 0 ≤ l) (h1 : l ≤ 1073741824) (hsz : x.sz ≤ 4194304) : PCall Tryz.prog 210 [x.v, .c (.d (.i .i64 l))] (.c (.d (.i .i64 (sub1 l x.cnt)))) := l4Left_all _ x (Nat.lt_succ_self _) l h0 h1 hsz
theorem l1Max_ok (a b : Int) : PCall Tryz.prog 163 [.c (.d (.i .i64 a)), .c (.d (.i .i64 b))] (.c (.d (.i .i64 (max a b)))) := fun S => by
  refine acall_cw (rs := [.tmp 4]) Tryz.checked.mixed Tryz.func163 Tryz.ntmps163 rfl rfl rfl rfl rfl ?_
  simp -implicitDefEqProofs (disch := omega) only [go_sem]
  with_reducible refine split2 (fun hb => ?_) (fun hb => ?_) <;> have h := hb <;> (try simp only [wf_preprocess] at h) <;> simp -implicitDefEqProofs (disch := omega) only [go_sem, hb] <;> (repeat (with_reducible refine And.intro ?_ ?_; focus first | omega | rfl | assumption | exact ⟨_, rfl, rfl⟩ | (simp; omega) | (simp; done)))
  · exact int_eq (by omega)
  · exact int_eq (by omega)
theorem specDepth_all : ∀ n : Nat, ∀ x : MType, SizeOf.sizeOf x < n → x.sz ≤ 4194304 → PCall Tryz.prog 211 [x.v] (.c (.d (.i .i64 (depthT x))))
  | 0 => fun x h => by omega
  | n + 1 => by
    have ih := specDepth_all n
    intro x hn hsz S
    have lArgs := MType.lt_Args x
    have hts := ty_sz hsz
    have hd1 := depthT_le x
    have hd2 := cnt_le x
    refine acall_cw (rs := [.tmp 2]) Tryz.checked.mixed Tryz.func211 Tryz.ntmps211 rfl rfl rfl rfl rfl ?_
    simp -implicitDefEqProofs (disch := omega) only [go_sem]
    refine loop_at (ι := Nat × Nat) Tryz.checked.mixed rfl [1, 3, 4] (fun y => [.c (.ptr (0, 0) 0), .c (.d (.i .i64 y.2)), .c (.d (.i .i64 y.1))]) (fun y => [.box [.d (.i .i64 x.fKind), .d (.s x.fName), .d (.sl (x.fArgs.map MType.enc))]] :: S)
      (fun y => y.1 ≤ x.fArgs.length ∧ depthT x = max y.2 (depths (x.fArgs.drop y.1))) (fun y => x.fArgs.length - y.1) (0, 0) rfl rfl ⟨Nat.zero_le _, by simp [depthT_eq]⟩ ?_
    rintro ⟨i, c⟩ ⟨p1, p2⟩
    simp only at p1 p2
    simp -implicitDefEqProofs (disch := omega) only [go_sem]
    with_reducible refine split2 (fun hb => ?_) (fun hb => ?_) <;> have h := hb <;> (try simp only [wf_preprocess] at h) <;> simp -implicitDefEqProofs (disch := omega) only [go_sem, hb] <;> (repeat (with_reducible refine And.intro ?_ ?_; focus first | omega | rfl | assumption | exact ⟨_, rfl, rfl⟩ | (simp; omega) | (simp; done)))
    · have hi : i < x.fArgs.length := by omega
      have hsz' := arg_sz hi hsz
      rw [depths_drop hi] at p2
      have hd3 := depthT_le x.fArgs[i]
      have hd4 := cnt_le x.fArgs[i]
      (repeat (with_reducible refine And.intro ?_ ?_; focus first | omega | rfl | assumption | exact ⟨_, rfl, rfl⟩ | (simp; omega) | (simp; done)))
      refine call_w (ih x.fArgs[i] (by have := List.sizeOf_lt_of_mem (List.getElem_mem hi); omega) (by omega)) ?_
      simp -implicitDefEqProofs (disch := omega) only [go_sem] <;> (repeat (with_reducible refine And.intro ?_ ?_; focus first | omega | rfl | assumption | exact ⟨_, rfl, rfl⟩ | (simp; omega) | (simp; done)))
      refine call_w (l1Max_ok _ _) ?_
      simp -implicitDefEqProofs (disch := omega) only [go_sem] <;> (repeat (with_reducible refine And.intro ?_ ?_; focus first | omega | rfl | assumption | exact ⟨_, rfl, rfl⟩ | (simp; omega) | (simp; done)))
      rw [show max (c : Int) (1 + (depthT x.fArgs[i] : Int)) = ((max c (1 + depthT x.fArgs[i]) : Nat) : Int) by omega]
      exact inv_at (i + 1, max c (1 + depthT x.fArgs[i])) (by simp only; omega) rfl rfl ⟨by simp only; omega, by simp only; omega⟩
    · have hi : i = x.fArgs.length := by omega
      rw [hi, List.drop_length, depths] at p2
      exact int_eq (by omega)
theorem specDepth_ok (x : MType) (hsz : x.sz ≤ 4194304) : PCall Tryz.prog 211 [x.v] (.c (.d (.i .i64 (depthT x)))) := specDepth_all _ x (Nat.lt_succ_self _) hsz
theorem implDepth_all : ∀ n : Nat, ∀ x : MType, SizeOf.sizeOf x < n → x.sz ≤ 4194304 → PCall Tryz.prog 215 [x.v] (.c (.d (.i .i64 (depthT x))))
  | 0 => fun x h => by omega
  | n + 1 => by
    have ih := implDepth_all n
    intro x hn hsz S
    have lArgs := MType.lt_Args x
    have hts := ty_sz hsz
    have hd1 := depthT_le x
    have hd2 := cnt_le x
    refine acall_cw (rs := [.tmp 2]) Tryz.checked.mixed Tryz.func215 Tryz.ntmps215 rfl rfl rfl rfl rfl ?_
    simp -implicitDefEqProofs (disch := omega) only [go_sem]
    refine loop_at (ι := Nat × Nat) Tryz.checked.mixed rfl [3, 7, 8, 9] (fun y => [.c (.d (.i .i64 y.2)), .c (.d (.sl (x.fArgs.map MType.enc))), .c (.d (.i .i64 x.fArgs.length)), .c (.d (.i .i64 y.1))]) (fun y => [.box [.d (.i .i64 x.fKind), .d (.s x.fName), .d (.sl (x.fArgs.map MType.enc))]] :: S)
      (fun y => y.1 ≤ x.fArgs.length ∧ depthT x = max y.2 (depths (x.fArgs.drop y.1))) (fun y => x.fArgs.length - y.1) (0, 0) rfl rfl ⟨Nat.zero_le _, by simp [depthT_eq]⟩ ?_
    rintro ⟨i, c⟩ ⟨p1, p2⟩
    simp only at p1 p2
    simp -implicitDefEqProofs (disch := omega) only [go_sem]
    with_reducible refine split2 (fun hb => ?_) (fun hb => ?_) <;> have h := hb <;> (try simp only [wf_preprocess] at h) <;> simp -implicitDefEqProofs (disch := omega) only [go_sem, hb] <;> (repeat (with_reducible refine And.intro ?_ ?_; focus first | omega | rfl | assumption | exact ⟨_, rfl, rfl⟩ | (simp; omega) | (simp; done)))
    · have hi : i < x.fArgs.length := by omega
      have hsz' := arg_sz hi hsz
      rw [depths_drop hi] at p2
      have hd3 := depthT_le x.fArgs[i]
      have hd4 := cnt_le x.fArgs[i]
      (repeat (with_reducible refine And.intro ?_ ?_; focus first | omega | rfl | assumption | exact ⟨_, rfl, rfl⟩ | (simp; omega) | (simp; done)))
      refine call_w (ih x.fArgs[i] (by have := List.sizeOf_lt_of_mem (List.getElem_mem hi); omega) (by omega)) ?_
      simp -implicitDefEqProofs (disch := omega) only [go_sem] <;> (repeat (with_reducible refine And.intro ?_ ?_; focus first | omega | rfl | assumption | exact ⟨_, rfl, rfl⟩ | (simp; omega) | (simp; done)))
      rw [show max (c : Int) ((depthT x.fArgs[i] : Int) + 1) = ((max c (depthT x.fArgs[i] + 1) : Nat) : Int) by omega]
      exact inv_drop 1 (by decide) (i + 1, max c (depthT x.fArgs[i] + 1)) (by simp only; omega) rfl rfl rfl rfl ⟨by simp only; omega, by simp only; omega⟩
    · have hi : i = x.fArgs.length := by omega
      rw [hi, List.drop_length, depths] at p2
      exact int_eq (by omega)
theorem implDepth_ok (x : MType) (hsz : x.sz ≤ 4194304) : PCall Tryz.prog 215 [x.v] (.c (.d (.i .i64 (depthT x)))) := implDepth_all _ x (Nat.lt_succ_self _) hsz
theorem typeSize_all : ∀ n : Nat, ∀ x : MType, SizeOf.sizeOf x < n → x.sz ≤ 4194304 → PCall Tryz.prog 216 [x.v] (.c (.d (.i .i64 x.cnt)))
  | 0 => fun x h => by omega
  | n + 1 => by
    have ih := typeSize_all n
    intro x hn hsz S
    have lArgs := MType.lt_Args x
    have hts := ty_sz hsz
    have hd2 := cnt_le x
    refine acall_cw (rs := [.tmp 2]) Tryz.checked.mixed Tryz.func216 Tryz.ntmps216 rfl rfl rfl rfl rfl ?_
    simp -implicitDefEqProofs (disch := omega) only [go_sem]
    refine loop_at (ι := Nat × Nat) Tryz.checked.mixed rfl [3, 7, 8, 9] (fun y => [.c (.d (.i .i64 y.2)), .c (.d (.sl (x.fArgs.map MType.enc))), .c (.d (.i .i64 x.fArgs.length)), .c (.d (.i .i64 y.1))]) (fun y => [.box [.d (.i .i64 x.fKind), .d (.s x.fName), .d (.sl (x.fArgs.map MType.enc))]] :: S)
      (fun y => y.1 ≤ x.fArgs.length ∧ x.cnt = y.2 + MType.cnts (x.fArgs.drop y.1)) (fun y => x.fArgs.length - y.1) (0, 1) rfl rfl ⟨Nat.zero_le _, by simp [MType.cnt_eq]⟩ ?_
    rintro ⟨i, c⟩ ⟨p1, p2⟩
    simp only at p1 p2
    simp -implicitDefEqProofs (disch := omega) only [go_sem]
    with_reducible refine split2 (fun hb => ?_) (fun hb => ?_) <;> have h := hb <;> (try simp only [wf_preprocess] at h) <;> simp -implicitDefEqProofs (disch := omega) only [go_sem, hb] <;> (repeat (with_reducible refine And.intro ?_ ?_; focus first | omega | rfl | assumption | exact ⟨_, rfl, rfl⟩ | (simp; omega) | (simp; done)))
    · have hi : i < x.fArgs.length := by omega
      have hsz' := arg_sz hi hsz
      rw [cnts_drop hi] at p2
      (repeat (with_reducible refine And.intro ?_ ?_; focus first | omega | rfl | assumption | exact ⟨_, rfl, rfl⟩ | (simp; omega) | (simp; done)))
      refine call_w (ih x.fArgs[i] (by have := List.sizeOf_lt_of_mem (List.getElem_mem hi); omega) (by omega)) ?_
      simp -implicitDefEqProofs (disch := omega) only [go_sem] <;> (repeat (with_reducible refine And.intro ?_ ?_; focus first | omega | rfl | assumption | exact ⟨_, rfl, rfl⟩ | (simp; omega) | (simp; done)))
      rw [show (c : Int) + (x.fArgs[i].cnt : Int) = ((c + x.fArgs[i].cnt : Nat) : Int) by omega]
      exact inv_drop 1 (by decide) (i + 1, c + x.fArgs[i].cnt) (by simp only; omega) rfl rfl rfl rfl ⟨by simp only; omega, by simp only; omega⟩
    · have hi : i = x.fArgs.length := by omega
      rw [hi, List.drop_length, MType.cnts] at p2
      exact int_eq (by omega)
theorem typeSize_ok (x : MType) (hsz : x.sz ≤ 4194304) : PCall Tryz.prog 216 [x.v] (.c (.d (.i .i64 x.cnt))) := typeSize_all _ x (Nat.lt_succ_self _) hsz
theorem isFormed_all : ∀ n : Nat, (∀ x : MType, SizeOf.sizeOf x < n → x.sz ≤ 4194304 → PCall Tryz.prog 214 [x.v] (.c (.d (.b (formed x))))) ∧
    (∀ xs : List MType, SizeOf.sizeOf xs < n → xs.length ≤ 4194304 → (∀ t ∈ xs, t.sz ≤ 4194304) → PCall Tryz.prog 152 [.c (.d (.sl (xs.map MType.enc))), .c (.fn 237 [])] (.c (.d (.b (!formeds xs)))))
  | 0 => ⟨fun x h => by omega, fun x h => by omega⟩
  | n + 1 => by
    obtain ⟨ih, ihS⟩ := isFormed_all n
    refine ⟨fun x hn hsz S => ?_, fun xs hn hlen hsz S => ?_⟩
    · have lArgs := MType.lt_Args x
      have hts := ty_sz hsz
      have fin : ∀ b, fineT x.fKind x.fName x.fArgs.length = b → formed x = (b && formeds x.fArgs) := fun b hb => by rw [← hb]; exact formed_eq x
      have hall : ∀ t ∈ x.fArgs, t.sz ≤ 4194304 := fun t ht => by
        obtain ⟨i, hi, e⟩ := List.getElem_of_mem ht
        rw [← e]; exact (arg_sz hi hsz).1
      have tail := ihS x.fArgs (by omega) hts.1 hall
      have yes : fineT x.fKind x.fName x.fArgs.length = true → formed x = !(!formeds x.fArgs) := fun h => by rw [fin _ h]; simp
      have no : fineT x.fKind x.fName x.fArgs.length = false → formed x = false := fun h => by rw [fin _ h]; simp
      have shut : ¬ ((x.fKind = 1 ∨ x.fKind = 4) ∧ validName x.fName = true ∧ x.fArgs.length = 0 ∨ x.fKind = 3 ∧ validName x.fName = true ∧ x.fArgs.length = 1 ∨ x.fKind = 2 ∧ (validName x.fName = true ∧ x.fArgs.length ≤ 3 ∨ builtInB x.fName = true ∧ x.fArgs.length = 0)) → V.c (.d (.b false)) = V.c (.d (.b (formed x))) := fun h => bool_eq (no (dec_false h)).symm
      have open_ : ((x.fKind = 1 ∨ x.fKind = 4) ∧ validName x.fName = true ∧ x.fArgs.length = 0 ∨ x.fKind = 3 ∧ validName x.fName = true ∧ x.fArgs.length = 1 ∨ x.fKind = 2 ∧ (validName x.fName = true ∧ x.fArgs.length ≤ 3 ∨ builtInB x.fName = true ∧ x.fArgs.length = 0)) → V.c (.d (.b (!(!formeds x.fArgs)))) = V.c (.d (.b (formed x))) := fun h => bool_eq (yes (dec_true h)).symm
      clear yes no fin
      refine acall_cw (rs := [.tmp 2]) Tryz.checked.mixed Tryz.func214 Tryz.ntmps214 rfl rfl rfl rfl rfl ?_
      simp -implicitDefEqProofs (disch := omega) only [go_sem]
      repeat' (first
        | (with_reducible refine split2 (fun hb => ?_) (fun hb => ?_) <;> have h := hb <;> (try simp only [wf_preprocess] at h) <;> simp -implicitDefEqProofs (disch := omega) only [go_sem, hb] <;> (repeat (with_reducible refine And.intro ?_ ?_; focus first | omega | rfl | assumption | exact ⟨_, rfl, rfl⟩ | (simp; omega) | (simp; done))))
        | (refine call_w (implValidName_ok x.fName (by omega)) ?_; simp -implicitDefEqProofs (disch := omega) only [go_sem])
        | (refine call_w (isBuiltIn_ok x.fName) ?_; simp -implicitDefEqProofs (disch := omega) only [go_sem])
        | (refine call_w tail ?_; simp -implicitDefEqProofs (disch := omega) only [go_sem]))
      all_goals first
        | (refine shut (fun y => ?_); rcases y with ⟨_, _, _⟩ | ⟨_, _, _⟩ | ⟨_, ⟨_, _⟩ | ⟨_, _⟩⟩ <;> first | omega | (simp_all; done))
        | (refine open_ ?_; first
            | exact .inl ⟨by omega, by assumption, by omega⟩
            | exact .inr (.inl ⟨by omega, by assumption, by omega⟩)
            | exact .inr (.inr ⟨by omega, .inl ⟨by assumption, by omega⟩⟩)
            | exact .inr (.inr ⟨by omega, .inr ⟨by assumption, by omega⟩⟩))
    · have hcl : ∀ y ∈ xs, PCall Tryz.prog 237 [y.v] (.c (.d (.b (!formed y)))) := fun y hy S => by
        have hys := List.sizeOf_lt_of_mem hy
        refine acall_cw (rs := [.tmp 2]) Tryz.checked.mixed Tryz.func237 Tryz.ntmps237 rfl rfl rfl rfl rfl ?_
        simp -implicitDefEqProofs (disch := omega) only [go_sem]
        refine call_w (ih y (by omega) (hsz y hy)) ?_
        simp -implicitDefEqProofs (disch := omega) only [go_sem] <;> (repeat (with_reducible refine And.intro ?_ ?_; focus first | omega | rfl | assumption | exact ⟨_, rfl, rfl⟩ | (simp; omega) | (simp; done)))
      have hidx : PCall Tryz.prog 190 [.c (.d (.sl (xs.map MType.enc))), .c (.fn 237 [])] (.c (.d (.i .i64 (indexP (fun y => !formed y) xs)))) := fun S => by
        refine acall_cw (rs := [.tmp 4]) Tryz.checked.mixed Tryz.func190 Tryz.ntmps190 rfl rfl rfl rfl rfl ?_
        simp -implicitDefEqProofs (disch := omega) only [go_sem]
        refine loop_at (ι := Nat) Tryz.checked.mixed rfl [0, 1, 7, 8] (fun i => [.c (.d (.sl (xs.map MType.enc))), .c (.fn 237 []), .c (.d (.i .i64 xs.length)), .c (.d (.i .i64 i))]) (fun _ => [] :: S)
          (fun i => i ≤ xs.length ∧ ∀ j, ∀ hj : j < xs.length, j < i → formed xs[j] = true) (fun i => xs.length - i) 0 rfl rfl ⟨Nat.zero_le _, fun j _ h => by omega⟩ ?_
        rintro i ⟨p1, p2⟩
        simp -implicitDefEqProofs (disch := omega) only [go_sem]
        with_reducible refine split2 (fun hb => ?_) (fun hb => ?_) <;> have h := hb <;> (try simp only [wf_preprocess] at h) <;> simp -implicitDefEqProofs (disch := omega) only [go_sem, hb] <;> (repeat (with_reducible refine And.intro ?_ ?_; focus first | omega | rfl | assumption | exact ⟨_, rfl, rfl⟩ | (simp; omega) | (simp; done)))
        · have hi : i < xs.length := by omega
          (repeat (with_reducible refine And.intro ?_ ?_; focus first | omega | rfl | assumption | exact ⟨_, rfl, rfl⟩ | (simp; omega) | (simp; done)))
          refine call_w (hcl xs[i] (List.getElem_mem hi)) ?_
          simp -implicitDefEqProofs (disch := omega) only [go_sem] <;> (repeat (with_reducible refine And.intro ?_ ?_; focus first | omega | rfl | assumption | exact ⟨_, rfl, rfl⟩ | (simp; omega) | (simp; done)))
          with_reducible refine split2 (fun hb => ?_) (fun hb => ?_) <;> have h := hb <;> (try simp only [wf_preprocess] at h) <;> simp -implicitDefEqProofs (disch := omega) only [go_sem, hb] <;> (repeat (with_reducible refine And.intro ?_ ?_; focus first | omega | rfl | assumption | exact ⟨_, rfl, rfl⟩ | (simp; omega) | (simp; done)))
          · rw [indexP_here hi (fun j hj hji => by rw [p2 j hj hji]; rfl) (by rw [h]; rfl)]
          · refine inv_at (i + 1) (by omega) rfl rfl ⟨by omega, fun j hj hji => ?_⟩
            by_cases e : j = i
            · subst e; exact h
            · exact p2 j hj (by omega)
        · rw [indexP_no (fun j hj => by rw [p2 j hj (by omega)]; rfl)]
      refine acall_cw (rs := [.tmp 4]) Tryz.checked.mixed Tryz.func152 Tryz.ntmps152 rfl rfl rfl rfl rfl ?_
      simp -implicitDefEqProofs (disch := omega) only [go_sem]
      refine call_w (hidx) ?_
      simp -implicitDefEqProofs (disch := omega) only [go_sem] <;> (repeat (with_reducible refine And.intro ?_ ?_; focus first | omega | rfl | assumption | exact ⟨_, rfl, rfl⟩ | (simp; omega) | (simp; done)))
      rw [← formeds_any]
      exact bool_eq indexP_pos
theorem isFormed_ok (x : MType) (hsz : x.sz ≤ 4194304) : PCall Tryz.prog 214 [x.v] (.c (.d (.b (formed x)))) := (isFormed_all _).1 x (Nat.lt_succ_self _) hsz
theorem implValidType_ok (x : MType) (hsz : x.sz ≤ 4194304) : PCall Tryz.prog 191 [x.v] (.c (.d (.b (validType x)))) := fun S => by
  refine acall_cw (rs := [.tmp 2]) Tryz.checked.mixed Tryz.func191 Tryz.ntmps191 rfl rfl rfl rfl rfl ?_
  simp -implicitDefEqProofs (disch := omega) only [go_sem]
  refine call_w (isFormed_ok x hsz) ?_
  simp -implicitDefEqProofs (disch := omega) only [go_sem] <;> (repeat (with_reducible refine And.intro ?_ ?_; focus first | omega | rfl | assumption | exact ⟨_, rfl, rfl⟩ | (simp; omega) | (simp; done)))
  with_reducible refine split2 (fun hb => ?_) (fun hb => ?_) <;> have h := hb <;> (try simp only [wf_preprocess] at h) <;> simp -implicitDefEqProofs (disch := omega) only [go_sem, hb] <;> (repeat (with_reducible refine And.intro ?_ ?_; focus first | omega | rfl | assumption | exact ⟨_, rfl, rfl⟩ | (simp; omega) | (simp; done)))
  · have h1 := h
    refine call_w (implDepth_ok x hsz) ?_
    simp -implicitDefEqProofs (disch := omega) only [go_sem] <;> (repeat (with_reducible refine And.intro ?_ ?_; focus first | omega | rfl | assumption | exact ⟨_, rfl, rfl⟩ | (simp; omega) | (simp; done)))
    with_reducible refine split2 (fun hb => ?_) (fun hb => ?_) <;> have h := hb <;> (try simp only [wf_preprocess] at h) <;> simp -implicitDefEqProofs (disch := omega) only [go_sem, hb] <;> (repeat (with_reducible refine And.intro ?_ ?_; focus first | omega | rfl | assumption | exact ⟨_, rfl, rfl⟩ | (simp; omega) | (simp; done)))
    · refine call_w (typeSize_ok x hsz) ?_
      simp -implicitDefEqProofs (disch := omega) only [go_sem] <;> (repeat (with_reducible refine And.intro ?_ ?_; focus first | omega | rfl | assumption | exact ⟨_, rfl, rfl⟩ | (simp; omega) | (simp; done)))
      exact bool_eq (by rw [decide_dec]; exact dec_congr ⟨fun y => ⟨h1, by omega, by omega⟩, fun y => by have := y.2.2; omega⟩)
    · exact bool_eq (dec_false fun y => by have := y.2.1; omega).symm
  · exact bool_eq (dec_false fun y => by rw [y.1] at h; cases h).symm
set_option maxHeartbeats 1000000 in
theorem l4Form_all : ∀ n : Nat, ∀ x : MType, SizeOf.sizeOf x < n → x.sz ≤ 4194304 → PCall Tryz.prog 212 [x.v] (.c (.d (.b (formed x))))
  | 0 => fun x h => by omega
  | n + 1 => by
    have ih := l4Form_all n
    intro x hn hsz S
    have lArgs := MType.lt_Args x
    have hts := ty_sz hsz
    have shut : ¬ ((x.fKind = 1 ∨ x.fKind = 4) ∧ validName x.fName = true ∧ x.fArgs.length = 0 ∨ x.fKind = 3 ∧ validName x.fName = true ∧ x.fArgs.length = 1 ∨ x.fKind = 2 ∧ (validName x.fName = true ∧ x.fArgs.length ≤ 3 ∨ builtInB x.fName = true ∧ x.fArgs.length = 0)) → V.c (.d (.b false)) = V.c (.d (.b (formed x))) := fun h => bool_eq (by rw [formed_eq, show fineT x.fKind x.fName x.fArgs.length = false from dec_false h]; rfl)
    have fine0 : ∀ b : Bool, (b = true ↔ ((x.fKind = 1 ∨ x.fKind = 4) ∧ validName x.fName = true ∧ x.fArgs.length = 0 ∨ x.fKind = 3 ∧ validName x.fName = true ∧ x.fArgs.length = 1 ∨ x.fKind = 2 ∧ (validName x.fName = true ∧ x.fArgs.length ≤ 3 ∨ builtInB x.fName = true ∧ x.fArgs.length = 0))) → b = fineT x.fKind x.fName x.fArgs.length := fun b h => by
      rw [Bool.eq_iff_iff, h]
      unfold fineT
      rw [dec_eq_true]
    refine acall_cw (rs := [.tmp 2]) Tryz.checked.mixed Tryz.func212 Tryz.ntmps212 rfl rfl rfl rfl rfl ?_
    simp -implicitDefEqProofs (disch := omega) only [go_sem]
    refine call_w (specValidName_ok x.fName (by omega)) ?_
    simp -implicitDefEqProofs (disch := omega) only [go_sem] <;> (repeat (with_reducible refine And.intro ?_ ?_; focus first | omega | rfl | assumption | exact ⟨_, rfl, rfl⟩ | (simp; omega) | (simp; done)))
    repeat' (first
      | (with_reducible refine split2 (fun hb => ?_) (fun hb => ?_) <;> have h := hb <;> (try simp only [wf_preprocess] at h) <;> simp -implicitDefEqProofs (disch := omega) only [go_sem, hb] <;> (repeat (with_reducible refine And.intro ?_ ?_; focus first | omega | rfl | assumption | exact ⟨_, rfl, rfl⟩ | (simp; omega) | (simp; done))))
      | (refine call_w (l4Base_ok x.fName) ?_; simp -implicitDefEqProofs (disch := omega) only [go_sem]))
    all_goals first
      | (refine shut (fun y => ?_); rcases y with ⟨_, _, _⟩ | ⟨_, _, _⟩ | ⟨_, ⟨_, _⟩ | ⟨_, _⟩⟩ <;> first | omega | (simp_all; done))
      | skip
    all_goals
      refine loop_at (ι := Nat × Bool) Tryz.checked.mixed rfl [1, 3, 4] (fun y => [.c (.ptr (0, 0) 0), .c (.d (.b y.2)), .c (.d (.i .i64 y.1))]) (fun y => [.box [.d (.i .i64 x.fKind), .d (.s x.fName), .d (.sl (x.fArgs.map MType.enc))]] :: S)
        (fun y => y.1 ≤ x.fArgs.length ∧ (y.2 && formeds (x.fArgs.drop y.1)) = formed x) (fun y => x.fArgs.length - y.1) (0, fineT x.fKind x.fName x.fArgs.length) ?_ rfl ⟨Nat.zero_le _, by rw [formed_eq]; rfl⟩ ?_
      · simp only [List.map_cons, List.map_nil]
        simp -implicitDefEqProofs (disch := omega) only [go_sem, List.cons.injEq, V.c.injEq, C.d.injEq, D.b.injEq, Int.natCast_zero]
        refine fine0 _ ⟨fun y => ?_, fun y => ?_⟩
        · (try simp only [decide_eq_true_eq, Bool.false_eq_true] at y) <;> first
            | exact .inl ⟨by omega, by assumption, by omega⟩
            | exact .inr (.inl ⟨by omega, by assumption, by omega⟩)
            | exact .inr (.inr ⟨by omega, .inl ⟨by assumption, by omega⟩⟩)
            | exact .inr (.inr ⟨by omega, .inr ⟨by assumption, by omega⟩⟩)
        · rcases y with ⟨_, _, _⟩ | ⟨_, _, _⟩ | ⟨_, ⟨_, _⟩ | ⟨_, _⟩⟩ <;> first | omega | (simp only [decide_eq_true_eq]; omega) | (simp_all; done)
      rintro ⟨i, c⟩ ⟨p1, p2⟩
      simp only at p1 p2
      simp -implicitDefEqProofs (disch := omega) only [go_sem]
      with_reducible refine split2 (fun hb => ?_) (fun hb => ?_) <;> have h := hb <;> (try simp only [wf_preprocess] at h) <;> simp -implicitDefEqProofs (disch := omega) only [go_sem, hb] <;> (repeat (with_reducible refine And.intro ?_ ?_; focus first | omega | rfl | assumption | exact ⟨_, rfl, rfl⟩ | (simp; omega) | (simp; done)))
      · have hi : i < x.fArgs.length := by omega
        have hsz' := arg_sz hi hsz
        rw [formeds_drop hi] at p2
        with_reducible refine split2 (fun hb => ?_) (fun hb => ?_) <;> have h := hb <;> (try simp only [wf_preprocess] at h) <;> simp -implicitDefEqProofs (disch := omega) only [go_sem, hb] <;> (repeat (with_reducible refine And.intro ?_ ?_; focus first | omega | rfl | assumption | exact ⟨_, rfl, rfl⟩ | (simp; omega) | (simp; done)))
        · refine call_w (ih x.fArgs[i] (by have := List.sizeOf_lt_of_mem (List.getElem_mem hi); omega) (by omega)) ?_
          simp -implicitDefEqProofs (disch := omega) only [go_sem]
          exact inv_at (i + 1, formed x.fArgs[i]) (by simp only; omega) rfl rfl ⟨by simp only; omega, by rw [← p2, h]; rfl⟩
        · exact inv_at (i + 1, false) (by simp only; omega) rfl rfl ⟨by simp only; omega, by rw [← p2, h]; rfl⟩
      · have hi : i = x.fArgs.length := by omega
        rw [hi, List.drop_length, formeds, Bool.and_true] at p2
        rw [p2]
theorem l4Form_ok (x : MType) (hsz : x.sz ≤ 4194304) : PCall Tryz.prog 212 [x.v] (.c (.d (.b (formed x)))) := l4Form_all _ x (Nat.lt_succ_self _) hsz
theorem specValidType_ok (x : MType) (hsz : x.sz ≤ 4194304) : PCall Tryz.prog 186 [x.v] (.c (.d (.b (validType x)))) := fun S => by
  refine acall_cw (rs := [.tmp 2]) Tryz.checked.mixed Tryz.func186 Tryz.ntmps186 rfl rfl rfl rfl rfl ?_
  simp -implicitDefEqProofs (disch := omega) only [go_sem]
  refine call_w (l4Left_ok x 60 (by omega) (by omega) hsz) ?_
  simp -implicitDefEqProofs (disch := omega) only [go_sem] <;> (repeat (with_reducible refine And.intro ?_ ?_; focus first | omega | rfl | assumption | exact ⟨_, rfl, rfl⟩ | (simp; omega) | (simp; done)))
  with_reducible refine split2 (fun hb => ?_) (fun hb => ?_) <;> have h := hb <;> (try simp only [wf_preprocess] at h) <;> simp -implicitDefEqProofs (disch := omega) only [go_sem, hb] <;> (repeat (with_reducible refine And.intro ?_ ?_; focus first | omega | rfl | assumption | exact ⟨_, rfl, rfl⟩ | (simp; omega) | (simp; done)))
  · have h1 := (sub1_nn (l := 60) (a := x.cnt) (by omega)).2
    refine call_w (specDepth_ok x hsz) ?_
    simp -implicitDefEqProofs (disch := omega) only [go_sem] <;> (repeat (with_reducible refine And.intro ?_ ?_; focus first | omega | rfl | assumption | exact ⟨_, rfl, rfl⟩ | (simp; omega) | (simp; done)))
    with_reducible refine split2 (fun hb => ?_) (fun hb => ?_) <;> have h := hb <;> (try simp only [wf_preprocess] at h) <;> simp -implicitDefEqProofs (disch := omega) only [go_sem, hb] <;> (repeat (with_reducible refine And.intro ?_ ?_; focus first | omega | rfl | assumption | exact ⟨_, rfl, rfl⟩ | (simp; omega) | (simp; done)))
    · refine call_w (l4Form_ok x hsz) ?_
      simp -implicitDefEqProofs (disch := omega) only [go_sem] <;> (repeat (with_reducible refine And.intro ?_ ?_; focus first | omega | rfl | assumption | exact ⟨_, rfl, rfl⟩ | (simp; omega) | (simp; done)))
      refine bool_eq ?_
      cases hf : formed x with
      | false => exact (dec_false fun y => by rw [hf] at y; cases y.1).symm
      | true => exact (dec_true ⟨hf, by omega, by omega⟩).symm
    · exact bool_eq (dec_false fun y => by have := y.2.1; omega).symm
  · have h1 := sub1_neg (l := 60) (a := x.cnt) (by omega)
    exact bool_eq (dec_false fun y => by have := y.2.2; omega).symm
end Go.Proofs.YtokcpelkieeddaaGreat

namespace Go.Ab
mutual
def MExpr.cnt : MExpr → Nat
  | .mk _ _ _ _ _ a b => 1 + (MExpr.cnts a + MArm.cnts b)
def MExpr.cnts : List MExpr → Nat
  | [] => 0
  | x :: xs => x.cnt + MExpr.cnts xs
def MArm.cnt : MArm → Nat
  | .mk _ _ b => b.cnt
def MArm.cnts : List MArm → Nat
  | [] => 0
  | x :: xs => x.cnt + MArm.cnts xs
end
theorem MExpr.cnt_eq (x : MExpr) : x.cnt = 1 + (MExpr.cnts x.fArgs + MArm.cnts x.fArms) := by cases x; rw [MExpr.cnt]; rfl
theorem MArm.cnt_eq (x : MArm) : x.cnt = x.fBody.cnt := by cases x; rw [MArm.cnt]; rfl
theorem MExpr.cnts_drop {xs : List MExpr} {i : Nat} (hi : i < xs.length) : MExpr.cnts (xs.drop i) = xs[i].cnt + MExpr.cnts (xs.drop (i + 1)) := by rw [List.drop_eq_getElem_cons hi, MExpr.cnts]
theorem MArm.cnts_drop {xs : List MArm} {i : Nat} (hi : i < xs.length) : MArm.cnts (xs.drop i) = xs[i].fBody.cnt + MArm.cnts (xs.drop (i + 1)) := by rw [List.drop_eq_getElem_cons hi, MArm.cnts, MArm.cnt_eq]
theorem MArm.sz_body (x : MArm) : x.fBody.sz ≤ x.sz := by
  simp only [MArm.sz, MArm.enc_eq, MExpr.sz, szRow, szRow_append, D.sz, List.length_map]
  omega
mutual
theorem MExpr.cnt_le : ∀ x : MExpr, x.cnt ≤ 1 + x.sz
  | .mk k t n m ty a b => by
    have h1 := MExpr.cnts_le a
    have h2 := MArm.cnts_le b
    rw [MExpr.cnt]
    simp only [MExpr.sz, MExpr.enc_eq, szRow, szRow_append, D.sz, List.length_map, MExpr.fArgs, MExpr.fArms]
    omega
theorem MExpr.cnts_le : ∀ xs : List MExpr, MExpr.cnts xs ≤ xs.length + szRows (xs.map MExpr.enc)
  | [] => by simp [MExpr.cnts]
  | x :: xs => by
    have h1 := MExpr.cnt_le x
    have h2 := MExpr.cnts_le xs
    rw [MExpr.cnts, List.length_cons, List.map_cons, szRows, MExpr.sz_def]
    omega
theorem MArm.cnt_le : ∀ x : MArm, x.cnt ≤ 1 + x.sz
  | .mk c v b => by
    have h1 := MExpr.cnt_le b
    have h2 := MArm.sz_body (.mk c v b)
    rw [MArm.cnt]
    simp only [MArm.fBody] at h2
    omega
theorem MArm.cnts_le : ∀ xs : List MArm, MArm.cnts xs ≤ xs.length + szRows (xs.map MArm.enc)
  | [] => by simp [MArm.cnts]
  | x :: xs => by
    have h1 := MArm.cnt_le x
    have h2 := MArm.cnts_le xs
    rw [MArm.cnts, List.length_cons, List.map_cons, szRows, MArm.sz_def]
    omega
end
end Go.Ab
namespace Go.Proofs.YtokcpelkieeddaaGreat
open Go Go.Ab
end Go.Proofs.YtokcpelkieeddaaGreat

namespace Go.Ab
mutual
def nodesT : MType → List MType
  | .mk k n a => .mk k n a :: nodesL a
def nodesL : List MType → List MType
  | [] => []
  | t :: ts => nodesT t ++ nodesL ts
end
theorem nodesT_eq (t : MType) : nodesT t = t :: nodesL t.fArgs := by cases t; rw [nodesT]; rfl
theorem nodesL_drop {ts : List MType} {i : Nat} (hi : i < ts.length) : nodesL (ts.drop i) = nodesT ts[i] ++ nodesL (ts.drop (i + 1)) := by rw [List.drop_eq_getElem_cons hi, nodesL]
mutual
theorem nodes_len : ∀ t : MType, (nodesT t).length = t.cnt
  | .mk k n a => by rw [nodesT, List.length_cons, MType.cnt, nodesL_len a]; omega
theorem nodesL_len : ∀ ts : List MType, (nodesL ts).length = MType.cnts ts
  | [] => rfl
  | t :: ts => by rw [nodesL, List.length_append, MType.cnts, nodes_len t, nodesL_len ts]
end
/-- One more variable. -/
def addV (out : List (List UInt8)) (u : MType) : List (List UInt8) := if u.fKind = 1 ∧ u.fName ∉ out then out ++ [u.fName] else out
def tvars (out : List (List UInt8)) (t : MType) : List (List UInt8) := (nodesT t).foldl addV out
def tvarsL (out : List (List UInt8)) (ts : List MType) : List (List UInt8) := (nodesL ts).foldl addV out
theorem addV_len (out : List (List UInt8)) (u : MType) : (addV out u).length ≤ out.length + 1 := by
  unfold addV
  split <;> simp
theorem foldV_len : ∀ (us : List MType) (out : List (List UInt8)), (us.foldl addV out).length ≤ out.length + us.length
  | [], out => by simp
  | u :: us, out => by
    have h1 := addV_len out u
    have h2 := foldV_len us (addV out u)
    rw [List.foldl_cons, List.length_cons]
    omega
theorem tvars_len (t : MType) (out : List (List UInt8)) : (tvars out t).length ≤ out.length + t.cnt := by
  have := foldV_len (nodesT t) out
  rw [nodes_len] at this
  exact this
theorem tvars_eq (out : List (List UInt8)) (t : MType) : tvars out t = tvarsL (addV out t) t.fArgs := by
  unfold tvars tvarsL
  rw [nodesT_eq, List.foldl_cons]
theorem tvarsL_drop {ts : List MType} {i : Nat} (hi : i < ts.length) (out : List (List UInt8)) : tvarsL out (ts.drop i) = tvarsL (tvars out ts[i]) (ts.drop (i + 1)) := by
  unfold tvarsL tvars
  rw [nodesL_drop hi, List.foldl_append]
/-! how often a variable stands in a type -/
end Go.Ab

namespace Go.Proofs.YtokcpelkieeddaaGreat
open Go Go.Ab
theorem arg_szT {x : MType} {i : Nat} (hi : i < x.fArgs.length) (h : x.sz ≤ 4194304) : x.fArgs[i].sz ≤ 4194304 ∧ x.fArgs.length ≤ 4194304 ∧ x.fName.length ≤ 4194304 := by
  have hx : x.fArgs[i].sz ≤ szRows (x.fArgs.map MType.enc) := szRows_mem (List.mem_map_of_mem (List.getElem_mem hi))
  simp only [MType.sz, MType.enc_eq, szRow, D.sz, List.length_map] at h
  omega
theorem ty_szT {x : MType} (h : x.sz ≤ 4194304) : x.fArgs.length ≤ 4194304 ∧ x.fName.length ≤ 4194304 := by
  simp only [MType.sz, MType.enc_eq, szRow, D.sz, List.length_map] at h
  omega
theorem eachType_all : ∀ n : Nat, ∀ t : MType, SizeOf.sizeOf t < n → t.sz ≤ 4194304 → ∀ (g : Nat) (caps : List (Key × Nat)) (α : Type) (st : α → Store) (I : Nat → α → Prop) (f : α → MType → α) (hf : FStep Tryz.prog g caps st I f MType.v (fun u => u.sz ≤ 4194304)) (m : Nat) (a : α), I (m + t.cnt) a →
    I m ((nodesT t).foldl f a) ∧ ACall Tryz.prog 238 [t.v, .c (.fn g caps)] (st a) (fun r S' => r = .tup [] ∧ S' = st ((nodesT t).foldl f a))
  | 0 => fun t h => by omega
  | n + 1 => by
    have ih := eachType_all n
    intro t hn hsz g caps α st I f hf m a ha
    have lArgs := MType.lt_Args t
    have hts := ty_szT hsz
    rw [MType.cnt_eq, show m + (1 + MType.cnts t.fArgs) = (m + MType.cnts t.fArgs) + 1 by omega] at ha
    have h1 := hf _ a t ha hsz
    -- the arguments
    have hI : ∀ (ts : List MType), SizeOf.sizeOf ts < n → (∀ x ∈ ts, x.sz ≤ 4194304) → ∀ a, I (m + MType.cnts ts) a → I m ((nodesL ts).foldl f a) := by
      intro ts
      induction ts with
      | nil => intro _ _ a ha; exact ha
      | cons x xs ihx =>
        intro hs hz a ha
        simp only [List.cons.sizeOf_spec] at hs
        rw [nodesL, List.foldl_append]
        rw [MType.cnts, show m + (x.cnt + MType.cnts xs) = (m + MType.cnts xs) + x.cnt by omega] at ha
        exact ihx (by omega) (fun y hy => hz y (by simp [hy])) _ (ih x (by omega) (hz x (by simp)) g caps α st I f hf _ a ha).1
    have hall : ∀ x ∈ t.fArgs, x.sz ≤ 4194304 := fun x hx => by
      obtain ⟨i, hi, e⟩ := List.getElem_of_mem hx
      rw [← e]; exact (arg_szT hi hsz).1
    refine ⟨by rw [nodesT_eq, List.foldl_cons]; exact hI t.fArgs (by omega) hall _ h1.1, ?_⟩
    refine acall_cw (rs := []) Tryz.checked.mixed Tryz.func238 Tryz.ntmps238 rfl rfl rfl rfl rfl ?_
    simp -implicitDefEqProofs (disch := omega) only [go_sem]
    refine call_d rfl (h1.2 [_]) ?_
    simp -implicitDefEqProofs (disch := omega) only [go_sem]
    refine loop_at (ι := Nat × α) Tryz.checked.mixed rfl [1, 10, 11, 12] (fun y => [.c (.fn g (upCaps 1 caps)), .c (.d (.sl (t.fArgs.map MType.enc))), .c (.d (.i .i64 t.fArgs.length)), .c (.d (.i .i64 y.1))]) (fun y => [.box [.d (.i .i64 t.fKind), .d (.s t.fName), .d (.sl (t.fArgs.map MType.enc))]] :: st y.2)
      (fun y => y.1 ≤ t.fArgs.length ∧ I (m + MType.cnts (t.fArgs.drop y.1)) y.2 ∧ (nodesL (t.fArgs.drop y.1)).foldl f y.2 = (nodesT t).foldl f a) (fun y => t.fArgs.length - y.1) (0, f a t) rfl rfl ⟨Nat.zero_le _, h1.1, by rw [nodesT_eq, List.foldl_cons]; rfl⟩ ?_
    rintro ⟨i, b⟩ ⟨p1, p2, p3⟩
    simp only at p1 p2 p3
    simp -implicitDefEqProofs (disch := omega) only [go_sem]
    with_reducible refine split2 (fun hb => ?_) (fun hb => ?_) <;> have h := hb <;> (try simp only [wf_preprocess] at h) <;> simp -implicitDefEqProofs (disch := omega) only [go_sem, hb] <;> (repeat (with_reducible refine And.intro ?_ ?_; focus first | omega | rfl | assumption | exact ⟨_, rfl, rfl⟩ | (simp; omega) | (simp; done)))
    · have hi : i < t.fArgs.length := by omega
      have hs := List.sizeOf_lt_of_mem (List.getElem_mem hi)
      rw [nodesL_drop hi, List.foldl_append] at p3
      rw [List.drop_eq_getElem_cons hi, MType.cnts, show m + (t.fArgs[i].cnt + MType.cnts (t.fArgs.drop (i + 1))) = (m + MType.cnts (t.fArgs.drop (i + 1))) + t.fArgs[i].cnt by omega] at p2
      have h2 := (ih t.fArgs[i] (by omega) (arg_szT hi hsz).1 g caps α st I f hf _ b p2).1
      (repeat (with_reducible refine And.intro ?_ ?_; focus first | omega | rfl | assumption | exact ⟨_, rfl, rfl⟩ | (simp; omega) | (simp; done)))
      refine call_d rfl (((ih t.fArgs[i] (by omega) (arg_szT hi hsz).1 g (upCaps 1 caps) α (fun a => [.box [.d (.i .i64 t.fKind), .d (.s t.fName), .d (.sl (t.fArgs.map MType.enc))], .box [.d (.i .i64 t.fArgs[i].fKind), .d (.s t.fArgs[i].fName), .d (.sl (t.fArgs[i].fArgs.map MType.enc))]] :: st a) I f (hf.push _) _ b p2)).2) ?_
      simp -implicitDefEqProofs (disch := omega) only [go_sem]
      exact inv_drop 1 (by decide) (i + 1, (nodesT t.fArgs[i]).foldl f b) (by simp only; omega) rfl rfl (by simp only [zipTm, tmRefs, List.all_cons, List.all_nil, V.refs, C.refs, refs_upCaps1, Bool.and_true]) rfl ⟨by simp only; omega, h2, p3⟩
    · have hi : i = t.fArgs.length := by omega
      rw [hi, List.drop_length, nodesL, List.foldl_nil] at p3
      rw [p3]
theorem eachType_ok {t : MType} (hsz : t.sz ≤ 4194304) {g : Nat} {caps : List (Key × Nat)} {α : Type} {st : α → Store} {I : Nat → α → Prop} {f : α → MType → α} (hf : FStep Tryz.prog g caps st I f MType.v (fun u => u.sz ≤ 4194304)) (m : Nat) (a : α) (ha : I (m + t.cnt) a) :
    I m ((nodesT t).foldl f a) ∧ ACall Tryz.prog 238 [t.v, .c (.fn g caps)] (st a) (fun r S' => r = .tup [] ∧ S' = st ((nodesT t).foldl f a)) := eachType_all _ t (Nat.lt_succ_self _) hsz g caps α st I f hf m a ha
theorem variablesOf1_step (rest : List Ab.Obj) (S : Store) : FStep Tryz.prog 239 [((0, 0), 0)] (fun out : List (List UInt8) => (.box [.tsl (0, 1) (out.map encS)] :: .tok 1 (out.map encS) :: rest) :: S) (fun n out => out.length + n ≤ 1073741824) addV MType.v (fun u => u.sz ≤ 4194304) := by
  intro n out u hI hu
  refine ⟨by have := addV_len out u; omega, fun F => ?_⟩
  have hts := ty_szT hu
  refine acall_cw (rs := []) Tryz.checked.mixed Tryz.func239 Tryz.ntmps239 rfl rfl rfl rfl rfl ?_
  simp -implicitDefEqProofs (disch := omega) only [go_sem]
  with_reducible refine split2 (fun hb => ?_) (fun hb => ?_) <;> have h := hb <;> (try simp only [wf_preprocess] at h) <;> simp -implicitDefEqProofs (disch := omega) only [go_sem, hb] <;> (repeat (with_reducible refine And.intro ?_ ?_; focus first | omega | rfl | assumption | exact ⟨_, rfl, rfl⟩ | (simp; omega) | (simp; done)))
  · have h1 := h
    refine call_w (containsS_ok out u.fName (by omega)) ?_
    simp -implicitDefEqProofs (disch := omega) only [go_sem] <;> (repeat (with_reducible refine And.intro ?_ ?_; focus first | omega | rfl | assumption | exact ⟨_, rfl, rfl⟩ | (simp; omega) | (simp; done)))
    with_reducible refine split2 (fun hb => ?_) (fun hb => ?_) <;> have h := hb <;> (try simp only [wf_preprocess] at h) <;> simp -implicitDefEqProofs (disch := omega) only [go_sem, hb] <;> (repeat (with_reducible refine And.intro ?_ ?_; focus first | omega | rfl | assumption | exact ⟨_, rfl, rfl⟩ | (simp; omega) | (simp; done)))
    · (repeat (with_reducible refine And.intro ?_ ?_; focus first | omega | rfl | assumption | exact ⟨_, rfl, rfl⟩ | (simp; omega) | (simp; done)))
      have ha : addV out u = out ++ [u.fName] := if_pos ⟨h1, h⟩
      rw [ha]; simp [encS]
    · have ha : addV out u = out := if_neg fun x => x.2 h
      rw [ha]
  · have ha : addV out u = out := if_neg fun x => h x.1
    rw [ha]
theorem variablesOf_ok (ts : List MType) (hl : ts.length ≤ 4194304) (hz : ∀ t ∈ ts, t.sz ≤ 4194304) (hc : MType.cnts ts ≤ 1073741823) : PCall Tryz.prog 218 [.c (.d (.sl (ts.map MType.enc)))] (.c (.d (.sl ((tvarsL [] ts).map encS)))) := fun S => by
  refine acall_cw (rs := [.tmp 2]) Tryz.checked.mixed Tryz.func218 Tryz.ntmps218 rfl rfl rfl rfl rfl ?_
  simp -implicitDefEqProofs (disch := omega) only [go_sem]
  (repeat (with_reducible refine And.intro ?_ ?_; focus first | omega | rfl | assumption | exact ⟨_, rfl, rfl⟩ | (simp; omega) | (simp; done)))
  refine aw_tokbox 0 0 1 [] [.fsl []] rfl rfl (by simp) ?_
  refine loop_at (ι := Nat × List (List UInt8)) Tryz.checked.mixed rfl [3, 7, 8, 9] (fun y => [.c (.ptr (0, 0) 0), .c (.d (.sl (ts.map MType.enc))), .c (.d (.i .i64 ts.length)), .c (.d (.i .i64 y.1))]) (fun y => [.box [.tsl (0, 1) (y.2.map encS)], .tok 1 (y.2.map encS)] :: S)
    (fun y => y.1 ≤ ts.length ∧ y.2.length + MType.cnts (ts.drop y.1) ≤ 1073741824 ∧ tvarsL y.2 (ts.drop y.1) = tvarsL [] ts) (fun y => ts.length - y.1) (0, []) rfl rfl ⟨Nat.zero_le _, by simp only [List.drop_zero, List.length_nil]; omega, rfl⟩ ?_
  rintro ⟨i, out⟩ ⟨p1, p2, p3⟩
  simp only at p1 p2 p3
  simp -implicitDefEqProofs (disch := omega) only [go_sem]
  with_reducible refine split2 (fun hb => ?_) (fun hb => ?_) <;> have h := hb <;> (try simp only [wf_preprocess] at h) <;> simp -implicitDefEqProofs (disch := omega) only [go_sem, hb] <;> (repeat (with_reducible refine And.intro ?_ ?_; focus first | omega | rfl | assumption | exact ⟨_, rfl, rfl⟩ | (simp; omega) | (simp; done)))
  · have hi : i < ts.length := by omega
    rw [tvarsL_drop hi] at p3
    rw [List.drop_eq_getElem_cons hi, MType.cnts] at p2
    have hlen := tvars_len ts[i] out
    (repeat (with_reducible refine And.intro ?_ ?_; focus first | omega | rfl | assumption | exact ⟨_, rfl, rfl⟩ | (simp; omega) | (simp; done)))
    refine call_d rfl (eachType_ok (hz _ (List.getElem_mem hi)) (variablesOf1_step [Ab.Obj.box [.d (.i .i64 ts[i].fKind), .d (.s ts[i].fName), .d (.sl (ts[i].fArgs.map MType.enc))]] S) (MType.cnts (ts.drop (i + 1))) out (by omega)).2 ?_
    simp -implicitDefEqProofs (disch := omega) only [go_sem]
    exact inv_drop 2 (by decide) (i + 1, tvars out ts[i]) (by simp only; omega) rfl rfl rfl rfl ⟨by simp only; omega, by simp only; omega, p3⟩
  · have hi : i = ts.length := by omega
    rw [hi, List.drop_length] at p3
    rw [← p3]; rfl
theorem implTypeVars_ok (t : MType) (hsz : t.sz ≤ 4194304) : PCall Tryz.prog 193 [t.v] (.c (.d (.sl ((tvars [] t).map encS)))) := fun S => by
  have hc := cnt_le t
  have h0 := variablesOf_ok [t] (by simp) (by simpa using hsz) (by simp [MType.cnts]; omega)
  simp only [List.map_cons, List.map_nil, MType.enc_eq] at h0
  refine acall_cw (rs := [.tmp 2]) Tryz.checked.mixed Tryz.func193 Tryz.ntmps193 rfl rfl rfl rfl rfl ?_
  simp -implicitDefEqProofs (disch := omega) only [go_sem]
  (repeat (with_reducible refine And.intro ?_ ?_; focus first | omega | rfl | assumption | exact ⟨_, rfl, rfl⟩ | (simp; omega) | (simp; done)))
  refine call_w h0 ?_
  simp -implicitDefEqProofs (disch := omega) only [go_sem]
  rw [show tvarsL [] [t] = tvars [] t by simp [tvarsL, tvars, nodesL]]
theorem l4Vars_all : ∀ n : Nat, ∀ t : MType, SizeOf.sizeOf t < n → t.sz ≤ 4194304 → ∀ (out : List (List UInt8)) (l j : Nat) (S : Store), getO S (l, j) = some (.tok 1 (out.map encS)) → out.length + t.cnt ≤ 1073741824 →
    ACall Tryz.prog 209 [t.v, .c (.tsl (l, j) (out.map encS))] S (fun r S' => r = .c (.tsl (l, j) ((tvars out t).map encS)) ∧ S' = setO S (l, j) (.tok 1 ((tvars out t).map encS)))
  | 0 => fun t h => by omega
  | n + 1 => by
    have ih := l4Vars_all n
    intro t hn hsz out l j S hk hc
    have lArgs := MType.lt_Args t
    have hts := ty_szT hsz
    have hcn := MType.cnt_eq t
    -- the loop, from whatever list
    have hkS : ∀ x : Ab.Obj, getO (setO S (l, j) x) (l, j) = some x := fun x => getO_setO_eq _ _ _ _ hk
    have hS0 : setO S (l, j) (.tok 1 (out.map encS)) = S := setO_self _ _ hk
    have fin : tvars out t = tvarsL (addV out t) t.fArgs := tvars_eq out t
    have hal := addV_len out t
    have e0 : (out ++ [t.fName]).map encS = out.map encS ++ [[D.s t.fName]] := by simp [encS]
    refine acall_cw (rs := [.tmp 4]) Tryz.checked.mixed Tryz.func209 Tryz.ntmps209 rfl rfl rfl rfl rfl ?_
    simp -implicitDefEqProofs (disch := omega) only [go_sem, hk]
    repeat' (first
      | (with_reducible refine split2 (fun hb => ?_) (fun hb => ?_) <;> have h := hb <;> (try simp only [wf_preprocess] at h) <;> simp -implicitDefEqProofs (disch := omega) only [go_sem, hb, hk] <;> (repeat (with_reducible refine And.intro ?_ ?_; focus first | omega | rfl | assumption | exact ⟨_, rfl, rfl⟩ | (simp; omega) | (simp; done))))
      | (refine call_w (l1Has_ok out t.fName (by omega)) ?_; simp -implicitDefEqProofs (disch := omega) only [go_sem, hk]; (repeat (with_reducible refine And.intro ?_ ?_; focus first | omega | rfl | assumption | exact ⟨_, rfl, rfl⟩ | (simp; omega) | (simp; done)))))
    all_goals first
      | (have ha : addV out t = out ++ [t.fName] := if_pos ⟨by assumption, by assumption⟩)
      | (have ha : addV out t = out := if_neg (fun x => by have := x.1; have := x.2; contradiction))
    all_goals
      refine loop_at (ι := Nat × List (List UInt8)) Tryz.checked.mixed rfl [1, 2, 5] (fun y => [.c (.tsl (1 + l, j) (y.2.map encS)), .c (.ptr (0, 0) 0), .c (.d (.i .i64 y.1))]) (fun y => [.box [.d (.i .i64 t.fKind), .d (.s t.fName), .d (.sl (t.fArgs.map MType.enc))]] :: setO S (l, j) (.tok 1 (y.2.map encS)))
        (fun y => y.1 ≤ t.fArgs.length ∧ y.2.length + MType.cnts (t.fArgs.drop y.1) ≤ 1073741824 ∧ tvarsL y.2 (t.fArgs.drop y.1) = tvars out t) (fun y => t.fArgs.length - y.1) (0, addV out t) (by first | (rw [ha, e0]; rfl) | (rw [ha]; rfl)) (by first | (simp only [ha, e0]; done) | (simp only [ha, hS0]; done)) ⟨Nat.zero_le _, by simp only [List.drop_zero]; omega, by rw [fin]; rfl⟩ ?_
      rintro ⟨i, b⟩ ⟨p1, p2, p3⟩
      simp only at p1 p2 p3
      simp -implicitDefEqProofs (disch := omega) only [go_sem]
      with_reducible refine split2 (fun hb => ?_) (fun hb => ?_) <;> have h := hb <;> (try simp only [wf_preprocess] at h) <;> simp -implicitDefEqProofs (disch := omega) only [go_sem, hb] <;> (repeat (with_reducible refine And.intro ?_ ?_; focus first | omega | rfl | assumption | exact ⟨_, rfl, rfl⟩ | (simp; omega) | (simp; done)))
      · have hi : i < t.fArgs.length := by omega
        have hs := List.sizeOf_lt_of_mem (List.getElem_mem hi)
        rw [tvarsL_drop hi] at p3
        rw [List.drop_eq_getElem_cons hi, MType.cnts] at p2
        have hlen := tvars_len t.fArgs[i] b
        (repeat (with_reducible refine And.intro ?_ ?_; focus first | omega | rfl | assumption | exact ⟨_, rfl, rfl⟩ | (simp; omega) | (simp; done)))
        refine call_d rfl (ih t.fArgs[i] (by omega) (arg_szT hi hsz).1 b (1 + l) j _ (by rw [getO_up1]; exact hkS _) (by omega)) ?_
        simp -implicitDefEqProofs (disch := omega) only [go_sem, setO_twice]
        exact inv_at (i + 1, tvars b t.fArgs[i]) (by simp only; omega) rfl rfl ⟨by simp only; omega, by simp only; omega, p3⟩
      · have hi : i = t.fArgs.length := by omega
        rw [hi, List.drop_length] at p3
        rw [← p3]
        exact ⟨rfl, rfl⟩
theorem specTypeVars_ok (t : MType) (hsz : t.sz ≤ 4194304) : PCall Tryz.prog 184 [t.v] (.c (.d (.sl ((tvars [] t).map encS)))) := fun S => by
  have hc := cnt_le t
  have h0 : ∀ S, ACall Tryz.prog 209 [t.v, .c (.fsl [])] S (fun r S' => r = .c (.d (.sl ((tvars [] t).map encS))) ∧ S' = S) := fun S => by
    refine ACall.tok0 1 (es := []) (esz := 1) rfl (by simp) (l4Vars_all _ t (Nat.lt_succ_self _) hsz [] 0 0 ([.tok 1 []] :: S) rfl (by simp; omega)) ?_
    rintro r fr S' ⟨rfl, h2⟩
    injection h2 with h2 h3
    exact ⟨_, rfl, rfl, h3⟩
  refine acall_cw (rs := [.tmp 2]) Tryz.checked.mixed Tryz.func184 Tryz.ntmps184 rfl rfl rfl rfl rfl ?_
  simp -implicitDefEqProofs (disch := omega) only [go_sem]
  (repeat (with_reducible refine And.intro ?_ ?_; focus first | omega | rfl | assumption | exact ⟨_, rfl, rfl⟩ | (simp; omega) | (simp; done)))
  refine call_m [true, true] rfl (h0 _) ?_
  simp -implicitDefEqProofs (disch := omega) only [go_sem]
end Go.Proofs.YtokcpelkieeddaaGreat

namespace Go.Proofs.YtokcpelkieeddaaGreat
open Go Go.Ab
theorem indexFuncType_ok (g : Nat) (caps : List (Key × Nat)) (S : Store) (xs : List MType) (p : MType → Bool) (hl : xs.length ≤ 1073741824) (hp : ∀ x ∈ xs, FPure Tryz.prog g caps S [x.v] (.c (.d (.b (p x))))) :
    ACall Tryz.prog 190 [.c (.d (.sl (xs.map MType.enc))), .c (.fn g caps)] S (fun r S' => r = .c (.d (.i .i64 (indexP p xs))) ∧ S' = S) := by
  refine acall_cw (rs := [.tmp 4]) Tryz.checked.mixed Tryz.func190 Tryz.ntmps190 rfl rfl rfl rfl rfl ?_
  simp -implicitDefEqProofs (disch := omega) only [go_sem]
  refine loop_at (ι := Nat) Tryz.checked.mixed rfl [0, 1, 7, 8] (fun i => [.c (.d (.sl (xs.map MType.enc))), .c (.fn g (upCaps 1 caps)), .c (.d (.i .i64 xs.length)), .c (.d (.i .i64 i))]) (fun _ => [] :: S)
    (fun i => i ≤ xs.length ∧ ∀ j, ∀ hj : j < xs.length, j < i → p xs[j] = false) (fun i => xs.length - i) 0 rfl rfl ⟨Nat.zero_le _, fun j _ h => by omega⟩ ?_
  rintro i ⟨p1, p2⟩
  simp -implicitDefEqProofs (disch := omega) only [go_sem]
  with_reducible refine split2 (fun hb => ?_) (fun hb => ?_) <;> have h := hb <;> (try simp only [wf_preprocess] at h) <;> simp -implicitDefEqProofs (disch := omega) only [go_sem, hb] <;> (repeat (with_reducible refine And.intro ?_ ?_; focus first | omega | rfl | assumption | exact ⟨_, rfl, rfl⟩ | (simp; omega) | (simp; done)))
  · have hi : i < xs.length := by omega
    (repeat (with_reducible refine And.intro ?_ ?_; focus first | omega | rfl | assumption | exact ⟨_, rfl, rfl⟩ | (simp; omega) | (simp; done)))
    refine call_d rfl (hp xs[i] (List.getElem_mem hi) [_]) ?_
    simp -implicitDefEqProofs (disch := omega) only [go_sem]
    with_reducible refine split2 (fun hb => ?_) (fun hb => ?_) <;> have h := hb <;> (try simp only [wf_preprocess] at h) <;> simp -implicitDefEqProofs (disch := omega) only [go_sem, hb] <;> (repeat (with_reducible refine And.intro ?_ ?_; focus first | omega | rfl | assumption | exact ⟨_, rfl, rfl⟩ | (simp; omega) | (simp; done)))
    · rw [indexP_here hi p2 h]
    · refine inv_at (i + 1) (by omega) rfl rfl ⟨by omega, fun j hj hji => ?_⟩
      by_cases e : j = i
      · subst e; exact h
      · exact p2 j hj (by omega)
  · rw [indexP_no (fun j hj => p2 j hj (by omega))]
theorem containsFuncType_ok (g : Nat) (caps : List (Key × Nat)) (S : Store) (xs : List MType) (p : MType → Bool) (hl : xs.length ≤ 1073741824) (hp : ∀ x ∈ xs, FPure Tryz.prog g caps S [x.v] (.c (.d (.b (p x))))) :
    ACall Tryz.prog 152 [.c (.d (.sl (xs.map MType.enc))), .c (.fn g caps)] S (fun r S' => r = .c (.d (.b (xs.any p))) ∧ S' = S) := by
  refine acall_cw (rs := [.tmp 4]) Tryz.checked.mixed Tryz.func152 Tryz.ntmps152 rfl rfl rfl rfl rfl ?_
  simp -implicitDefEqProofs (disch := omega) only [go_sem]
  refine call_d rfl (indexFuncType_ok g (upCaps 1 caps) _ xs p hl fun x hx => (hp x hx).push _) ?_
  simp -implicitDefEqProofs (disch := omega) only [go_sem]
  exact bool_eq indexP_pos
theorem indexFuncstring_ok (g : Nat) (caps : List (Key × Nat)) (S : Store) (xs : List (List UInt8)) (p : (List UInt8) → Bool) (hl : xs.length ≤ 1073741824) (hp : ∀ x ∈ xs, FPure Tryz.prog g caps S [.c (.d (.s x))] (.c (.d (.b (p x))))) :
    ACall Tryz.prog 189 [.c (.d (.sl (xs.map encS))), .c (.fn g caps)] S (fun r S' => r = .c (.d (.i .i64 (indexP p xs))) ∧ S' = S) := by
  refine acall_cw (rs := [.tmp 4]) Tryz.checked.mixed Tryz.func189 Tryz.ntmps189 rfl rfl rfl rfl rfl ?_
  simp -implicitDefEqProofs (disch := omega) only [go_sem, encS]
  refine loop_at (ι := Nat) Tryz.checked.mixed rfl [0, 1, 7, 8] (fun i => [.c (.d (.sl (xs.map encS))), .c (.fn g (upCaps 1 caps)), .c (.d (.i .i64 xs.length)), .c (.d (.i .i64 i))]) (fun _ => [] :: S)
    (fun i => i ≤ xs.length ∧ ∀ j, ∀ hj : j < xs.length, j < i → p xs[j] = false) (fun i => xs.length - i) 0 rfl rfl ⟨Nat.zero_le _, fun j _ h => by omega⟩ ?_
  rintro i ⟨p1, p2⟩
  simp -implicitDefEqProofs (disch := omega) only [go_sem, encS]
  with_reducible refine split2 (fun hb => ?_) (fun hb => ?_) <;> have h := hb <;> (try simp only [wf_preprocess] at h) <;> simp -implicitDefEqProofs (disch := omega) only [go_sem, hb, encS] <;> (repeat (with_reducible refine And.intro ?_ ?_; focus first | omega | rfl | assumption | exact ⟨_, rfl, rfl⟩ | (simp; omega) | (simp; done)))
  · have hi : i < xs.length := by omega
    (repeat (with_reducible refine And.intro ?_ ?_; focus first | omega | rfl | assumption | exact ⟨_, rfl, rfl⟩ | (simp; omega) | (simp; done)))
    refine call_d rfl (hp xs[i] (List.getElem_mem hi) [_]) ?_
    simp -implicitDefEqProofs (disch := omega) only [go_sem, encS]
    with_reducible refine split2 (fun hb => ?_) (fun hb => ?_) <;> have h := hb <;> (try simp only [wf_preprocess] at h) <;> simp -implicitDefEqProofs (disch := omega) only [go_sem, hb, encS] <;> (repeat (with_reducible refine And.intro ?_ ?_; focus first | omega | rfl | assumption | exact ⟨_, rfl, rfl⟩ | (simp; omega) | (simp; done)))
    · rw [indexP_here hi p2 h]
    · refine inv_at (i + 1) (by omega) rfl rfl ⟨by omega, fun j hj hji => ?_⟩
      by_cases e : j = i
      · subst e; exact h
      · exact p2 j hj (by omega)
  · rw [indexP_no (fun j hj => p2 j hj (by omega))]
theorem containsFuncstring_ok (g : Nat) (caps : List (Key × Nat)) (S : Store) (xs : List (List UInt8)) (p : (List UInt8) → Bool) (hl : xs.length ≤ 1073741824) (hp : ∀ x ∈ xs, FPure Tryz.prog g caps S [.c (.d (.s x))] (.c (.d (.b (p x))))) :
    ACall Tryz.prog 150 [.c (.d (.sl (xs.map encS))), .c (.fn g caps)] S (fun r S' => r = .c (.d (.b (xs.any p))) ∧ S' = S) := by
  refine acall_cw (rs := [.tmp 4]) Tryz.checked.mixed Tryz.func150 Tryz.ntmps150 rfl rfl rfl rfl rfl ?_
  simp -implicitDefEqProofs (disch := omega) only [go_sem, encS]
  refine call_d rfl (indexFuncstring_ok g (upCaps 1 caps) _ xs p hl fun x hx => (hp x hx).push _) ?_
  simp -implicitDefEqProofs (disch := omega) only [go_sem, encS]
  exact bool_eq indexP_pos
end Go.Proofs.YtokcpelkieeddaaGreat

namespace Go.Ab
theorem strs_b {s : List UInt8} {xs : List (List UInt8)} (h : s ∈ xs) : s.length ≤ szRows (xs.map encS) := by
  have := szRows_mem (List.mem_map_of_mem (f := encS) h)
  simpa [encS, szRow, D.sz] using this
noncomputable def namesOk (xs : List (List UInt8)) : Bool := dec xs.Nodup && xs.all validName
noncomputable def among (xs ys : List (List UInt8)) : Bool := xs.all fun s => dec (s ∈ ys)
noncomputable def typeOver (vars : List (List UInt8)) (t : MType) : Bool := validType t && among (tvars [] t) vars
noncomputable def typesOver (vars : List (List UInt8)) (ts : List MType) : Bool := ts.all (typeOver vars)
theorem mem_addW {s l : List UInt8} {m : List (List UInt8)} : s ∈ addW l m ↔ s = l ∨ s ∈ m := by
  unfold addW
  split
  · rename_i h
    exact ⟨.inr, fun x => x.elim (fun e => e ▸ h) id⟩
  · rw [List.mem_append, List.mem_singleton]; exact Or.comm
theorem take_snoc {α : Type} {xs : List α} {i : Nat} (hi : i < xs.length) : xs.take (i + 1) = xs.take i ++ [xs[i]] := List.take_succ_eq_append_getElem hi
theorem nodup_snoc {α : Type} {xs : List α} {x : α} : (xs ++ [x]).Nodup ↔ xs.Nodup ∧ x ∉ xs := by
  rw [List.nodup_append]
  constructor
  · rintro ⟨h1, _, h3⟩
    exact ⟨h1, fun hx => h3 x hx x (by simp) rfl⟩
  · rintro ⟨h1, h2⟩
    exact ⟨h1, by simp, fun a ha b hb e => by simp at hb; subst hb; exact h2 (e ▸ ha)⟩
theorem not_nodup {α : Type} {xs : List α} {i : Nat} (hi : i < xs.length) (h : xs[i] ∈ xs.take i) : ¬ xs.Nodup := fun hn => by
  have h1 : (xs.take (i + 1)).Nodup := hn.sublist (List.take_sublist _ _)
  rw [take_snoc hi] at h1
  exact (nodup_snoc.1 h1).2 h
end Go.Ab
namespace Go.Proofs.YtokcpelkieeddaaGreat
open Go Go.Ab
theorem implDistinct_ok (xs : List (List UInt8)) (hl : xs.length ≤ 1073741824) : PCall Tryz.prog 149 [.c (.d (.sl (xs.map encS)))] (.c (.d (.b (dec xs.Nodup)))) := fun S => by
  refine acall_cw (rs := [.tmp 2]) Tryz.checked.mixed Tryz.func149 Tryz.ntmps149 rfl rfl rfl rfl rfl ?_
  simp -implicitDefEqProofs (disch := omega) only [go_sem, encS]
  (repeat (with_reducible refine And.intro ?_ ?_; focus first | omega | rfl | assumption | exact ⟨_, rfl, rfl⟩ | (simp; omega) | (simp; done)))
  refine loop_at (ι := Nat × List (List UInt8)) Tryz.checked.mixed rfl [3, 7, 8, 9] (fun y => [.c (.mp (0, 0)), .c (.d (.sl (xs.map encS))), .c (.d (.i .i64 xs.length)), .c (.d (.i .i64 y.1))]) (fun y => [.mp y.2] :: S)
    (fun y => y.1 ≤ xs.length ∧ (∀ s, s ∈ y.2 ↔ s ∈ xs.take y.1) ∧ (xs.take y.1).Nodup) (fun y => xs.length - y.1) (0, []) rfl rfl ⟨Nat.zero_le _, fun s => by simp, by simp⟩ ?_
  rintro ⟨i, m⟩ ⟨p1, p2, p3⟩
  simp only at p1 p2 p3
  simp -implicitDefEqProofs (disch := omega) only [go_sem, encS]
  with_reducible refine split2 (fun hb => ?_) (fun hb => ?_) <;> have h := hb <;> (try simp only [wf_preprocess] at h) <;> simp -implicitDefEqProofs (disch := omega) only [go_sem, hb, encS] <;> (repeat (with_reducible refine And.intro ?_ ?_; focus first | omega | rfl | assumption | exact ⟨_, rfl, rfl⟩ | (simp; omega) | (simp; done)))
  · have hi : i < xs.length := by omega
    (repeat (with_reducible refine And.intro ?_ ?_; focus first | omega | rfl | assumption | exact ⟨_, rfl, rfl⟩ | (simp; omega) | (simp; done)))
    with_reducible refine split2 (fun hb => ?_) (fun hb => ?_) <;> have h := hb <;> (try simp only [wf_preprocess] at h) <;> simp -implicitDefEqProofs (disch := omega) only [go_sem, hb, encS] <;> (repeat (with_reducible refine And.intro ?_ ?_; focus first | omega | rfl | assumption | exact ⟨_, rfl, rfl⟩ | (simp; omega) | (simp; done)))
    · exact bool_eq (dec_false (not_nodup hi ((p2 _).1 h))).symm
    · refine inv_at (i + 1, addW xs[i] m) (by simp only; omega) rfl rfl ⟨by simp only; omega, fun s => ?_, ?_⟩
      · simp only
        rw [mem_addW, take_snoc hi, List.mem_append, List.mem_singleton, p2]
        exact Or.comm
      · simp only
        rw [take_snoc hi, nodup_snoc]
        exact ⟨p3, fun hx => h ((p2 _).2 hx)⟩
  · rw [List.take_of_length_le (by omega)] at p3
    exact bool_eq (dec_true p3).symm
theorem specDistinct_ok (xs : List (List UInt8)) (hl : xs.length ≤ 1073741824) : PCall Tryz.prog 144 [.c (.d (.sl (xs.map encS)))] (.c (.d (.b (dec xs.Nodup)))) := fun S => by
  refine acall_cw (rs := [.tmp 2]) Tryz.checked.mixed Tryz.func144 Tryz.ntmps144 rfl rfl rfl rfl rfl ?_
  simp -implicitDefEqProofs (disch := omega) only [go_sem, encS]
  refine loop_at (ι := Nat) Tryz.checked.mixed rfl [0, 3] (fun i => [.c (.d (.sl (xs.map encS))), .c (.d (.i .i64 i))]) (fun _ => [] :: S)
    (fun i => i ≤ xs.length ∧ (xs.take i).Nodup) (fun i => xs.length - i) 0 rfl rfl ⟨Nat.zero_le _, by simp⟩ ?_
  rintro i ⟨p1, p3⟩
  simp -implicitDefEqProofs (disch := omega) only [go_sem, encS]
  with_reducible refine split2 (fun hb => ?_) (fun hb => ?_) <;> have h := hb <;> (try simp only [wf_preprocess] at h) <;> simp -implicitDefEqProofs (disch := omega) only [go_sem, hb, encS] <;> (repeat (with_reducible refine And.intro ?_ ?_; focus first | omega | rfl | assumption | exact ⟨_, rfl, rfl⟩ | (simp; omega) | (simp; done)))
  · have hi : i < xs.length := by omega
    have hc : ∀ y ∈ xs.map encS, y.length = 1 := fun y hy => by
      obtain ⟨s, _, rfl⟩ := List.mem_map.1 hy
      rfl
    have e : (xs.map encS).take i = (xs.take i).map encS := List.map_take.symm
    refine And.intro ⟨by omega, by omega, hc⟩ ?_
    (repeat (with_reducible refine And.intro ?_ ?_; focus first | omega | rfl | assumption | exact ⟨_, rfl, rfl⟩ | (simp; omega) | (simp; done)))
    simp -implicitDefEqProofs (disch := omega) only [go_sem, Int.toNat_zero, e]
    refine call_w (l1Has_ok (xs.take i) xs[i] (by simp; omega)) ?_
    simp -implicitDefEqProofs (disch := omega) only [go_sem] <;> (repeat (with_reducible refine And.intro ?_ ?_; focus first | omega | rfl | assumption | exact ⟨_, rfl, rfl⟩ | (simp; omega) | (simp; done)))
    with_reducible refine split2 (fun hb => ?_) (fun hb => ?_) <;> have h := hb <;> (try simp only [wf_preprocess] at h) <;> simp -implicitDefEqProofs (disch := omega) only [go_sem, hb] <;> (repeat (with_reducible refine And.intro ?_ ?_; focus first | omega | rfl | assumption | exact ⟨_, rfl, rfl⟩ | (simp; omega) | (simp; done)))
    · exact bool_eq (dec_false (not_nodup hi h)).symm
    · refine inv_at (i + 1) (by omega) rfl rfl ⟨by omega, ?_⟩
      rw [take_snoc hi, nodup_snoc]
      exact ⟨p3, h⟩
  · rw [List.take_of_length_le (by omega)] at p3
    exact bool_eq (dec_true p3).symm
theorem l3Names_ok (xs : List (List UInt8)) (hl : xs.length ≤ 1073741824) (hs : ∀ s ∈ xs, s.length ≤ 4194304) : PCall Tryz.prog 143 [.c (.d (.sl (xs.map encS)))] (.c (.d (.b (xs.all validName)))) := fun S => by
  refine acall_cw (rs := [.tmp 2]) Tryz.checked.mixed Tryz.func143 Tryz.ntmps143 rfl rfl rfl rfl rfl ?_
  simp -implicitDefEqProofs (disch := omega) only [go_sem, encS]
  refine loop_at (ι := Nat) Tryz.checked.mixed rfl [0, 3] (fun i => [.c (.d (.sl (xs.map encS))), .c (.d (.i .i64 i))]) (fun _ => [] :: S)
    (fun i => i ≤ xs.length ∧ (xs.drop i).all validName = xs.all validName) (fun i => xs.length - i) 0 rfl rfl ⟨Nat.zero_le _, rfl⟩ ?_
  rintro i ⟨p1, p2⟩
  simp -implicitDefEqProofs (disch := omega) only [go_sem, encS]
  with_reducible refine split2 (fun hb => ?_) (fun hb => ?_) <;> have h := hb <;> (try simp only [wf_preprocess] at h) <;> simp -implicitDefEqProofs (disch := omega) only [go_sem, hb, encS] <;> (repeat (with_reducible refine And.intro ?_ ?_; focus first | omega | rfl | assumption | exact ⟨_, rfl, rfl⟩ | (simp; omega) | (simp; done)))
  · have hi : i < xs.length := by omega
    have hz := hs _ (List.getElem_mem hi)
    rw [List.drop_eq_getElem_cons hi, List.all_cons] at p2
    (repeat (with_reducible refine And.intro ?_ ?_; focus first | omega | rfl | assumption | exact ⟨_, rfl, rfl⟩ | (simp; omega) | (simp; done)))
    refine call_w (specValidName_ok xs[i] (by omega)) ?_
    simp -implicitDefEqProofs (disch := omega) only [go_sem] <;> (repeat (with_reducible refine And.intro ?_ ?_; focus first | omega | rfl | assumption | exact ⟨_, rfl, rfl⟩ | (simp; omega) | (simp; done)))
    with_reducible refine split2 (fun hb => ?_) (fun hb => ?_) <;> have h := hb <;> (try simp only [wf_preprocess] at h) <;> simp -implicitDefEqProofs (disch := omega) only [go_sem, hb] <;> (repeat (with_reducible refine And.intro ?_ ?_; focus first | omega | rfl | assumption | exact ⟨_, rfl, rfl⟩ | (simp; omega) | (simp; done)))
    · rw [← p2, h]; rfl
    · exact inv_at (i + 1) (by omega) rfl rfl ⟨by omega, by rw [← p2, h]; rfl⟩
  · rw [List.drop_of_length_le (by omega)] at p2
    rw [← p2]; rfl
theorem areNames_ok (xs : List (List UInt8)) (hl : xs.length ≤ 1073741824) (hs : ∀ s ∈ xs, s.length ≤ 4194304) : PCall Tryz.prog 96 [.c (.d (.sl (xs.map encS)))] (.c (.d (.b (namesOk xs)))) := fun S => by
  have hcl : ∀ s ∈ xs, PCall Tryz.prog 151 [.c (.d (.s s))] (.c (.d (.b (!validName s)))) := fun s hx S => by
    have := hs s hx
    refine acall_cw (rs := [.tmp 2]) Tryz.checked.mixed Tryz.func151 Tryz.ntmps151 rfl rfl rfl rfl rfl ?_
    simp -implicitDefEqProofs (disch := omega) only [go_sem]
    refine call_w (implValidName_ok s (by omega)) ?_
    simp -implicitDefEqProofs (disch := omega) only [go_sem] <;> (repeat (with_reducible refine And.intro ?_ ?_; focus first | omega | rfl | assumption | exact ⟨_, rfl, rfl⟩ | (simp; omega) | (simp; done)))
  have ha : (xs.any fun s => !validName s) = !xs.all validName := by rw [List.not_all_eq_any_not]
  refine acall_cw (rs := [.tmp 2]) Tryz.checked.mixed Tryz.func96 Tryz.ntmps96 rfl rfl rfl rfl rfl ?_
  simp -implicitDefEqProofs (disch := omega) only [go_sem]
  refine call_w (implDistinct_ok xs hl) ?_
  simp -implicitDefEqProofs (disch := omega) only [go_sem] <;> (repeat (with_reducible refine And.intro ?_ ?_; focus first | omega | rfl | assumption | exact ⟨_, rfl, rfl⟩ | (simp; omega) | (simp; done)))
  with_reducible refine split2 (fun hb => ?_) (fun hb => ?_) <;> have h := hb <;> (try simp only [wf_preprocess] at h) <;> simp -implicitDefEqProofs (disch := omega) only [go_sem, hb] <;> (repeat (with_reducible refine And.intro ?_ ?_; focus first | omega | rfl | assumption | exact ⟨_, rfl, rfl⟩ | (simp; omega) | (simp; done)))
  · refine call_d rfl (containsFuncstring_ok 151 [] _ xs (fun s => !validName s) hl fun s hx => FPure.of_pure (hcl s hx)) ?_
    simp -implicitDefEqProofs (disch := omega) only [go_sem]
    rw [ha]
    exact bool_eq (by unfold namesOk; rw [hb]; simp)
  · exact bool_eq (by unfold namesOk; rw [hb]; rfl)
theorem areAmong_ok (xs ys : List (List UInt8)) (hl : xs.length ≤ 1073741824) (hl' : ys.length ≤ 1073741824) : PCall Tryz.prog 192 [.c (.d (.sl (xs.map encS))), .c (.d (.sl (ys.map encS)))] (.c (.d (.b (among xs ys)))) := fun S => by
  have ha : (xs.any fun s => !dec (s ∈ ys)) = !among xs ys := by unfold among; rw [List.not_all_eq_any_not]
  have hcl : ∀ (rest : List Ab.Obj) (s : List UInt8), FPure Tryz.prog 217 [((0, 0), 0)] ((.box [.d (.sl (ys.map encS))] :: rest) :: S) [.c (.d (.s s))] (.c (.d (.b (!dec (s ∈ ys))))) := fun rest s F => by
    refine acall_cw (rs := [.tmp 3]) Tryz.checked.mixed Tryz.func217 Tryz.ntmps217 rfl rfl rfl rfl rfl ?_
    simp -implicitDefEqProofs (disch := omega) only [go_sem]
    refine call_w (containsS_ok ys s hl') ?_
    simp -implicitDefEqProofs (disch := omega) only [go_sem] <;> (repeat (with_reducible refine And.intro ?_ ?_; focus first | omega | rfl | assumption | exact ⟨_, rfl, rfl⟩ | (simp; omega) | (simp; done)))
  refine acall_cw (rs := [.tmp 4]) Tryz.checked.mixed Tryz.func192 Tryz.ntmps192 rfl rfl rfl rfl rfl ?_
  simp -implicitDefEqProofs (disch := omega) only [go_sem]
  refine call_d rfl (containsFuncstring_ok 217 [((0, 0), 0)] _ xs (fun s => !dec (s ∈ ys)) hl fun s hx => hcl [] s) ?_
  simp -implicitDefEqProofs (disch := omega) only [go_sem]
  rw [ha]
  exact bool_eq (by simp)
theorem isTypeOver_ok (t : MType) (vars : List (List UInt8)) (hsz : t.sz ≤ 4194304) (hv : vars.length ≤ 1073741824) : PCall Tryz.prog 154 [t.v, .c (.d (.sl (vars.map encS)))] (.c (.d (.b (typeOver vars t)))) := fun S => by
  have h1 := tvars_len t []
  have h2 := cnt_le t
  refine acall_cw (rs := [.tmp 4]) Tryz.checked.mixed Tryz.func154 Tryz.ntmps154 rfl rfl rfl rfl rfl ?_
  simp -implicitDefEqProofs (disch := omega) only [go_sem]
  refine call_w (implValidType_ok t hsz) ?_
  simp -implicitDefEqProofs (disch := omega) only [go_sem] <;> (repeat (with_reducible refine And.intro ?_ ?_; focus first | omega | rfl | assumption | exact ⟨_, rfl, rfl⟩ | (simp; omega) | (simp; done)))
  with_reducible refine split2 (fun hb => ?_) (fun hb => ?_) <;> have h := hb <;> (try simp only [wf_preprocess] at h) <;> simp -implicitDefEqProofs (disch := omega) only [go_sem, hb] <;> (repeat (with_reducible refine And.intro ?_ ?_; focus first | omega | rfl | assumption | exact ⟨_, rfl, rfl⟩ | (simp; omega) | (simp; done)))
  · refine call_w (implTypeVars_ok t hsz) ?_
    simp -implicitDefEqProofs (disch := omega) only [go_sem] <;> (repeat (with_reducible refine And.intro ?_ ?_; focus first | omega | rfl | assumption | exact ⟨_, rfl, rfl⟩ | (simp; omega) | (simp; done)))
    refine call_w (areAmong_ok (tvars [] t) vars (by simp at h1; omega) hv) ?_
    simp -implicitDefEqProofs (disch := omega) only [go_sem] <;> (repeat (with_reducible refine And.intro ?_ ?_; focus first | omega | rfl | assumption | exact ⟨_, rfl, rfl⟩ | (simp; omega) | (simp; done)))
    exact bool_eq (by unfold typeOver; rw [hb]; rfl)
  · exact bool_eq (by unfold typeOver; rw [hb]; rfl)
theorem areTypesOver_ok (ts : List MType) (vars : List (List UInt8)) (hl : ts.length ≤ 1073741824) (hsz : ∀ t ∈ ts, t.sz ≤ 4194304) (hv : vars.length ≤ 1073741824) : PCall Tryz.prog 97 [.c (.d (.sl (ts.map MType.enc))), .c (.d (.sl (vars.map encS)))] (.c (.d (.b (typesOver vars ts)))) := fun S => by
  have ha : (ts.any fun t => !typeOver vars t) = !typesOver vars ts := by unfold typesOver; rw [List.not_all_eq_any_not]
  have hcl : ∀ (rest : List Ab.Obj) (t : MType), t.sz ≤ 4194304 → FPure Tryz.prog 153 [((0, 0), 0)] ((.box [.d (.sl (vars.map encS))] :: rest) :: S) [t.v] (.c (.d (.b (!typeOver vars t)))) := fun rest t ht F => by
    refine acall_cw (rs := [.tmp 3]) Tryz.checked.mixed Tryz.func153 Tryz.ntmps153 rfl rfl rfl rfl rfl ?_
    simp -implicitDefEqProofs (disch := omega) only [go_sem]
    refine call_w (isTypeOver_ok t vars ht hv) ?_
    simp -implicitDefEqProofs (disch := omega) only [go_sem] <;> (repeat (with_reducible refine And.intro ?_ ?_; focus first | omega | rfl | assumption | exact ⟨_, rfl, rfl⟩ | (simp; omega) | (simp; done)))
  refine acall_cw (rs := [.tmp 4]) Tryz.checked.mixed Tryz.func97 Tryz.ntmps97 rfl rfl rfl rfl rfl ?_
  simp -implicitDefEqProofs (disch := omega) only [go_sem]
  refine call_d rfl (containsFuncType_ok 153 [((0, 0), 0)] _ ts (fun t => !typeOver vars t) hl fun t hx => hcl [] t (hsz t hx)) ?_
  simp -implicitDefEqProofs (disch := omega) only [go_sem]
  rw [ha]
  exact bool_eq (by simp)
theorem l13Words_ok (xs : List (List UInt8)) (most : Int) (hl : xs.length ≤ 1073741824) (hs : ∀ s ∈ xs, s.length ≤ 4194304) : PCall Tryz.prog 93 [.c (.d (.sl (xs.map encS))), .c (.d (.i .i64 most))] (.c (.d (.b (dec ((xs.length : Int) ≤ most) && namesOk xs)))) := fun S => by
  refine acall_cw (rs := [.tmp 4]) Tryz.checked.mixed Tryz.func93 Tryz.ntmps93 rfl rfl rfl rfl rfl ?_
  simp -implicitDefEqProofs (disch := omega) only [go_sem]
  with_reducible refine split2 (fun hb => ?_) (fun hb => ?_) <;> have h := hb <;> (try simp only [wf_preprocess] at h) <;> simp -implicitDefEqProofs (disch := omega) only [go_sem, hb] <;> (repeat (with_reducible refine And.intro ?_ ?_; focus first | omega | rfl | assumption | exact ⟨_, rfl, rfl⟩ | (simp; omega) | (simp; done)))
  · have h1 := h
    refine call_w (l3Names_ok xs hl hs) ?_
    simp -implicitDefEqProofs (disch := omega) only [go_sem] <;> (repeat (with_reducible refine And.intro ?_ ?_; focus first | omega | rfl | assumption | exact ⟨_, rfl, rfl⟩ | (simp; omega) | (simp; done)))
    with_reducible refine split2 (fun hb => ?_) (fun hb => ?_) <;> have h := hb <;> (try simp only [wf_preprocess] at h) <;> simp -implicitDefEqProofs (disch := omega) only [go_sem, hb] <;> (repeat (with_reducible refine And.intro ?_ ?_; focus first | omega | rfl | assumption | exact ⟨_, rfl, rfl⟩ | (simp; omega) | (simp; done)))
    · refine call_w (specDistinct_ok xs hl) ?_
      simp -implicitDefEqProofs (disch := omega) only [go_sem] <;> (repeat (with_reducible refine And.intro ?_ ?_; focus first | omega | rfl | assumption | exact ⟨_, rfl, rfl⟩ | (simp; omega) | (simp; done)))
      exact bool_eq (by rw [dec_true h1]; unfold namesOk; rw [hb]; simp)
    · exact bool_eq (by rw [dec_true h1]; unfold namesOk; rw [hb]; simp)
  · exact bool_eq (by rw [dec_false h]; rfl)
theorem l13Vars_ok (t : MType) (vars : List (List UInt8)) (hsz : t.sz ≤ 4194304) (hv : vars.length ≤ 1073741824) : PCall Tryz.prog 141 [t.v, .c (.d (.sl (vars.map encS)))] (.c (.d (.b (typeOver vars t)))) := fun S => by
  have h1 := tvars_len t []
  have h2 := cnt_le t
  have hlen : (tvars [] t).length ≤ 1073741824 := by simp at h1; omega
  refine acall_cw (rs := [.tmp 4]) Tryz.checked.mixed Tryz.func141 Tryz.ntmps141 rfl rfl rfl rfl rfl ?_
  simp -implicitDefEqProofs (disch := omega) only [go_sem]
  refine call_w (specTypeVars_ok t hsz) ?_
  simp -implicitDefEqProofs (disch := omega) only [go_sem] <;> (repeat (with_reducible refine And.intro ?_ ?_; focus first | omega | rfl | assumption | exact ⟨_, rfl, rfl⟩ | (simp; omega) | (simp; done)))
  generalize hxs : tvars [] t = xs at hlen
  refine loop_at (ι := Nat) Tryz.checked.mixed rfl [1, 2, 5, 6] (fun i => [.c (.d (.sl (vars.map encS))), .c (.ptr (0, 0) 0), .c (.d (.sl (xs.map encS))), .c (.d (.i .i64 i))]) (fun _ => [.box [.d (.i .i64 t.fKind), .d (.s t.fName), .d (.sl (t.fArgs.map MType.enc))]] :: S)
    (fun i => i ≤ xs.length ∧ among (xs.drop i) vars = among xs vars) (fun i => xs.length - i) 0 rfl rfl ⟨Nat.zero_le _, rfl⟩ ?_
  rintro i ⟨p1, p2⟩
  simp -implicitDefEqProofs (disch := omega) only [go_sem, encS]
  with_reducible refine split2 (fun hb => ?_) (fun hb => ?_) <;> have h := hb <;> (try simp only [wf_preprocess] at h) <;> simp -implicitDefEqProofs (disch := omega) only [go_sem, hb, encS] <;> (repeat (with_reducible refine And.intro ?_ ?_; focus first | omega | rfl | assumption | exact ⟨_, rfl, rfl⟩ | (simp; omega) | (simp; done)))
  · have hi : i < xs.length := by omega
    rw [List.drop_eq_getElem_cons hi] at p2
    have p3 : among xs vars = (dec (xs[i] ∈ vars) && among (xs.drop (i + 1)) vars) := p2.symm
    (repeat (with_reducible refine And.intro ?_ ?_; focus first | omega | rfl | assumption | exact ⟨_, rfl, rfl⟩ | (simp; omega) | (simp; done)))
    refine call_w (l1Has_ok vars xs[i] hv) ?_
    simp -implicitDefEqProofs (disch := omega) only [go_sem] <;> (repeat (with_reducible refine And.intro ?_ ?_; focus first | omega | rfl | assumption | exact ⟨_, rfl, rfl⟩ | (simp; omega) | (simp; done)))
    with_reducible refine split2 (fun hb => ?_) (fun hb => ?_) <;> have h := hb <;> (try simp only [wf_preprocess] at h) <;> simp -implicitDefEqProofs (disch := omega) only [go_sem, hb] <;> (repeat (with_reducible refine And.intro ?_ ?_; focus first | omega | rfl | assumption | exact ⟨_, rfl, rfl⟩ | (simp; omega) | (simp; done)))
    · exact bool_eq (by unfold typeOver; rw [hxs, p3, dec_false h]; simp)
    · exact inv_at (i + 1) (by omega) rfl rfl ⟨by omega, by rw [p3, dec_true h]; rfl⟩
  · rw [List.drop_of_length_le (by omega)] at p2
    have p3 : among xs vars = true := p2.symm
    (repeat (with_reducible refine And.intro ?_ ?_; focus first | omega | rfl | assumption | exact ⟨_, rfl, rfl⟩ | (simp; omega) | (simp; done)))
    refine call_w (specValidType_ok t hsz) ?_
    simp -implicitDefEqProofs (disch := omega) only [go_sem] <;> (repeat (with_reducible refine And.intro ?_ ?_; focus first | omega | rfl | assumption | exact ⟨_, rfl, rfl⟩ | (simp; omega) | (simp; done)))
    exact bool_eq (by unfold typeOver; rw [hxs, p3]; simp)
theorem l13All_ok (ts : List MType) (vars : List (List UInt8)) (hl : ts.length ≤ 1073741824) (hsz : ∀ t ∈ ts, t.sz ≤ 4194304) (hv : vars.length ≤ 1073741824) : PCall Tryz.prog 91 [.c (.d (.sl (ts.map MType.enc))), .c (.d (.sl (vars.map encS)))] (.c (.d (.b (typesOver vars ts)))) := fun S => by
  refine acall_cw (rs := [.tmp 4]) Tryz.checked.mixed Tryz.func91 Tryz.ntmps91 rfl rfl rfl rfl rfl ?_
  simp -implicitDefEqProofs (disch := omega) only [go_sem]
  refine loop_at (ι := Nat) Tryz.checked.mixed rfl [0, 1, 5] (fun i => [.c (.d (.sl (ts.map MType.enc))), .c (.d (.sl (vars.map encS))), .c (.d (.i .i64 i))]) (fun _ => [] :: S)
    (fun i => i ≤ ts.length ∧ typesOver vars (ts.drop i) = typesOver vars ts) (fun i => ts.length - i) 0 rfl rfl ⟨Nat.zero_le _, rfl⟩ ?_
  rintro i ⟨p1, p2⟩
  simp -implicitDefEqProofs (disch := omega) only [go_sem]
  with_reducible refine split2 (fun hb => ?_) (fun hb => ?_) <;> have h := hb <;> (try simp only [wf_preprocess] at h) <;> simp -implicitDefEqProofs (disch := omega) only [go_sem, hb] <;> (repeat (with_reducible refine And.intro ?_ ?_; focus first | omega | rfl | assumption | exact ⟨_, rfl, rfl⟩ | (simp; omega) | (simp; done)))
  · have hi : i < ts.length := by omega
    rw [List.drop_eq_getElem_cons hi] at p2
    have p3 : typesOver vars ts = (typeOver vars ts[i] && typesOver vars (ts.drop (i + 1))) := p2.symm
    (repeat (with_reducible refine And.intro ?_ ?_; focus first | omega | rfl | assumption | exact ⟨_, rfl, rfl⟩ | (simp; omega) | (simp; done)))
    refine call_w (l13Vars_ok ts[i] vars (hsz _ (List.getElem_mem hi)) hv) ?_
    simp -implicitDefEqProofs (disch := omega) only [go_sem] <;> (repeat (with_reducible refine And.intro ?_ ?_; focus first | omega | rfl | assumption | exact ⟨_, rfl, rfl⟩ | (simp; omega) | (simp; done)))
    with_reducible refine split2 (fun hb => ?_) (fun hb => ?_) <;> have h := hb <;> (try simp only [wf_preprocess] at h) <;> simp -implicitDefEqProofs (disch := omega) only [go_sem, hb] <;> (repeat (with_reducible refine And.intro ?_ ?_; focus first | omega | rfl | assumption | exact ⟨_, rfl, rfl⟩ | (simp; omega) | (simp; done)))
    · rw [p3, h]; rfl
    · exact inv_at (i + 1) (by omega) rfl rfl ⟨by omega, by rw [p3, h]; rfl⟩
  · rw [List.drop_of_length_le (by omega)] at p2
    rw [← p2]; rfl
end Go.Proofs.YtokcpelkieeddaaGreat

namespace Go.Ab
def ops : List (List UInt8) := [[43], [45], [42], [60], [61]]
def zeroT (t : MType) : Prop := t.fKind = 0 ∧ t.fName = [] ∧ t.fArgs.length = 0
/-- The rule of an expression's own fields. -/
def fieldsP (e : MExpr) : Prop :=
  (1 ≤ e.fKind ∧ e.fKind ≤ 12) ∧
  (if e.fKind = 5 ∨ e.fKind = 11 then validName e.fTrait = true else e.fTrait = []) ∧
  (if e.fKind = 3 ∨ e.fKind = 4 ∨ e.fKind = 5 ∨ e.fKind = 6 ∨ e.fKind = 8 then validName e.fName = true else if e.fKind = 10 then e.fName ∈ ops else e.fName = []) ∧
  (if e.fKind = 1 then -999999 ≤ e.fN ∧ e.fN ≤ 999999 else if e.fKind = 2 then e.fN = 0 ∨ e.fN = 1 else e.fN = 0) ∧
  (if e.fKind = 12 then validType e.fType = true else zeroT e.fType) ∧
  (if e.fKind = 4 ∨ e.fKind = 6 then True else if e.fKind = 5 then 1 ≤ e.fArgs.length else if e.fKind = 7 ∨ e.fKind = 11 ∨ e.fKind = 12 then e.fArgs.length = 1 else if e.fKind = 8 ∨ e.fKind = 10 then e.fArgs.length = 2 else if e.fKind = 9 then e.fArgs.length = 3 else e.fArgs.length = 0) ∧
  (e.fKind = 7 ↔ 0 < e.fArms.length)
mutual
noncomputable def exprOk : MExpr → Bool
  | .mk k t n m ty a b => dec (fieldsP (.mk k t n m ty a b)) && (exprsOk a && armsOk b)
noncomputable def exprsOk : List MExpr → Bool
  | [] => true
  | x :: xs => exprOk x && exprsOk xs
noncomputable def armOk : MArm → Bool
  | .mk c v b => validName c && (namesOk v && exprOk b)
noncomputable def armsOk : List MArm → Bool
  | [] => true
  | x :: xs => armOk x && armsOk xs
end
end Go.Ab
namespace Go.Ab
/-- What is to be proved once for several ways. -/
structure Hold (p : Prop) : Prop where
  out : p
end Go.Ab

namespace Go.Ab
end Go.Ab
namespace Go.Proofs.YtokcpelkieeddaaGreat
open Go Go.Ab
theorem indexByteString_x (l : List UInt8) (b : UInt8) : XCall Tryz.prog 258 [.c (.d (.s l)), .c (.d (.i .u8 b.toNat))] (.c (.d (.i .i64 (firstIdx ⟨l.toArray⟩ b)))) := by
  refine ⟨_, Extern.BytealgIndexByte.indexByte, Tryz.func258, by kernel_rfl, by kernel_rfl, by kernel_rfl, by kernel_rfl, fun w σ S β vs hS hv => ?_⟩
  obtain ⟨hl, h⟩ := hv
  obtain ⟨v0, e0, h0, _⟩ := h 0 _ rfl
  obtain ⟨v1, e1, h1, _⟩ := h 1 _ rfl
  cases h0
  cases h1
  have hvs : vs = [.string ⟨l.toArray⟩, .int .u8 b.toNat] := by
    match vs, hl, e0, e1 with
    | [x, y], _, e0, e1 => simp at e0 e1; rw [e0, e1]
  subst hvs
  refine ⟨_, run_indexByte_string _ _ w, ?_, rfl⟩
  have hb : (b.toNat : Int).toNat.toUInt8 = b := by simp
  rw [hb]
  exact .i _ _
theorem indexByte_ok (l : List UInt8) (b : UInt8) : PCall Tryz.prog 255 [.c (.d (.s l)), .c (.d (.i .u8 b.toNat))] (.c (.d (.i .i64 (firstIdx ⟨l.toArray⟩ b)))) := fun S => by
  refine acall_cw (rs := [.tmp 4]) Tryz.checked.mixed Tryz.func255 Tryz.ntmps255 rfl rfl rfl rfl rfl ?_
  simp -implicitDefEqProofs (disch := omega) only [go_sem]
  refine call_x (indexByteString_x l b) ?_
  simp -implicitDefEqProofs (disch := omega) only [go_sem]
end Go.Proofs.YtokcpelkieeddaaGreat

namespace Go.Ab
theorem atoms_idx (b : UInt8) : decide (firstIdx ⟨[39, 45, 43, 42, 60, 61, 46].toArray⟩ b ≥ 0) = decide (b ∈ ([39, 45, 43, 42, 60, 61, 46] : List UInt8)) := by
  have h : ∀ n : Nat, n < 256 → decide (firstIdx ⟨[39, 45, 43, 42, 60, 61, 46].toArray⟩ (UInt8.ofNat n) ≥ 0) = decide (UInt8.ofNat n ∈ ([39, 45, 43, 42, 60, 61, 46] : List UInt8)) := by decide +kernel
  have h1 := h b.toNat (UInt8.toNat_lt b)
  rwa [UInt8.ofNat_toNat] at h1
theorem atom_mem (b : UInt8) : b ∈ ([39, 45, 43, 42, 60, 61, 46] : List UInt8) ↔ (b.toNat = 39 ∨ b.toNat = 45 ∨ b.toNat = 43 ∨ b.toNat = 42 ∨ b.toNat = 60 ∨ b.toNat = 61 ∨ b.toNat = 46) := by
  have h : ∀ n : Nat, n < 256 → (UInt8.ofNat n ∈ ([39, 45, 43, 42, 60, 61, 46] : List UInt8) ↔ (n = 39 ∨ n = 45 ∨ n = 43 ∨ n = 42 ∨ n = 60 ∨ n = 61 ∨ n = 46)) := by decide +kernel
  have h1 := h b.toNat (UInt8.toNat_lt b)
  rwa [UInt8.ofNat_toNat] at h1
theorem atomByte_iff (b : UInt8) : atomByte b = true ↔ (97 ≤ b.toNat ∧ b.toNat ≤ 122) ∨ (48 ≤ b.toNat ∧ b.toNat ≤ 57) ∨ b.toNat = 39 ∨ b.toNat = 45 ∨ b.toNat = 43 ∨ b.toNat = 42 ∨ b.toNat = 60 ∨ b.toNat = 61 ∨ b.toNat = 46 := by
  unfold atomByte
  rw [Bool.or_eq_true, Bool.or_eq_true, decide_eq_true_eq, decide_eq_true_eq, decide_eq_true_eq, atom_mem, or_assoc]
theorem all_false {s : List UInt8} {i : Nat} (hi : i < s.length) (h : atomByte s[i] = false) : s.all atomByte = false := by
  rw [List.all_eq_false]
  exact ⟨s[i], List.getElem_mem hi, by simp [h]⟩
theorem all_true {s : List UInt8} (h : ∀ j (hj : j < s.length), atomByte s[j] = true) : s.all atomByte = true := by
  rw [List.all_eq_true]
  intro b hb
  obtain ⟨j, hj, e⟩ := List.getElem_of_mem hb
  rw [← e]; exact h j hj
theorem arg_szX {x : MSExpr} {i : Nat} (hi : i < x.fList.length) (h : x.sz ≤ 67108864) : x.fList[i].sz ≤ 67108864 ∧ x.fList.length ≤ 67108864 ∧ x.fAtom.length ≤ 67108864 := by
  have := szX_mem (List.getElem_mem hi)
  rw [sx_sz, szX_rows] at h
  omega
theorem sx_szX {x : MSExpr} (h : x.sz ≤ 67108864) : x.fList.length ≤ 67108864 ∧ x.fAtom.length ≤ 67108864 := by
  rw [sx_sz, szX_rows] at h
  omega
theorem formXs_drop {l : List MSExpr} {i : Nat} (hi : i < l.length) : formXs (l.drop i) = (formX l[i] && formXs (l.drop (i + 1))) := by rw [List.drop_eq_getElem_cons hi, formXs]
theorem depthXs_drop {l : List MSExpr} {i : Nat} (hi : i < l.length) : depthXs (l.drop i) = max (depthX l[i]) (depthXs (l.drop (i + 1))) := by rw [List.drop_eq_getElem_cons hi, depthXs]
theorem nodeXs_drop {l : List MSExpr} {i : Nat} (hi : i < l.length) : nodeXs (l.drop i) = nodeX l[i] + nodeXs (l.drop (i + 1)) := by rw [List.drop_eq_getElem_cons hi, nodeXs]
theorem node_lim {x : MSExpr} (h : x.sz ≤ 67108864) : nodeX x ≤ 67108865 := by have := nodeX_sz x; omega
theorem MSExpr.lt_fl {x : MSExpr} {i : Nat} (hi : i < x.fList.length) : SizeOf.sizeOf x.fList[i] < SizeOf.sizeOf x := by
  have := List.sizeOf_lt_of_mem (List.getElem_mem hi)
  have := MSExpr.lt_List x
  omega
end Go.Ab
namespace Go.Proofs.YtokcpelkieeddaaGreat
open Go Go.Ab
theorem strIndexByte_ok (l : List UInt8) (b : UInt8) : PCall Tryz.prog 240 [.c (.d (.s l)), .c (.d (.i .u8 b.toNat))] (.c (.d (.i .i64 (firstIdx ⟨l.toArray⟩ b)))) := fun S => by
  refine acall_cw (rs := [.tmp 4]) Tryz.checked.mixed Tryz.func240 Tryz.ntmps240 rfl rfl rfl rfl rfl ?_
  simp -implicitDefEqProofs (disch := omega) only [go_sem]
  refine call_w (indexByte_ok l b) ?_
  simp -implicitDefEqProofs (disch := omega) only [go_sem] <;> (repeat (with_reducible refine And.intro ?_ ?_; focus first | omega | rfl | assumption | exact ⟨_, rfl, rfl⟩ | (simp; omega) | (simp; done)))
theorem isAtomByte_ok (b : UInt8) : PCall Tryz.prog 219 [.c (.d (.i .u8 b.toNat))] (.c (.d (.b (atomByte b)))) := fun S => by
  refine acall_cw (rs := [.tmp 2]) Tryz.checked.mixed Tryz.func219 Tryz.ntmps219 rfl rfl rfl rfl rfl ?_
  simp -implicitDefEqProofs (disch := omega) only [go_sem]
  refine call_w (isLower_ok b) ?_
  simp -implicitDefEqProofs (disch := omega) only [go_sem] <;> (repeat (with_reducible refine And.intro ?_ ?_; focus first | omega | rfl | assumption | exact ⟨_, rfl, rfl⟩ | (simp; omega) | (simp; done)))
  with_reducible refine split2 (fun hb => ?_) (fun hb => ?_) <;> have h := hb <;> (try simp only [wf_preprocess] at h) <;> simp -implicitDefEqProofs (disch := omega) only [go_sem, hb] <;> (repeat (with_reducible refine And.intro ?_ ?_; focus first | omega | rfl | assumption | exact ⟨_, rfl, rfl⟩ | (simp; omega) | (simp; done)))
  · exact bool_eq ((atomByte_iff b).2 (.inl h)).symm
  have h1 := h
  refine call_w (isDigit_ok b) ?_
  simp -implicitDefEqProofs (disch := omega) only [go_sem] <;> (repeat (with_reducible refine And.intro ?_ ?_; focus first | omega | rfl | assumption | exact ⟨_, rfl, rfl⟩ | (simp; omega) | (simp; done)))
  with_reducible refine split2 (fun hb => ?_) (fun hb => ?_) <;> have h := hb <;> (try simp only [wf_preprocess] at h) <;> simp -implicitDefEqProofs (disch := omega) only [go_sem, hb] <;> (repeat (with_reducible refine And.intro ?_ ?_; focus first | omega | rfl | assumption | exact ⟨_, rfl, rfl⟩ | (simp; omega) | (simp; done)))
  · exact bool_eq ((atomByte_iff b).2 (.inr (.inl h))).symm
  have h2 := h
  refine call_w (strIndexByte_ok [39, 45, 43, 42, 60, 61, 46] b) ?_
  simp -implicitDefEqProofs (disch := omega) only [go_sem] <;> (repeat (with_reducible refine And.intro ?_ ?_; focus first | omega | rfl | assumption | exact ⟨_, rfl, rfl⟩ | (simp; omega) | (simp; done)))
  refine bool_eq ?_
  rw [atoms_idx]
  unfold atomByte
  unfold lowerB at h1
  unfold digitB at h2
  simp [h1, h2]
theorem implAtomOk (s : List UInt8) (hs : s.length ≤ 1073741824) : PCall Tryz.prog 194 [.c (.d (.s s))] (.c (.d (.b (validAtom s)))) := fun S => by
  refine acall_cw (rs := [.tmp 2]) Tryz.checked.mixed Tryz.func194 Tryz.ntmps194 rfl rfl rfl rfl rfl ?_
  simp -implicitDefEqProofs (disch := omega) only [go_sem]
  refine loop_at (ι := Nat) Tryz.checked.mixed rfl [0, 5, 6] (fun i => [.c (.d (.s s)), .c (.d (.i .i64 s.length)), .c (.d (.i .i64 i))]) (fun _ => [] :: S)
    (fun i => i ≤ s.length ∧ ∀ j, ∀ hj : j < s.length, j < i → atomByte s[j] = true) (fun i => s.length - i) 0 rfl rfl ⟨Nat.zero_le _, fun j _ h => by omega⟩ ?_
  rintro i ⟨p1, p2⟩
  simp -implicitDefEqProofs (disch := omega) only [go_sem]
  with_reducible refine split2 (fun hb => ?_) (fun hb => ?_) <;> have h := hb <;> (try simp only [wf_preprocess] at h) <;> simp -implicitDefEqProofs (disch := omega) only [go_sem, hb] <;> (repeat (with_reducible refine And.intro ?_ ?_; focus first | omega | rfl | assumption | exact ⟨_, rfl, rfl⟩ | (simp; omega) | (simp; done)))
  · have hi : i < s.length := by omega
    have e : s.getD i 0 = s[i] := by simp [List.getD, hi]
    (repeat (with_reducible refine And.intro ?_ ?_; focus first | omega | rfl | assumption | exact ⟨_, rfl, rfl⟩ | (simp; omega) | (simp; done)))
    rw [e]
    refine call_w (isAtomByte_ok s[i]) ?_
    simp -implicitDefEqProofs (disch := omega) only [go_sem] <;> (repeat (with_reducible refine And.intro ?_ ?_; focus first | omega | rfl | assumption | exact ⟨_, rfl, rfl⟩ | (simp; omega) | (simp; done)))
    with_reducible refine split2 (fun hb => ?_) (fun hb => ?_) <;> have h := hb <;> (try simp only [wf_preprocess] at h) <;> simp -implicitDefEqProofs (disch := omega) only [go_sem, hb] <;> (repeat (with_reducible refine And.intro ?_ ?_; focus first | omega | rfl | assumption | exact ⟨_, rfl, rfl⟩ | (simp; omega) | (simp; done)))
    · exact bool_eq (by unfold validAtom; rw [all_false hi h]; rfl)
    · refine inv_at (i + 1) (by omega) rfl rfl ⟨by omega, fun j hj hji => ?_⟩
      by_cases e' : j = i
      · subst e'; exact h
      · exact p2 j hj (by omega)
  · have ha := all_true (s := s) (fun j hj => p2 j hj (by omega))
    with_reducible refine split2 (fun hb => ?_) (fun hb => ?_) <;> have h := hb <;> (try simp only [wf_preprocess] at h) <;> simp -implicitDefEqProofs (disch := omega) only [go_sem, hb] <;> (repeat (with_reducible refine And.intro ?_ ?_; focus first | omega | rfl | assumption | exact ⟨_, rfl, rfl⟩ | (simp; omega) | (simp; done)))
    · refine bool_eq ?_
      unfold validAtom
      rw [ha, Bool.true_and]
      exact decide_eq_decide.2 (by omega)
    · refine bool_eq ?_
      unfold validAtom
      rw [ha, Bool.true_and]
      exact (decide_eq_false (by omega)).symm
theorem l2Byte_ok (b : UInt8) : PCall Tryz.prog 197 [.c (.d (.i .u8 b.toNat))] (.c (.d (.b (atomByte b)))) := fun S => by
  have yes : ((97 ≤ b.toNat ∧ b.toNat ≤ 122) ∨ (48 ≤ b.toNat ∧ b.toNat ≤ 57) ∨ b.toNat = 39 ∨ b.toNat = 45 ∨ b.toNat = 43 ∨ b.toNat = 42 ∨ b.toNat = 60 ∨ b.toNat = 61 ∨ b.toNat = 46) → atomByte b = true := (atomByte_iff b).2
  have no : ¬ ((97 ≤ b.toNat ∧ b.toNat ≤ 122) ∨ (48 ≤ b.toNat ∧ b.toNat ≤ 57) ∨ b.toNat = 39 ∨ b.toNat = 45 ∨ b.toNat = 43 ∨ b.toNat = 42 ∨ b.toNat = 60 ∨ b.toNat = 61 ∨ b.toNat = 46) → atomByte b = false := fun h => by
    cases hb : atomByte b with
    | false => rfl
    | true => exact absurd ((atomByte_iff b).1 hb) h
  refine acall_cw (rs := [.tmp 2]) Tryz.checked.mixed Tryz.func197 Tryz.ntmps197 rfl rfl rfl rfl rfl ?_
  simp -implicitDefEqProofs (disch := omega) only [go_sem]
  repeat' (first | (with_reducible refine split2 (fun hb => ?_) (fun hb => ?_) <;> have h := hb <;> (try simp only [wf_preprocess] at h) <;> simp -implicitDefEqProofs (disch := omega) only [go_sem, hb] <;> (repeat (with_reducible refine And.intro ?_ ?_; focus first | omega | rfl | assumption | exact ⟨_, rfl, rfl⟩ | (simp; omega) | (simp; done)))))
  all_goals first
    | exact bool_eq (yes (by omega)).symm
    | exact bool_eq (no (by omega)).symm
    | (refine bool_eq ?_; cases hb : atomByte b <;> simp only [decide_eq_true_eq, decide_eq_false_iff_not] <;> (first | (have := (atomByte_iff b).1 hb; omega) | (intro q; have := yes (by omega); rw [hb] at this; cases this)))
theorem specAtomOk (s : List UInt8) (hs : s.length ≤ 1073741824) : PCall Tryz.prog 162 [.c (.d (.s s))] (.c (.d (.b (validAtom s)))) := fun S => by
  refine acall_cw (rs := [.tmp 2]) Tryz.checked.mixed Tryz.func162 Tryz.ntmps162 rfl rfl rfl rfl rfl ?_
  simp -implicitDefEqProofs (disch := omega) only [go_sem]
  refine loop_at (ι := Nat) Tryz.checked.mixed rfl [0, 3] (fun i => [.c (.d (.s s)), .c (.d (.i .i64 i))]) (fun _ => [] :: S)
    (fun i => i ≤ s.length ∧ ∀ j, ∀ hj : j < s.length, j < i → atomByte s[j] = true) (fun i => s.length - i) 0 rfl rfl ⟨Nat.zero_le _, fun j _ h => by omega⟩ ?_
  rintro i ⟨p1, p2⟩
  simp -implicitDefEqProofs (disch := omega) only [go_sem]
  with_reducible refine split2 (fun hb => ?_) (fun hb => ?_) <;> have h := hb <;> (try simp only [wf_preprocess] at h) <;> simp -implicitDefEqProofs (disch := omega) only [go_sem, hb] <;> (repeat (with_reducible refine And.intro ?_ ?_; focus first | omega | rfl | assumption | exact ⟨_, rfl, rfl⟩ | (simp; omega) | (simp; done)))
  · have hi : i < s.length := by omega
    have e : s.getD i 0 = s[i] := by simp [List.getD, hi]
    (repeat (with_reducible refine And.intro ?_ ?_; focus first | omega | rfl | assumption | exact ⟨_, rfl, rfl⟩ | (simp; omega) | (simp; done)))
    rw [e]
    refine call_w (l2Byte_ok s[i]) ?_
    simp -implicitDefEqProofs (disch := omega) only [go_sem] <;> (repeat (with_reducible refine And.intro ?_ ?_; focus first | omega | rfl | assumption | exact ⟨_, rfl, rfl⟩ | (simp; omega) | (simp; done)))
    with_reducible refine split2 (fun hb => ?_) (fun hb => ?_) <;> have h := hb <;> (try simp only [wf_preprocess] at h) <;> simp -implicitDefEqProofs (disch := omega) only [go_sem, hb] <;> (repeat (with_reducible refine And.intro ?_ ?_; focus first | omega | rfl | assumption | exact ⟨_, rfl, rfl⟩ | (simp; omega) | (simp; done)))
    · exact bool_eq (by unfold validAtom; rw [all_false hi h]; rfl)
    · refine inv_at (i + 1) (by omega) rfl rfl ⟨by omega, fun j hj hji => ?_⟩
      by_cases e' : j = i
      · subst e'; exact h
      · exact p2 j hj (by omega)
  · have ha := all_true (s := s) (fun j hj => p2 j hj (by omega))
    refine call_w (l1In_ok s.length 1 12) ?_
    simp -implicitDefEqProofs (disch := omega) only [go_sem] <;> (repeat (with_reducible refine And.intro ?_ ?_; focus first | omega | rfl | assumption | exact ⟨_, rfl, rfl⟩ | (simp; omega) | (simp; done)))
    refine bool_eq ?_
    unfold validAtom
    rw [ha, Bool.true_and, ← decide_dec]
    exact decide_eq_decide.2 (by omega)
theorem areAtoms_all : ∀ n : Nat, (∀ x : MSExpr, SizeOf.sizeOf x < n → x.sz ≤ 67108864 → PCall Tryz.prog 155 [x.v] (.c (.d (.b (formX x))))) ∧
    (∀ xs : List MSExpr, SizeOf.sizeOf xs < n → xs.length ≤ 67108864 → (∀ t ∈ xs, t.sz ≤ 67108864) → PCall Tryz.prog 195 [.c (.d (.sl (xs.map MSExpr.enc))), .c (.fn 196 [])] (.c (.d (.b (!formXs xs)))))
  | 0 => ⟨fun x h => by omega, fun x h => by omega⟩
  | n + 1 => by
    obtain ⟨ih, ihS⟩ := areAtoms_all n
    refine ⟨fun x hn hsz S => ?_, fun xs hn hlen hsz S => ?_⟩
    · have lArgs := MSExpr.lt_List x
      have hts := sx_szX hsz
      have hall : ∀ t ∈ x.fList, t.sz ≤ 67108864 := fun t ht => by
        obtain ⟨i, hi, e⟩ := List.getElem_of_mem ht
        rw [← e]; exact (arg_szX hi hsz).1
      have tail := ihS x.fList (by omega) hts.1 hall
      have hf := formX_eq x
      refine acall_cw (rs := [.tmp 2]) Tryz.checked.mixed Tryz.func155 Tryz.ntmps155 rfl rfl rfl rfl rfl ?_
      simp -implicitDefEqProofs (disch := omega) only [go_sem]
      with_reducible refine split2 (fun hb => ?_) (fun hb => ?_) <;> have h := hb <;> (try simp only [wf_preprocess] at h) <;> simp -implicitDefEqProofs (disch := omega) only [go_sem, hb] <;> (repeat (with_reducible refine And.intro ?_ ?_; focus first | omega | rfl | assumption | exact ⟨_, rfl, rfl⟩ | (simp; omega) | (simp; done)))
      · rw [if_neg h] at hf
        refine call_w (implAtomOk x.fAtom (by omega)) ?_
        simp -implicitDefEqProofs (disch := omega) only [go_sem] <;> (repeat (with_reducible refine And.intro ?_ ?_; focus first | omega | rfl | assumption | exact ⟨_, rfl, rfl⟩ | (simp; omega) | (simp; done)))
        with_reducible refine split2 (fun hb => ?_) (fun hb => ?_) <;> have h := hb <;> (try simp only [wf_preprocess] at h) <;> simp -implicitDefEqProofs (disch := omega) only [go_sem, hb] <;> (repeat (with_reducible refine And.intro ?_ ?_; focus first | omega | rfl | assumption | exact ⟨_, rfl, rfl⟩ | (simp; omega) | (simp; done)))
        · rw [hf, h, Bool.true_and]
          exact bool_eq (decide_eq_decide.2 (by omega))
        · rw [hf, h, Bool.false_and]
      · rw [if_pos h] at hf
        refine call_w tail ?_
        simp -implicitDefEqProofs (disch := omega) only [go_sem]
        rw [hf, Bool.not_not]
    · have hcl : ∀ y ∈ xs, PCall Tryz.prog 196 [y.v] (.c (.d (.b (!formX y)))) := fun y hy S => by
        have hys := List.sizeOf_lt_of_mem hy
        refine acall_cw (rs := [.tmp 2]) Tryz.checked.mixed Tryz.func196 Tryz.ntmps196 rfl rfl rfl rfl rfl ?_
        simp -implicitDefEqProofs (disch := omega) only [go_sem]
        refine call_w (ih y (by omega) (hsz y hy)) ?_
        simp -implicitDefEqProofs (disch := omega) only [go_sem] <;> (repeat (with_reducible refine And.intro ?_ ?_; focus first | omega | rfl | assumption | exact ⟨_, rfl, rfl⟩ | (simp; omega) | (simp; done)))
      have hidx : PCall Tryz.prog 220 [.c (.d (.sl (xs.map MSExpr.enc))), .c (.fn 196 [])] (.c (.d (.i .i64 (indexP (fun y => !formX y) xs)))) := fun S => by
        refine acall_cw (rs := [.tmp 4]) Tryz.checked.mixed Tryz.func220 Tryz.ntmps220 rfl rfl rfl rfl rfl ?_
        simp -implicitDefEqProofs (disch := omega) only [go_sem]
        refine loop_at (ι := Nat) Tryz.checked.mixed rfl [0, 1, 7, 8] (fun i => [.c (.d (.sl (xs.map MSExpr.enc))), .c (.fn 196 []), .c (.d (.i .i64 xs.length)), .c (.d (.i .i64 i))]) (fun _ => [] :: S)
          (fun i => i ≤ xs.length ∧ ∀ j, ∀ hj : j < xs.length, j < i → formX xs[j] = true) (fun i => xs.length - i) 0 rfl rfl ⟨Nat.zero_le _, fun j _ h => by omega⟩ ?_
        rintro i ⟨p1, p2⟩
        simp -implicitDefEqProofs (disch := omega) only [go_sem]
        with_reducible refine split2 (fun hb => ?_) (fun hb => ?_) <;> have h := hb <;> (try simp only [wf_preprocess] at h) <;> simp -implicitDefEqProofs (disch := omega) only [go_sem, hb] <;> (repeat (with_reducible refine And.intro ?_ ?_; focus first | omega | rfl | assumption | exact ⟨_, rfl, rfl⟩ | (simp; omega) | (simp; done)))
        · have hi : i < xs.length := by omega
          (repeat (with_reducible refine And.intro ?_ ?_; focus first | omega | rfl | assumption | exact ⟨_, rfl, rfl⟩ | (simp; omega) | (simp; done)))
          refine call_w (hcl xs[i] (List.getElem_mem hi)) ?_
          simp -implicitDefEqProofs (disch := omega) only [go_sem] <;> (repeat (with_reducible refine And.intro ?_ ?_; focus first | omega | rfl | assumption | exact ⟨_, rfl, rfl⟩ | (simp; omega) | (simp; done)))
          with_reducible refine split2 (fun hb => ?_) (fun hb => ?_) <;> have h := hb <;> (try simp only [wf_preprocess] at h) <;> simp -implicitDefEqProofs (disch := omega) only [go_sem, hb] <;> (repeat (with_reducible refine And.intro ?_ ?_; focus first | omega | rfl | assumption | exact ⟨_, rfl, rfl⟩ | (simp; omega) | (simp; done)))
          · rw [indexP_here hi (fun j hj hji => by rw [p2 j hj hji]; rfl) (by rw [h]; rfl)]
          · refine inv_at (i + 1) (by omega) rfl rfl ⟨by omega, fun j hj hji => ?_⟩
            by_cases e : j = i
            · subst e; exact h
            · exact p2 j hj (by omega)
        · rw [indexP_no (fun j hj => by rw [p2 j hj (by omega)]; rfl)]
      refine acall_cw (rs := [.tmp 4]) Tryz.checked.mixed Tryz.func195 Tryz.ntmps195 rfl rfl rfl rfl rfl ?_
      simp -implicitDefEqProofs (disch := omega) only [go_sem]
      refine call_w (hidx) ?_
      simp -implicitDefEqProofs (disch := omega) only [go_sem] <;> (repeat (with_reducible refine And.intro ?_ ?_; focus first | omega | rfl | assumption | exact ⟨_, rfl, rfl⟩ | (simp; omega) | (simp; done)))
      rw [← formXs_any]
      exact bool_eq indexP_pos
theorem areAtoms_ok (x : MSExpr) (hsz : x.sz ≤ 67108864) : PCall Tryz.prog 155 [x.v] (.c (.d (.b (formX x)))) := (areAtoms_all _).1 x (Nat.lt_succ_self _) hsz
theorem implDepthX_all : ∀ n : Nat, ∀ x : MSExpr, SizeOf.sizeOf x < n → x.sz ≤ 67108864 → PCall Tryz.prog 156 [x.v] (.c (.d (.i .i64 (depthX x))))
  | 0 => fun x h => by omega
  | n + 1 => by
    have ih := implDepthX_all n
    intro x hn hsz S
    have hts := sx_szX hsz
    have hd := depthX_eq x
    have hd1 := depthX_node x
    have hd2 := node_lim hsz
    refine acall_cw (rs := [.tmp 2]) Tryz.checked.mixed Tryz.func156 Tryz.ntmps156 rfl rfl rfl rfl rfl ?_
    simp -implicitDefEqProofs (disch := omega) only [go_sem]
    with_reducible refine split2 (fun hb => ?_) (fun hb => ?_) <;> have h := hb <;> (try simp only [wf_preprocess] at h) <;> simp -implicitDefEqProofs (disch := omega) only [go_sem, hb] <;> (repeat (with_reducible refine And.intro ?_ ?_; focus first | omega | rfl | assumption | exact ⟨_, rfl, rfl⟩ | (simp; omega) | (simp; done)))
    · rw [if_neg h] at hd
      rw [hd]; rfl
    rw [if_pos h] at hd
    refine loop_at (ι := Nat × Nat) Tryz.checked.mixed rfl [3, 10, 11, 12] (fun y => [.c (.d (.i .i64 y.2)), .c (.d (.sl (x.fList.map MSExpr.enc))), .c (.d (.i .i64 x.fList.length)), .c (.d (.i .i64 y.1))]) (fun y => [.box [.d (.s x.fAtom), .d (.sl (x.fList.map MSExpr.enc))]] :: S)
      (fun y => y.1 ≤ x.fList.length ∧ depthX x = max y.2 (depthXs (x.fList.drop y.1)) + 1) (fun y => x.fList.length - y.1) (0, 0) rfl rfl ⟨Nat.zero_le _, by simp [hd]⟩ ?_
    rintro ⟨i, c⟩ ⟨p1, p2⟩
    simp only at p1 p2
    simp -implicitDefEqProofs (disch := omega) only [go_sem]
    with_reducible refine split2 (fun hb => ?_) (fun hb => ?_) <;> have h := hb <;> (try simp only [wf_preprocess] at h) <;> simp -implicitDefEqProofs (disch := omega) only [go_sem, hb] <;> (repeat (with_reducible refine And.intro ?_ ?_; focus first | omega | rfl | assumption | exact ⟨_, rfl, rfl⟩ | (simp; omega) | (simp; done)))
    · have hi : i < x.fList.length := by omega
      have hsz' := arg_szX hi hsz
      rw [depthXs_drop hi] at p2
      (repeat (with_reducible refine And.intro ?_ ?_; focus first | omega | rfl | assumption | exact ⟨_, rfl, rfl⟩ | (simp; omega) | (simp; done)))
      refine call_w (ih x.fList[i] (by have := MSExpr.lt_fl hi; omega) (by omega)) ?_
      simp -implicitDefEqProofs (disch := omega) only [go_sem] <;> (repeat (with_reducible refine And.intro ?_ ?_; focus first | omega | rfl | assumption | exact ⟨_, rfl, rfl⟩ | (simp; omega) | (simp; done)))
      rw [show max (c : Int) ((depthX x.fList[i] : Int)) = ((max c (depthX x.fList[i]) : Nat) : Int) by omega]
      exact inv_drop 1 (by decide) (i + 1, max c (depthX x.fList[i])) (by simp only; omega) rfl rfl rfl rfl ⟨by simp only; omega, by simp only; omega⟩
    · have hi : i = x.fList.length := by omega
      rw [hi, List.drop_length, depthXs] at p2
      (repeat (with_reducible refine And.intro ?_ ?_; focus first | omega | rfl | assumption | exact ⟨_, rfl, rfl⟩ | (simp; omega) | (simp; done)))
      exact int_eq (by omega)
theorem implDepthX_ok (x : MSExpr) (hsz : x.sz ≤ 67108864) : PCall Tryz.prog 156 [x.v] (.c (.d (.i .i64 (depthX x)))) := implDepthX_all _ x (Nat.lt_succ_self _) hsz
theorem implNodeX_all : ∀ n : Nat, ∀ x : MSExpr, SizeOf.sizeOf x < n → x.sz ≤ 67108864 → PCall Tryz.prog 157 [x.v] (.c (.d (.i .i64 (nodeX x))))
  | 0 => fun x h => by omega
  | n + 1 => by
    have ih := implNodeX_all n
    intro x hn hsz S
    have hts := sx_szX hsz
    have hd2 := node_lim hsz
    refine acall_cw (rs := [.tmp 2]) Tryz.checked.mixed Tryz.func157 Tryz.ntmps157 rfl rfl rfl rfl rfl ?_
    simp -implicitDefEqProofs (disch := omega) only [go_sem]
    refine loop_at (ι := Nat × Nat) Tryz.checked.mixed rfl [3, 7, 8, 9] (fun y => [.c (.d (.i .i64 y.2)), .c (.d (.sl (x.fList.map MSExpr.enc))), .c (.d (.i .i64 x.fList.length)), .c (.d (.i .i64 y.1))]) (fun y => [.box [.d (.s x.fAtom), .d (.sl (x.fList.map MSExpr.enc))]] :: S)
      (fun y => y.1 ≤ x.fList.length ∧ nodeX x = y.2 + nodeXs (x.fList.drop y.1)) (fun y => x.fList.length - y.1) (0, 1) rfl rfl ⟨Nat.zero_le _, by simp [nodeX_eq]; omega⟩ ?_
    rintro ⟨i, c⟩ ⟨p1, p2⟩
    simp only at p1 p2
    simp -implicitDefEqProofs (disch := omega) only [go_sem]
    with_reducible refine split2 (fun hb => ?_) (fun hb => ?_) <;> have h := hb <;> (try simp only [wf_preprocess] at h) <;> simp -implicitDefEqProofs (disch := omega) only [go_sem, hb] <;> (repeat (with_reducible refine And.intro ?_ ?_; focus first | omega | rfl | assumption | exact ⟨_, rfl, rfl⟩ | (simp; omega) | (simp; done)))
    · have hi : i < x.fList.length := by omega
      have hsz' := arg_szX hi hsz
      rw [nodeXs_drop hi] at p2
      (repeat (with_reducible refine And.intro ?_ ?_; focus first | omega | rfl | assumption | exact ⟨_, rfl, rfl⟩ | (simp; omega) | (simp; done)))
      refine call_w (ih x.fList[i] (by have := MSExpr.lt_fl hi; omega) (by omega)) ?_
      simp -implicitDefEqProofs (disch := omega) only [go_sem] <;> (repeat (with_reducible refine And.intro ?_ ?_; focus first | omega | rfl | assumption | exact ⟨_, rfl, rfl⟩ | (simp; omega) | (simp; done)))
      rw [show (c : Int) + (nodeX x.fList[i] : Int) = ((c + nodeX x.fList[i] : Nat) : Int) by omega]
      exact inv_drop 1 (by decide) (i + 1, c + nodeX x.fList[i]) (by simp only; omega) rfl rfl rfl rfl ⟨by simp only; omega, by simp only; omega⟩
    · have hi : i = x.fList.length := by omega
      rw [hi, List.drop_length, nodeXs] at p2
      exact int_eq (by omega)
theorem implNodeX_ok (x : MSExpr) (hsz : x.sz ≤ 67108864) : PCall Tryz.prog 157 [x.v] (.c (.d (.i .i64 (nodeX x)))) := implNodeX_all _ x (Nat.lt_succ_self _) hsz
theorem implValidX_ok (x : MSExpr) (hsz : x.sz ≤ 67108864) : PCall Tryz.prog 98 [x.v] (.c (.d (.b (validX x)))) := fun S => by
  refine acall_cw (rs := [.tmp 2]) Tryz.checked.mixed Tryz.func98 Tryz.ntmps98 rfl rfl rfl rfl rfl ?_
  simp -implicitDefEqProofs (disch := omega) only [go_sem]
  refine call_w (areAtoms_ok x hsz) ?_
  simp -implicitDefEqProofs (disch := omega) only [go_sem] <;> (repeat (with_reducible refine And.intro ?_ ?_; focus first | omega | rfl | assumption | exact ⟨_, rfl, rfl⟩ | (simp; omega) | (simp; done)))
  with_reducible refine split2 (fun hb => ?_) (fun hb => ?_) <;> have h := hb <;> (try simp only [wf_preprocess] at h) <;> simp -implicitDefEqProofs (disch := omega) only [go_sem, hb] <;> (repeat (with_reducible refine And.intro ?_ ?_; focus first | omega | rfl | assumption | exact ⟨_, rfl, rfl⟩ | (simp; omega) | (simp; done)))
  · have hf := h
    refine call_w (implDepthX_ok x hsz) ?_
    simp -implicitDefEqProofs (disch := omega) only [go_sem] <;> (repeat (with_reducible refine And.intro ?_ ?_; focus first | omega | rfl | assumption | exact ⟨_, rfl, rfl⟩ | (simp; omega) | (simp; done)))
    with_reducible refine split2 (fun hb => ?_) (fun hb => ?_) <;> have h := hb <;> (try simp only [wf_preprocess] at h) <;> simp -implicitDefEqProofs (disch := omega) only [go_sem, hb] <;> (repeat (with_reducible refine And.intro ?_ ?_; focus first | omega | rfl | assumption | exact ⟨_, rfl, rfl⟩ | (simp; omega) | (simp; done)))
    · refine call_w (implNodeX_ok x hsz) ?_
      simp -implicitDefEqProofs (disch := omega) only [go_sem] <;> (repeat (with_reducible refine And.intro ?_ ?_; focus first | omega | rfl | assumption | exact ⟨_, rfl, rfl⟩ | (simp; omega) | (simp; done)))
      refine bool_eq ?_
      unfold validX
      rw [hf, Bool.true_and]
      exact decide_eq_decide.2 (by omega)
    · refine bool_eq ?_
      unfold validX
      rw [hf, Bool.true_and]
      exact (decide_eq_false (by omega)).symm
  · refine bool_eq ?_
    unfold validX
    rw [h, Bool.false_and]
theorem l2Left_all : ∀ n : Nat, ∀ x : MSExpr, SizeOf.sizeOf x < n → ∀ l : Int, 0 ≤ l → l ≤ 1073741824 → x.sz ≤ 67108864 → PCall Tryz.prog 109 [x.v, .c (.d (.i .i64 l))] (.c (.d (.i .i64 (sub1 l (nodeX x)))))
  | 0 => fun x h => by omega
  | n + 1 => by
    have ih := l2Left_all n
    intro x hn l h0 h1 hsz S
    have hts := sx_szX hsz
    have hcn := nodeX_eq x
    refine acall_cw (rs := [.tmp 4]) Tryz.checked.mixed Tryz.func109 Tryz.ntmps109 rfl rfl rfl rfl rfl ?_
    simp -implicitDefEqProofs (disch := omega) only [go_sem]
    refine loop_at (ι := Nat × Int) Tryz.checked.mixed rfl [1, 2, 5] (fun y => [.c (.d (.i .i64 y.2)), .c (.ptr (0, 0) 0), .c (.d (.i .i64 y.1))]) (fun y => [.box [.d (.s x.fAtom), .d (.sl (x.fList.map MSExpr.enc))]] :: S)
      (fun y => y.1 ≤ x.fList.length ∧ -1 ≤ y.2 ∧ y.2 ≤ 1073741824 ∧ (0 ≤ y.2 → sub1 l (nodeX x) = sub1 y.2 (nodeXs (x.fList.drop y.1))) ∧ (y.2 < 0 → sub1 l (nodeX x) = -1)) (fun y => x.fList.length - y.1) (0, l - 1) rfl rfl ⟨Nat.zero_le _, by simp only; omega, by simp only; omega, fun h => ?_, fun h => ?_⟩ ?_
    · simp only [List.drop_zero] at h ⊢
      unfold sub1
      rw [hcn]
      split <;> split <;> omega
    · simp only at h
      exact sub1_no (by omega)
    rintro ⟨i, c⟩ ⟨p1, p2, p3, p4, p5⟩
    simp only at p1 p2 p3 p4 p5
    simp -implicitDefEqProofs (disch := omega) only [go_sem]
    with_reducible refine split2 (fun hb => ?_) (fun hb => ?_) <;> have h := hb <;> (try simp only [wf_preprocess] at h) <;> simp -implicitDefEqProofs (disch := omega) only [go_sem, hb] <;> (repeat (with_reducible refine And.intro ?_ ?_; focus first | omega | rfl | assumption | exact ⟨_, rfl, rfl⟩ | (simp; omega) | (simp; done)))
    · have hi : i < x.fList.length := by omega
      with_reducible refine split2 (fun hb => ?_) (fun hb => ?_) <;> have h := hb <;> (try simp only [wf_preprocess] at h) <;> simp -implicitDefEqProofs (disch := omega) only [go_sem, hb] <;> (repeat (with_reducible refine And.intro ?_ ?_; focus first | omega | rfl | assumption | exact ⟨_, rfl, rfl⟩ | (simp; omega) | (simp; done)))
      · have hsz' := arg_szX hi hsz
        have p6 := p4 h
        rw [nodeXs_drop hi] at p6
        (repeat (with_reducible refine And.intro ?_ ?_; focus first | omega | rfl | assumption | exact ⟨_, rfl, rfl⟩ | (simp; omega) | (simp; done)))
        refine call_w (ih x.fList[i] (by have := MSExpr.lt_fl hi; omega) c (by omega) (by omega) (by omega)) ?_
        simp -implicitDefEqProofs (disch := omega) only [go_sem] <;> (repeat (with_reducible refine And.intro ?_ ?_; focus first | omega | rfl | assumption | exact ⟨_, rfl, rfl⟩ | (simp; omega) | (simp; done)))
        refine inv_at (i + 1, sub1 c _) (by simp only; omega) rfl rfl ⟨by simp only; omega, ?_, ?_, fun h => ?_, fun h => ?_⟩
        · simp only; unfold sub1; split <;> omega
        · simp only; unfold sub1; split <;> omega
        · simp only at h ⊢
          rw [p6]
          have := sub1_nn (l := c) (a := nodeX x.fList[i]) (by omega)
          rw [this.1]
          unfold sub1
          split <;> split <;> omega
        · simp only at h ⊢
          rw [p6]
          have := sub1_neg h
          exact sub1_no (by omega)
      · have hc : c = -1 := by omega
        rw [p5 (by omega), hc]
    · have hi : i = x.fList.length := by omega
      by_cases hc : 0 ≤ c
      · rw [p4 hc, hi, List.drop_length, nodeXs, sub1_yes (by omega)]
        exact int_eq (by simp)
      · rw [p5 (by omega)]
        exact int_eq (by omega)
theorem l2Left_ok (x : MSExpr) (l : Int) (h0 : 0 ≤ l) (h1 : l ≤ 1073741824) (hsz : x.sz ≤ 67108864) : PCall Tryz.prog 109 [x.v, .c (.d (.i .i64 l))] (.c (.d (.i .i64 (sub1 l (nodeX x))))) := l2Left_all _ x (Nat.lt_succ_self _) l h0 h1 hsz
theorem l2Form_all : ∀ n : Nat, ∀ x : MSExpr, SizeOf.sizeOf x < n → x.sz ≤ 67108864 → PCall Tryz.prog 110 [x.v] (.c (.d (.b (formX x))))
  | 0 => fun x h => by omega
  | n + 1 => by
    have ih := l2Form_all n
    intro x hn hsz S
    have hts := sx_szX hsz
    have hf := formX_eq x
    refine acall_cw (rs := [.tmp 2]) Tryz.checked.mixed Tryz.func110 Tryz.ntmps110 rfl rfl rfl rfl rfl ?_
    simp -implicitDefEqProofs (disch := omega) only [go_sem]
    with_reducible refine split2 (fun hb => ?_) (fun hb => ?_) <;> have h := hb <;> (try simp only [wf_preprocess] at h) <;> simp -implicitDefEqProofs (disch := omega) only [go_sem, hb] <;> (repeat (with_reducible refine And.intro ?_ ?_; focus first | omega | rfl | assumption | exact ⟨_, rfl, rfl⟩ | (simp; omega) | (simp; done)))
    · rw [if_neg h] at hf
      refine call_w (specAtomOk x.fAtom (by omega)) ?_
      simp -implicitDefEqProofs (disch := omega) only [go_sem] <;> (repeat (with_reducible refine And.intro ?_ ?_; focus first | omega | rfl | assumption | exact ⟨_, rfl, rfl⟩ | (simp; omega) | (simp; done)))
      with_reducible refine split2 (fun hb => ?_) (fun hb => ?_) <;> have h := hb <;> (try simp only [wf_preprocess] at h) <;> simp -implicitDefEqProofs (disch := omega) only [go_sem, hb] <;> (repeat (with_reducible refine And.intro ?_ ?_; focus first | omega | rfl | assumption | exact ⟨_, rfl, rfl⟩ | (simp; omega) | (simp; done)))
      · rw [hf, h, Bool.true_and]
        exact bool_eq (decide_eq_decide.2 (by omega))
      · rw [hf, h, Bool.false_and]
    rw [if_pos h] at hf
    refine loop_at (ι := Nat) Tryz.checked.mixed rfl [1, 3] (fun y => [.c (.ptr (0, 0) 0), .c (.d (.i .i64 y))]) (fun y => [.box [.d (.s x.fAtom), .d (.sl (x.fList.map MSExpr.enc))]] :: S)
      (fun y => y ≤ x.fList.length ∧ formX x = formXs (x.fList.drop y)) (fun y => x.fList.length - y) 0 rfl rfl ⟨Nat.zero_le _, hf⟩ ?_
    rintro i ⟨p1, p2⟩
    simp -implicitDefEqProofs (disch := omega) only [go_sem]
    with_reducible refine split2 (fun hb => ?_) (fun hb => ?_) <;> have h := hb <;> (try simp only [wf_preprocess] at h) <;> simp -implicitDefEqProofs (disch := omega) only [go_sem, hb] <;> (repeat (with_reducible refine And.intro ?_ ?_; focus first | omega | rfl | assumption | exact ⟨_, rfl, rfl⟩ | (simp; omega) | (simp; done)))
    · have hi : i < x.fList.length := by omega
      have hsz' := arg_szX hi hsz
      rw [formXs_drop hi] at p2
      (repeat (with_reducible refine And.intro ?_ ?_; focus first | omega | rfl | assumption | exact ⟨_, rfl, rfl⟩ | (simp; omega) | (simp; done)))
      refine call_w (ih x.fList[i] (by have := MSExpr.lt_fl hi; omega) (by omega)) ?_
      simp -implicitDefEqProofs (disch := omega) only [go_sem] <;> (repeat (with_reducible refine And.intro ?_ ?_; focus first | omega | rfl | assumption | exact ⟨_, rfl, rfl⟩ | (simp; omega) | (simp; done)))
      with_reducible refine split2 (fun hb => ?_) (fun hb => ?_) <;> have h := hb <;> (try simp only [wf_preprocess] at h) <;> simp -implicitDefEqProofs (disch := omega) only [go_sem, hb] <;> (repeat (with_reducible refine And.intro ?_ ?_; focus first | omega | rfl | assumption | exact ⟨_, rfl, rfl⟩ | (simp; omega) | (simp; done)))
      · rw [p2, h, Bool.false_and]
      · exact inv_at (i + 1) (by omega) rfl rfl ⟨by omega, by rw [p2, h, Bool.true_and]⟩
    · have hi : i = x.fList.length := by omega
      rw [hi, List.drop_length, formXs] at p2
      rw [p2]
theorem l2Form_ok (x : MSExpr) (hsz : x.sz ≤ 67108864) : PCall Tryz.prog 110 [x.v] (.c (.d (.b (formX x)))) := l2Form_all _ x (Nat.lt_succ_self _) hsz
theorem specDepthX_all : ∀ n : Nat, ∀ x : MSExpr, SizeOf.sizeOf x < n → x.sz ≤ 67108864 → PCall Tryz.prog 111 [x.v] (.c (.d (.i .i64 (depthX x))))
  | 0 => fun x h => by omega
  | n + 1 => by
    have ih := specDepthX_all n
    intro x hn hsz S
    have hts := sx_szX hsz
    have hd := depthX_eq x
    have hd1 := depthX_node x
    have hd2 := node_lim hsz
    refine acall_cw (rs := [.tmp 2]) Tryz.checked.mixed Tryz.func111 Tryz.ntmps111 rfl rfl rfl rfl rfl ?_
    simp -implicitDefEqProofs (disch := omega) only [go_sem]
    with_reducible refine split2 (fun hb => ?_) (fun hb => ?_) <;> have h := hb <;> (try simp only [wf_preprocess] at h) <;> simp -implicitDefEqProofs (disch := omega) only [go_sem, hb] <;> (repeat (with_reducible refine And.intro ?_ ?_; focus first | omega | rfl | assumption | exact ⟨_, rfl, rfl⟩ | (simp; omega) | (simp; done)))
    · rw [if_neg h] at hd
      rw [hd]; rfl
    rw [if_pos h] at hd
    refine loop_at (ι := Nat × Nat) Tryz.checked.mixed rfl [1, 3, 4] (fun y => [.c (.ptr (0, 0) 0), .c (.d (.i .i64 y.2)), .c (.d (.i .i64 y.1))]) (fun y => [.box [.d (.s x.fAtom), .d (.sl (x.fList.map MSExpr.enc))]] :: S)
      (fun y => y.1 ≤ x.fList.length ∧ depthX x = max y.2 (depthXs (x.fList.drop y.1)) + 1) (fun y => x.fList.length - y.1) (0, 0) rfl rfl ⟨Nat.zero_le _, by simp [hd]⟩ ?_
    rintro ⟨i, c⟩ ⟨p1, p2⟩
    simp only at p1 p2
    simp -implicitDefEqProofs (disch := omega) only [go_sem]
    with_reducible refine split2 (fun hb => ?_) (fun hb => ?_) <;> have h := hb <;> (try simp only [wf_preprocess] at h) <;> simp -implicitDefEqProofs (disch := omega) only [go_sem, hb] <;> (repeat (with_reducible refine And.intro ?_ ?_; focus first | omega | rfl | assumption | exact ⟨_, rfl, rfl⟩ | (simp; omega) | (simp; done)))
    · have hi : i < x.fList.length := by omega
      have hsz' := arg_szX hi hsz
      rw [depthXs_drop hi] at p2
      (repeat (with_reducible refine And.intro ?_ ?_; focus first | omega | rfl | assumption | exact ⟨_, rfl, rfl⟩ | (simp; omega) | (simp; done)))
      refine call_w (ih x.fList[i] (by have := MSExpr.lt_fl hi; omega) (by omega)) ?_
      simp -implicitDefEqProofs (disch := omega) only [go_sem] <;> (repeat (with_reducible refine And.intro ?_ ?_; focus first | omega | rfl | assumption | exact ⟨_, rfl, rfl⟩ | (simp; omega) | (simp; done)))
      refine call_w (l1Max_ok _ _) ?_
      simp -implicitDefEqProofs (disch := omega) only [go_sem] <;> (repeat (with_reducible refine And.intro ?_ ?_; focus first | omega | rfl | assumption | exact ⟨_, rfl, rfl⟩ | (simp; omega) | (simp; done)))
      rw [show max (c : Int) ((depthX x.fList[i] : Int)) = ((max c (depthX x.fList[i]) : Nat) : Int) by omega]
      exact inv_at (i + 1, max c (depthX x.fList[i])) (by simp only; omega) rfl rfl ⟨by simp only; omega, by simp only; omega⟩
    · have hi : i = x.fList.length := by omega
      rw [hi, List.drop_length, depthXs] at p2
      (repeat (with_reducible refine And.intro ?_ ?_; focus first | omega | rfl | assumption | exact ⟨_, rfl, rfl⟩ | (simp; omega) | (simp; done)))
      exact int_eq (by omega)
theorem specDepthX_ok (x : MSExpr) (hsz : x.sz ≤ 67108864) : PCall Tryz.prog 111 [x.v] (.c (.d (.i .i64 (depthX x)))) := specDepthX_all _ x (Nat.lt_succ_self _) hsz
theorem specValidX_ok (x : MSExpr) (hsz : x.sz ≤ 67108864) : PCall Tryz.prog 58 [x.v] (.c (.d (.b (validX x)))) := fun S => by
  refine acall_cw (rs := [.tmp 2]) Tryz.checked.mixed Tryz.func58 Tryz.ntmps58 rfl rfl rfl rfl rfl ?_
  simp -implicitDefEqProofs (disch := omega) only [go_sem]
  refine call_w (l2Left_ok x 900 (by omega) (by omega) hsz) ?_
  simp -implicitDefEqProofs (disch := omega) only [go_sem] <;> (repeat (with_reducible refine And.intro ?_ ?_; focus first | omega | rfl | assumption | exact ⟨_, rfl, rfl⟩ | (simp; omega) | (simp; done)))
  with_reducible refine split2 (fun hb => ?_) (fun hb => ?_) <;> have h := hb <;> (try simp only [wf_preprocess] at h) <;> simp -implicitDefEqProofs (disch := omega) only [go_sem, hb] <;> (repeat (with_reducible refine And.intro ?_ ?_; focus first | omega | rfl | assumption | exact ⟨_, rfl, rfl⟩ | (simp; omega) | (simp; done)))
  · have h1 := (sub1_nn (l := 900) (a := nodeX x) (by omega)).2
    refine call_w (l2Form_ok x hsz) ?_
    simp -implicitDefEqProofs (disch := omega) only [go_sem] <;> (repeat (with_reducible refine And.intro ?_ ?_; focus first | omega | rfl | assumption | exact ⟨_, rfl, rfl⟩ | (simp; omega) | (simp; done)))
    with_reducible refine split2 (fun hb => ?_) (fun hb => ?_) <;> have h := hb <;> (try simp only [wf_preprocess] at h) <;> simp -implicitDefEqProofs (disch := omega) only [go_sem, hb] <;> (repeat (with_reducible refine And.intro ?_ ?_; focus first | omega | rfl | assumption | exact ⟨_, rfl, rfl⟩ | (simp; omega) | (simp; done)))
    · have hf := h
      refine call_w (specDepthX_ok x hsz) ?_
      simp -implicitDefEqProofs (disch := omega) only [go_sem] <;> (repeat (with_reducible refine And.intro ?_ ?_; focus first | omega | rfl | assumption | exact ⟨_, rfl, rfl⟩ | (simp; omega) | (simp; done)))
      refine bool_eq ?_
      unfold validX
      rw [hf, Bool.true_and]
      exact decide_eq_decide.2 (by omega)
    · refine bool_eq ?_
      unfold validX
      rw [h, Bool.false_and]
  · have h1 := sub1_neg (l := 900) (a := nodeX x) (by omega)
    refine bool_eq ?_
    unfold validX
    rw [decide_eq_false (by omega), Bool.and_false]
end Go.Proofs.YtokcpelkieeddaaGreat

namespace Go.Ab
def lx (l : List MSExpr) (n : Nat) : List (List D) := labRs (l.map MSExpr.enc) n
def cntX (x : MSExpr) : Nat := cntR x.enc
def cntXs (l : List MSExpr) : Nat := cntRs (l.map MSExpr.enc)
theorem labX_eq (x : MSExpr) (n : Nat) : labR x.enc n = [.s x.fAtom, .ol n (lx x.fList (n + 1))] := by
  rw [MSExpr.enc_eq]; simp only [labR, labD, cntD, Nat.add_zero, lx]
theorem labX_atom (s : List UInt8) (n : Nat) : labR (atomX s).enc n = [.s s, .ol n []] := by rw [labX_eq]; rfl
theorem cntX_eq (x : MSExpr) : cntX x = cntXs x.fList + 1 := by
  unfold cntX cntXs
  rw [MSExpr.enc_eq]; simp only [cntR, cntD]; omega
theorem cntX_atom (s : List UInt8) : cntX (atomX s) = 1 := by rw [cntX_eq]; rfl
theorem lx_nil (n : Nat) : lx [] n = [] := rfl
theorem lx_cons (x : MSExpr) (l : List MSExpr) (n : Nat) : lx (x :: l) n = labR x.enc n :: lx l (n + cntX x) := rfl
theorem lx_append (a b : List MSExpr) (n : Nat) : lx (a ++ b) n = lx a n ++ lx b (n + cntXs a) := by unfold lx cntXs; rw [List.map_append, labRs_append]
theorem lx_length (l : List MSExpr) (n : Nat) : (lx l n).length = l.length := by unfold lx; rw [labRs_length, List.length_map]
theorem lx_rows {l : List MSExpr} {n : Nat} : ∀ r ∈ lx l n, r.length = 2 := labRs_rows fun r hr => by
  obtain ⟨z, _, rfl⟩ := List.mem_map.1 hr
  exact z.enc_length
theorem lx_snoc {l : List MSExpr} {i : Nat} (hi : i < l.length) (n : Nat) : lx (l.take i) n ++ [labR l[i].enc (n + cntXs (l.take i))] = lx (l.take (i + 1)) n := by
  rw [List.take_succ_eq_append_getElem hi, lx_append]; rfl
theorem lx_snoc' {l : List MSExpr} {i : Nat} (hi : i < l.length) (n : Nat) : lx (l.take i) n ++ [[.s l[i].fAtom, .ol (n + cntXs (l.take i)) (lx l[i].fList (n + cntXs (l.take i) + 1))]] = lx (l.take (i + 1)) n := by
  rw [← lx_snoc hi, labX_eq]
theorem enc_rows {l : List MSExpr} : ∀ r ∈ l.map MSExpr.enc, r.length = 2 := fun r hr => by
  obtain ⟨z, _, rfl⟩ := List.mem_map.1 hr
  exact z.enc_length
theorem cells_less' {cs cs' : List C} (hl : cs'.length = cs.length) (h : ∀ (j : Nat) (x y : C), cs[j]? = some x → cs'[j]? = some y → ∀ w σ S β v, RepC w σ S β x v → RepC w σ S β y v) : Less (.agg cs) (.agg cs') := by
  rintro w σ S β v ⟨a, ha, hc⟩
  refine ⟨a, ha, hl.trans hc.1, fun j y hy => ?_⟩
  have hj : j < cs.length := by rw [← hl]; exact (List.getElem?_eq_some_iff.1 hy).1
  obtain ⟨v, h1, h2, h3⟩ := hc.2 j _ (List.getElem?_eq_getElem hj)
  exact ⟨v, h1, h j _ y (List.getElem?_eq_getElem hj) hy w σ S β v h2, h3⟩
theorem fsl_ol {w : World} {σ : Nat → Nat} {S : Store} {β : Hs} {v : Value} (n : Nat) (h : RepC w σ S β (.fsl []) v) : RepC w σ S β (.d (.ol n [])) v := by
  obtain ⟨hd, ad, m, hval⟩ := h
  have hm : m = 0 := by rw [hval] at hd; cases hd <;> rfl
  subst hm
  rw [hval]
  exact .onil _ _ _
theorem less_x0 (s : List UInt8) (n : Nat) : Less (.agg [.d (.s s), .fsl []]) (.agg [.d (.s s), .d (.ol n [])]) := cells_less' rfl fun j x y hx hy w σ S β v hv => by
  match j, hx, hy with
  | 0, hx, hy => cases hx; cases hy; exact hv
  | 1, hx, hy => cases hx; cases hy; exact fsl_ol _ hv
  | j + 2, hx, hy => simp at hx
theorem less_xl (s : List UInt8) (n : Nat) (es : List (List D)) : Less (.agg [.d (.s s), .lfl n es]) (.agg [.d (.s s), .d (.ol n es)]) := cells_less' rfl fun j x y hx hy w σ S β v hv => by
  match j, hx, hy with
  | 0, hx, hy => cases hx; cases hy; exact hv
  | 1, hx, hy => cases hx; cases hy; exact hv.1
  | j + 2, hx, hy => simp at hx
end Go.Ab
namespace Go.Proofs.YtokcpelkieeddaaGreat
open Go Go.Ab
theorem implAtom_ok (s : List UInt8) : PCall Tryz.prog 99 [.c (.d (.s s))] (.agg [.d (.s s), .fsl []]) := fun S => by
  refine acall_cw (rs := [.cell 2 29]) Tryz.checked.mixed Tryz.func99 Tryz.ntmps99 rfl rfl rfl rfl rfl ?_
  simp -implicitDefEqProofs (disch := omega) only [go_sem]
theorem implAtom_lab (s : List UInt8) (n : Nat) : PCall Tryz.prog 99 [.c (.d (.s s))] (.agg [.d (.s s), .d (.ol n [])]) := PCall.less (implAtom_ok s) (less_x0 s n)
theorem implList_d (d : D) : PCall Tryz.prog 101 [.c (.d d)] (.agg [.d (.s []), .d d]) := fun S => by
  refine acall_cw (rs := [.cell 2 29]) Tryz.checked.mixed Tryz.func101 Tryz.ntmps101 rfl rfl rfl rfl rfl ?_
  simp -implicitDefEqProofs (disch := omega) only [go_sem]
theorem implList_l0 (n : Nat) (es : List (List D)) : PCall Tryz.prog 101 [.c (.lfl n es)] (.agg [.d (.s []), .lfl n es]) := fun S => by
  refine acall_cw (rs := [.cell 2 29]) Tryz.checked.mixed Tryz.func101 Tryz.ntmps101 rfl rfl rfl rfl rfl ?_
  simp -implicitDefEqProofs (disch := omega) only [go_sem]
theorem implList_l (n : Nat) (es : List (List D)) : PCall Tryz.prog 101 [.c (.lfl n es)] (.agg [.d (.s []), .d (.ol n es)]) := PCall.less (implList_l0 n es) (less_xl [] n es)
theorem implList_t (l j : Nat) (es : List (List D)) (S : Store) : ACall Tryz.prog 101 [.c (.tsl (l, j) es)] S (fun r S' => r = .agg [.d (.s []), .tsl (l, j) es] ∧ S' = S) := by
  refine acall_cw (rs := [.cell 2 29]) Tryz.checked.mixed Tryz.func101 Tryz.ntmps101 rfl rfl rfl rfl rfl ?_
  simp -implicitDefEqProofs (disch := omega) only [go_sem]
theorem implAtoms_lab (xs : List (List UInt8)) (hx : xs.length ≤ 1073741824) (n q : Nat) : PCall Tryz.prog 158 [.c (.d (.sl (xs.map encS)))] (.c (.d (.ol n (lx (wordsX xs) q)))) := fun S => by
  refine acall_cwL (n) (rs := [.tmp 2]) Tryz.checked.mixed Tryz.func158 Tryz.ntmps158 rfl rfl rfl rfl rfl ?_
  simp -implicitDefEqProofs (disch := omega) only [go_sem]
  (repeat (with_reducible refine And.intro ?_ ?_; focus first | omega | rfl | assumption | exact ⟨_, rfl, rfl⟩ | (simp; omega) | (simp; done)))
  refine aw_ltok n 3 2 [] (.inl rfl) (by simp) ?_
  refine loop_at (ι := Nat) Tryz.checked.mixed rfl [3, 7, 8, 9] (fun i => [.c (.tsl (0, 1) (lx ((wordsX xs).take i) q)), .c (.d (.sl (xs.map encS))), .c (.d (.i .i64 xs.length)), .c (.d (.i .i64 i))]) (fun i => [.seed n, .ltok n 2 (lx ((wordsX xs).take i) q)] :: S)
    (fun i => i ≤ xs.length) (fun i => xs.length - i) 0 rfl rfl (Nat.zero_le _) ?_
  intro i hi
  simp -implicitDefEqProofs (disch := omega) only [go_sem]
  with_reducible refine split2 (fun hb => ?_) (fun hb => ?_) <;> have h := hb <;> (try simp only [wf_preprocess] at h) <;> simp -implicitDefEqProofs (disch := omega) only [go_sem, hb] <;> (repeat (with_reducible refine And.intro ?_ ?_; focus first | omega | rfl | assumption | exact ⟨_, rfl, rfl⟩ | (simp; omega) | (simp; done)))
  · have hi' : i < xs.length := by omega
    have hw : i < (wordsX xs).length := by rw [words_len]; exact hi'
    have hg : (wordsX xs)[i] = atomX xs[i] := by simp [wordsX]
    have hl : (lx ((wordsX xs).take i) q).length ≤ i := by rw [lx_length]; exact List.length_take_le _ _
    (repeat (with_reducible refine And.intro ?_ ?_; focus first | omega | rfl | assumption | exact ⟨_, rfl, rfl⟩ | (simp; omega) | (simp; done)))
    refine call_w (implAtom_lab xs[i] (q + cntXs ((wordsX xs).take i))) ?_
    simp -implicitDefEqProofs (disch := omega) only [go_sem]
    (repeat (with_reducible refine And.intro ?_ ?_; focus first | omega | rfl | assumption | exact ⟨_, rfl, rfl⟩ | (simp; omega) | (simp; done)))
    have hs := lx_snoc hw q
    rw [hg, labX_atom] at hs
    rw [hs]
    exact inv_at (i + 1) (by omega) rfl rfl (by omega)
  · have hi' : i = (wordsX xs).length := by rw [words_len]; omega
    rw [hi', List.take_length]
theorem implNameList_lab (xs : List (List UInt8)) (hx : xs.length ≤ 1073741824) (n : Nat) : PCall Tryz.prog 100 [.c (.d (.sl (xs.map encS)))] (.agg [.d (.s []), .d (.ol n (lx (wordsX xs) (n + 1)))]) := fun S => by
  refine acall_cw (rs := [.cell 2 29]) Tryz.checked.mixed Tryz.func100 Tryz.ntmps100 rfl rfl rfl rfl rfl ?_
  simp -implicitDefEqProofs (disch := omega) only [go_sem]
  refine call_w (implAtoms_lab xs hx n (n + 1)) ?_
  simp -implicitDefEqProofs (disch := omega) only [go_sem]
  refine call_w (implList_d _) ?_
  simp -implicitDefEqProofs (disch := omega) only [go_sem]
theorem implTy_all : ∀ N : Nat, (∀ x : MType, SizeOf.sizeOf x < N → ∀ n : Nat, formed x = true → x.sz ≤ 4194304 → PCall Tryz.prog 159 [x.v] (.agg [.d (.s (sxT x).fAtom), .d (.ol n (lx (sxT x).fList (n + 1)))])) ∧
    (∀ xs : List MType, SizeOf.sizeOf xs < N → ∀ n q : Nat, formeds xs = true → xs.length ≤ 4194304 → (∀ t ∈ xs, t.sz ≤ 4194304) → PCall Tryz.prog 102 [.c (.d (.sl (xs.map MType.enc)))] (.c (.d (.ol n (lx (xs.map sxT) q)))))
  | 0 => ⟨fun x h => by omega, fun x h => by omega⟩
  | N + 1 => by
    obtain ⟨ih, ihS⟩ := implTy_all N
    refine ⟨fun x hn n hf hsz => ?_, fun xs hn n q hf hlen hsz => ?_⟩
    · have lArgs := MType.lt_Args x
      have hts := ty_sz hsz
      have hx := sxT_eq x
      rw [formed_eq, Bool.and_eq_true] at hf
      have hfi := of_dec hf.1
      have hall : ∀ t ∈ x.fArgs, t.sz ≤ 4194304 := fun t ht => by
        obtain ⟨i, hi, e⟩ := List.getElem_of_mem ht
        rw [← e]; exact (arg_sz hi hsz).1
      intro S
      refine acall_cwLs (n) 1 (rs := [.cell 2 29]) Tryz.checked.mixed Tryz.func159 Tryz.ntmps159 rfl rfl rfl rfl rfl ?_
      simp -implicitDefEqProofs (disch := omega) only [go_sem]
      with_reducible refine split2 (fun hb => ?_) (fun hb => ?_) <;> have h := hb <;> (try simp only [wf_preprocess] at h) <;> simp -implicitDefEqProofs (disch := omega) only [go_sem, hb] <;> (repeat (with_reducible refine And.intro ?_ ?_; focus first | omega | rfl | assumption | exact ⟨_, rfl, rfl⟩ | (simp; omega) | (simp; done)))
      · rw [if_pos h] at hx
        rw [hx]
        (repeat (with_reducible refine And.intro ?_ ?_; focus first | omega | rfl | assumption | exact ⟨_, rfl, rfl⟩ | (simp; omega) | (simp; done)))
        refine call_w (implAtom_lab _ n) ?_
        simp -implicitDefEqProofs (disch := omega) only [go_sem]
        rfl
      have k1 := h
      rw [if_neg h] at hx
      with_reducible refine split2 (fun hb => ?_) (fun hb => ?_) <;> have h := hb <;> (try simp only [wf_preprocess] at h) <;> simp -implicitDefEqProofs (disch := omega) only [go_sem, hb] <;> (repeat (with_reducible refine And.intro ?_ ?_; focus first | omega | rfl | assumption | exact ⟨_, rfl, rfl⟩ | (simp; omega) | (simp; done)))
      · rw [if_pos h] at hx
        rw [hx]
        refine call_w (implAtom_lab _ (n + 1)) ?_
        simp -implicitDefEqProofs (disch := omega) only [go_sem]
        refine call_w (implAtom_lab _ (n + 1 + 1)) ?_
        simp -implicitDefEqProofs (disch := omega) only [go_sem]
        refine call_w (implList_l _ _) ?_
        simp -implicitDefEqProofs (disch := omega) only [go_sem]
        rfl
      have k4 := h
      rw [if_neg h] at hx
      with_reducible refine split2 (fun hb => ?_) (fun hb => ?_) <;> have h := hb <;> (try simp only [wf_preprocess] at h) <;> simp -implicitDefEqProofs (disch := omega) only [go_sem, hb] <;> (repeat (with_reducible refine And.intro ?_ ?_; focus first | omega | rfl | assumption | exact ⟨_, rfl, rfl⟩ | (simp; omega) | (simp; done)))
      · have hlen : x.fArgs.length = 1 := by omega
        obtain ⟨a, ha⟩ := List.length_eq_one_iff.1 hlen
        have ha0 : x.fArgs[0]'(by omega) = a := by simp [ha]
        rw [if_neg (by omega), if_pos h, ha] at hx
        have hfa : formed a = true := formeds_iff.1 hf.2 a (by rw [ha]; simp)
        have hsa : a.sz ≤ 4194304 := hall a (by rw [ha]; simp)
        have hla : SizeOf.sizeOf a < N := by
          have := List.sizeOf_lt_of_mem (show a ∈ x.fArgs by rw [ha]; simp)
          omega
        rw [hx]
        refine call_w (implAtom_lab _ (n + 1)) ?_
        simp -implicitDefEqProofs (disch := omega) only [go_sem]
        refine call_w (implAtom_lab _ (n + 1 + 1)) ?_
        simp -implicitDefEqProofs (disch := omega) only [go_sem, ha, List.getD_cons_zero]
        (repeat (with_reducible refine And.intro ?_ ?_; focus first | omega | rfl | assumption | exact ⟨_, rfl, rfl⟩ | (simp; omega) | (simp; done)))
        refine call_w (ih a hla (n + 1 + 1 + 1) hfa hsa) ?_
        simp -implicitDefEqProofs (disch := omega) only [go_sem]
        refine call_w (implList_l _ _) ?_
        simp -implicitDefEqProofs (disch := omega) only [go_sem]
        simp only [fAtom_list, fList_list, List.cons_append, List.nil_append, List.map_cons, List.map_nil, lx_cons, lx_nil, labX_atom, cntX_atom, labX_eq, fAtom_atom, fList_atom, wAssoc]
      have k3 := h
      with_reducible refine split2 (fun hb => ?_) (fun hb => ?_) <;> have h := hb <;> (try simp only [wf_preprocess] at h) <;> simp -implicitDefEqProofs (disch := omega) only [go_sem, hb] <;> (repeat (with_reducible refine And.intro ?_ ?_; focus first | omega | rfl | assumption | exact ⟨_, rfl, rfl⟩ | (simp; omega) | (simp; done)))
      · rw [if_pos ⟨by omega, by omega⟩] at hx
        rw [hx]
        refine call_w (implAtom_lab _ n) ?_
        simp -implicitDefEqProofs (disch := omega) only [go_sem]
        rfl
      rw [if_neg (by omega), if_neg k3] at hx
      rw [hx]
      refine call_w (implAtom_lab _ (n + 1)) ?_
      simp -implicitDefEqProofs (disch := omega) only [go_sem]
      refine call_w (ihS x.fArgs (by omega) 0 (n + 1 + 1) hf.2 hts.1 hall) ?_
      simp -implicitDefEqProofs (disch := omega) only [go_sem]
      have hl : (lx (x.fArgs.map sxT) (n + 1 + 1)).length = x.fArgs.length := by rw [lx_length, List.length_map]
      have hr := lx_rows (l := x.fArgs.map sxT) (n := n + 1 + 1)
      (repeat (with_reducible refine And.intro ?_ ?_; focus first | omega | rfl | assumption | exact ⟨_, rfl, rfl⟩ | (simp; omega) | (simp; done)))
      refine call_w (implList_d _) ?_
      simp -implicitDefEqProofs (disch := omega) only [go_sem]
      simp only [fAtom_list, fList_list, List.cons_append, List.nil_append, lx_cons, lx_nil, labX_atom, cntX_atom]
    · have hsnoc := fun (i : Nat) (hi : i < xs.length) => lx_snoc' (l := xs.map sxT) (i := i) (by rw [List.length_map]; exact hi) q
      intro S
      refine acall_cwL (n) (rs := [.tmp 2]) Tryz.checked.mixed Tryz.func102 Tryz.ntmps102 rfl rfl rfl rfl rfl ?_
      simp -implicitDefEqProofs (disch := omega) only [go_sem]
      (repeat (with_reducible refine And.intro ?_ ?_; focus first | omega | rfl | assumption | exact ⟨_, rfl, rfl⟩ | (simp; omega) | (simp; done)))
      refine aw_ltok n 3 2 [] (.inl rfl) (by simp) ?_
      refine loop_at (ι := Nat) Tryz.checked.mixed rfl [3, 7, 8, 9] (fun i => [.c (.tsl (0, 1) (lx ((xs.map sxT).take i) q)), .c (.d (.sl (xs.map MType.enc))), .c (.d (.i .i64 xs.length)), .c (.d (.i .i64 i))]) (fun i => [.seed n, .ltok n 2 (lx ((xs.map sxT).take i) q)] :: S)
        (fun i => i ≤ xs.length) (fun i => xs.length - i) 0 rfl rfl (Nat.zero_le _) ?_
      intro i hi
      simp -implicitDefEqProofs (disch := omega) only [go_sem]
      with_reducible refine split2 (fun hb => ?_) (fun hb => ?_) <;> have h := hb <;> (try simp only [wf_preprocess] at h) <;> simp -implicitDefEqProofs (disch := omega) only [go_sem, hb] <;> (repeat (with_reducible refine And.intro ?_ ?_; focus first | omega | rfl | assumption | exact ⟨_, rfl, rfl⟩ | (simp; omega) | (simp; done)))
      · have hi' : i < xs.length := by omega
        have hs := hsnoc i hi'
        rw [List.getElem_map] at hs
        have hl : (lx ((xs.map sxT).take i) q).length ≤ i := by rw [lx_length]; exact List.length_take_le _ _
        (repeat (with_reducible refine And.intro ?_ ?_; focus first | omega | rfl | assumption | exact ⟨_, rfl, rfl⟩ | (simp; omega) | (simp; done)))
        refine call_w (ih xs[i] (by have := List.sizeOf_lt_of_mem (List.getElem_mem hi'); omega) (q + cntXs ((xs.map sxT).take i)) (formeds_iff.1 hf _ (List.getElem_mem hi')) (hsz _ (List.getElem_mem hi'))) ?_
        simp -implicitDefEqProofs (disch := omega) only [go_sem]
        (repeat (with_reducible refine And.intro ?_ ?_; focus first | omega | rfl | assumption | exact ⟨_, rfl, rfl⟩ | (simp; omega) | (simp; done)))
        rw [hs]
        exact inv_drop 2 (by decide) (i + 1) (by omega) rfl rfl rfl rfl (by omega)
      · have hi' : i = (xs.map sxT).length := by rw [List.length_map]; omega
        rw [hi', List.take_length]
theorem implTys_lab (xs : List MType) (n q : Nat) (hf : formeds xs = true) (hlen : xs.length ≤ 4194304) (hsz : ∀ t ∈ xs, t.sz ≤ 4194304) : PCall Tryz.prog 102 [.c (.d (.sl (xs.map MType.enc)))] (.c (.d (.ol n (lx (xs.map sxT) q)))) := (implTy_all _).2 xs (Nat.lt_succ_self _) n q hf hlen hsz
end Go.Proofs.YtokcpelkieeddaaGreat

namespace Go.Ab
theorem enc_atom (s : List UInt8) : (atomX s).enc = [.s s, .sl []] := by rw [MSExpr.enc_eq]; rfl
theorem enc_list (l : List MSExpr) : (listX l).enc = [.s [], .sl (l.map MSExpr.enc)] := by rw [MSExpr.enc_eq]; rfl
theorem encX_snoc {base l : List MSExpr} {i : Nat} (hi : i < l.length) : (base ++ l.take i).map MSExpr.enc ++ [[.s l[i].fAtom, .sl (l[i].fList.map MSExpr.enc)]] = (base ++ l.take (i + 1)).map MSExpr.enc := by
  rw [List.take_succ_eq_append_getElem hi, ← List.append_assoc, List.map_append (l₂ := [l[i]]), List.map_cons, List.map_nil, MSExpr.enc_eq]
theorem less_xf (s : List UInt8) (es : List (List D)) : Less (.agg [.d (.s s), .fsl es]) (.agg [.d (.s s), .d (.sl es)]) := cells_less' rfl fun j x y hx hy w σ S β v hv => by
  match j, hx, hy with
  | 0, hx, hy => cases hx; cases hy; exact hv
  | 1, hx, hy => cases hx; cases hy; exact hv.1
  | j + 2, hx, hy => simp at hx
theorem less_lx (x : MSExpr) (n : Nat) : Less (.agg [.d (.s x.fAtom), .d (.ol n (lx x.fList (n + 1)))]) x.v := by
  have h := less_lab (r := x.enc) (n := n)
  rw [labX_eq, MSExpr.v_eq] at h
  exact h
end Go.Ab
namespace Go.Proofs.YtokcpelkieeddaaGreat
open Go Go.Ab
theorem specAtom0_ok (s : List UInt8) : PCall Tryz.prog 36 [.c (.d (.s s))] (.agg [.d (.s s), .fsl []]) := fun S => by
  refine acall_cw (rs := [.cell 2 29]) Tryz.checked.mixed Tryz.func36 Tryz.ntmps36 rfl rfl rfl rfl rfl ?_
  simp -implicitDefEqProofs (disch := omega) only [go_sem]
theorem specAtom_ok (s : List UInt8) : PCall Tryz.prog 36 [.c (.d (.s s))] (.agg [.d (.s s), .d (.sl [])]) := PCall.less (specAtom0_ok s) (less_xf s [])
theorem specList_ok (es : List (List D)) (hes : ∀ e ∈ es, e.length = 2) (hl : es.length ≤ 1073741824) : PCall Tryz.prog 35 [.c (.d (.sl es))] (.agg [.d (.s []), .d (.sl es)]) := fun S => by
  refine acall_cw (rs := [.cell 2 29]) Tryz.checked.mixed Tryz.func35 Tryz.ntmps35 rfl rfl rfl rfl rfl ?_
  simp -implicitDefEqProofs (disch := omega) only [go_sem]
  exact ⟨hes, ⟨_, rfl, rfl⟩, (fun y hy => by cases hy), hl⟩
theorem specList_esc (es : List (List D)) (hes : ∀ e ∈ es, e.length = 2) (hl : es.length ≤ 1073741824) (own0 : List Ab.Obj) (Ω : Store) : ACall Tryz.prog 35 [.c (.d (.sl es))] (own0 :: Ω)
    (fun r S' => r = .agg [.d (.s []), .tsl (0, own0.length + 1) es] ∧ S' = (own0 ++ [.box [.d (.s []), .tsl (0, own0.length + 1) es], .tok 2 es]) :: Ω) := by
  refine acall_cwe (rs := [.cell 2 29]) Tryz.checked.mixed Tryz.func35 Tryz.ntmps35 rfl rfl rfl rfl rfl ?_
  simp -implicitDefEqProofs (disch := omega) only [go_sem]
  exact ⟨hes, ⟨_, rfl, rfl⟩, (fun y hy => by cases hy), hl⟩
theorem specWords_ok (xs : List (List UInt8)) (hx : xs.length ≤ 1073741824) : PCall Tryz.prog 89 [.c (.d (.sl (xs.map encS)))] (.c (.d (.sl ((wordsX xs).map MSExpr.enc)))) := fun S => by
  refine acall_cw (rs := [.tmp 2]) Tryz.checked.mixed Tryz.func89 Tryz.ntmps89 rfl rfl rfl rfl rfl ?_
  simp -implicitDefEqProofs (disch := omega) only [go_sem]
  (repeat (with_reducible refine And.intro ?_ ?_; focus first | omega | rfl | assumption | exact ⟨_, rfl, rfl⟩ | (simp; omega) | (simp; done)))
  refine aw_tok 3 2 [] rfl (by simp) ?_
  refine loop_at (ι := Nat) Tryz.checked.mixed rfl [0, 3, 4] (fun i => [.c (.d (.sl (xs.map encS))), .c (.tsl (0, 0) (((wordsX xs).take i).map MSExpr.enc)), .c (.d (.i .i64 i))]) (fun i => [.tok 2 (((wordsX xs).take i).map MSExpr.enc)] :: S)
    (fun i => i ≤ xs.length) (fun i => xs.length - i) 0 rfl rfl (Nat.zero_le _) ?_
  intro i hi
  have hl : (((wordsX xs).take i).map MSExpr.enc).length ≤ i := by rw [List.length_map]; exact List.length_take_le _ _
  simp -implicitDefEqProofs (disch := omega) only [go_sem]
  with_reducible refine split2 (fun hb => ?_) (fun hb => ?_) <;> have h := hb <;> (try simp only [wf_preprocess] at h) <;> simp -implicitDefEqProofs (disch := omega) only [go_sem, hb] <;> (repeat (with_reducible refine And.intro ?_ ?_; focus first | omega | rfl | assumption | exact ⟨_, rfl, rfl⟩ | (simp; omega) | (simp; done)))
  · have hi' : i < xs.length := by omega
    have hs := encX_snoc (base := []) (l := wordsX xs) (i := i) (by rw [words_len]; exact hi')
    have hg : (wordsX xs)[i]'(by rw [words_len]; exact hi') = atomX xs[i] := by simp [wordsX]
    rw [hg] at hs
    simp only [List.nil_append, fAtom_atom, fList_atom, List.map_nil] at hs
    (repeat (with_reducible refine And.intro ?_ ?_; focus first | omega | rfl | assumption | exact ⟨_, rfl, rfl⟩ | (simp; omega) | (simp; done)))
    refine call_w (specAtom_ok xs[i]) ?_
    simp -implicitDefEqProofs (disch := omega) only [go_sem]
    (repeat (with_reducible refine And.intro ?_ ?_; focus first | omega | rfl | assumption | exact ⟨_, rfl, rfl⟩ | (simp; omega) | (simp; done)))
    rw [hs]
    exact inv_at (i + 1) (by omega) rfl rfl (by omega)
  · have hi' : i = (wordsX xs).length := by rw [words_len]; omega
    rw [hi', List.take_length]
theorem specNameList_ok (xs : List (List UInt8)) (hx : xs.length ≤ 1073741824) : PCall Tryz.prog 37 [.c (.d (.sl (xs.map encS)))] (.agg [.d (.s []), .d (.sl ((wordsX xs).map MSExpr.enc))]) := fun S => by
  refine acall_cw (rs := [.cell 2 29]) Tryz.checked.mixed Tryz.func37 Tryz.ntmps37 rfl rfl rfl rfl rfl ?_
  simp -implicitDefEqProofs (disch := omega) only [go_sem]
  refine call_w (specWords_ok xs hx) ?_
  simp -implicitDefEqProofs (disch := omega) only [go_sem]
theorem specTy_all : ∀ N : Nat, (∀ x : MType, SizeOf.sizeOf x < N → x.sz ≤ 4194304 → PCall Tryz.prog 90 [x.v] (.agg [.d (.s (sxT x).fAtom), .d (.sl ((sxT x).fList.map MSExpr.enc))]))
  | 0 => fun x h => by omega
  | N + 1 => by
    have ih := specTy_all N
    intro x hn hsz
    have lArgs := MType.lt_Args x
    have hts := ty_sz hsz
    have hx := sxT_eq x
    have hall : ∀ t ∈ x.fArgs, t.sz ≤ 4194304 := fun t ht => by
      obtain ⟨i, hi, e⟩ := List.getElem_of_mem ht
      rw [← e]; exact (arg_sz hi hsz).1
    intro S
    refine acall_cw (rs := [.cell 2 29]) Tryz.checked.mixed Tryz.func90 Tryz.ntmps90 rfl rfl rfl rfl rfl ?_
    simp -implicitDefEqProofs (disch := omega) only [go_sem]
    with_reducible refine split2 (fun hb => ?_) (fun hb => ?_) <;> have h := hb <;> (try simp only [wf_preprocess] at h) <;> simp -implicitDefEqProofs (disch := omega) only [go_sem, hb] <;> (repeat (with_reducible refine And.intro ?_ ?_; focus first | omega | rfl | assumption | exact ⟨_, rfl, rfl⟩ | (simp; omega) | (simp; done)))
    · rw [if_pos h] at hx
      rw [hx]
      (repeat (with_reducible refine And.intro ?_ ?_; focus first | omega | rfl | assumption | exact ⟨_, rfl, rfl⟩ | (simp; omega) | (simp; done)))
      refine call_w (specAtom_ok _) ?_
      simp -implicitDefEqProofs (disch := omega) only [go_sem]
      rfl
    rw [if_neg h] at hx
    with_reducible refine split2 (fun hb => ?_) (fun hb => ?_) <;> have h := hb <;> (try simp only [wf_preprocess] at h) <;> simp -implicitDefEqProofs (disch := omega) only [go_sem, hb] <;> (repeat (with_reducible refine And.intro ?_ ?_; focus first | omega | rfl | assumption | exact ⟨_, rfl, rfl⟩ | (simp; omega) | (simp; done)))
    · rw [if_pos h] at hx
      rw [hx]
      refine call_w (specAtom_ok _) ?_
      simp -implicitDefEqProofs (disch := omega) only [go_sem]
      refine call_w (specAtom_ok _) ?_
      simp -implicitDefEqProofs (disch := omega) only [go_sem]
      refine call_w (specList_ok _ (by simp) (by simp)) ?_
      simp -implicitDefEqProofs (disch := omega) only [go_sem]
      simp only [fAtom_list, fList_list, List.map_cons, List.map_nil, enc_atom, wDyn]
    rw [if_neg h] at hx
    have fin1 : x.fKind = 2 → x.fArgs.length = 0 → sxT x = atomX x.fName := fun a b => by rw [hx, if_pos ⟨a, b⟩]
    have fin2 : ¬ (x.fKind = 2 ∧ x.fArgs.length = 0) → sxT x = listX ((if x.fKind = 3 then [atomX wAssoc] else []) ++ [atomX x.fName] ++ x.fArgs.map sxT) := fun a => by rw [hx, if_neg a]
    clear hx
    repeat' (first | (with_reducible refine split2 (fun hb => ?_) (fun hb => ?_) <;> have h := hb <;> (try simp only [wf_preprocess] at h) <;> simp -implicitDefEqProofs (disch := omega) only [go_sem, hb] <;> (repeat (with_reducible refine And.intro ?_ ?_; focus first | omega | rfl | assumption | exact ⟨_, rfl, rfl⟩ | (simp; omega) | (simp; done)))))
    · rw [fin1 (by omega) (by omega)]
      refine call_w (specAtom_ok _) ?_
      simp -implicitDefEqProofs (disch := omega) only [go_sem]
      rfl
    · exfalso; omega
    · have hx := fin2 (by omega)
      rw [if_neg h, List.nil_append] at hx
      refine call_w (specAtom_ok _) ?_
      simp -implicitDefEqProofs (disch := omega) only [go_sem]
      (repeat (with_reducible refine And.intro ?_ ?_; focus first | omega | rfl | assumption | exact ⟨_, rfl, rfl⟩ | (simp; omega) | (simp; done)))
      refine loop_at (ι := Nat) Tryz.checked.mixed rfl [1, 2, 3, 4] (fun i => [.c (.ptr (0, 0) 0), .c (.ptr (0, 1) 0), .c (.ptr (0, 2) 0), .c (.d (.i .i64 i))])
        (fun i => [.box [.d (.i .i64 x.fKind), .d (.s x.fName), .d (.sl (x.fArgs.map MType.enc))], .box [.d (.s []), .fsl []], .box [.d (.s []), .tsl (0, 3) (([atomX x.fName] ++ (x.fArgs.map sxT).take i).map MSExpr.enc)], .tok 2 (([atomX x.fName] ++ (x.fArgs.map sxT).take i).map MSExpr.enc)] :: S)
        (fun i => i ≤ x.fArgs.length) (fun i => x.fArgs.length - i) 0 rfl ?_ (Nat.zero_le _) ?_
      · simp only [List.take_zero, List.append_nil, List.map_cons, List.map_nil, List.cons_append, List.nil_append, enc_atom] <;> (try rfl)
      intro i hi
      have hl : (([atomX x.fName] ++ (x.fArgs.map sxT).take i).map MSExpr.enc).length ≤ i + 2 := by
        rw [List.length_map, List.length_append]
        have := List.length_take_le i (x.fArgs.map sxT)
        simp only [List.length_cons, List.length_nil]; omega
      have hs := fun hi => encX_snoc (base := [atomX x.fName]) (l := x.fArgs.map sxT) (i := i) hi
      have hrw := enc_rows (l := [atomX x.fName] ++ (x.fArgs.map sxT).take i)
      generalize hR : ([atomX x.fName] ++ (x.fArgs.map sxT).take i).map MSExpr.enc = R at hl hs hrw
      simp -implicitDefEqProofs (disch := omega) only [go_sem]
      with_reducible refine split2 (fun hb => ?_) (fun hb => ?_) <;> have h := hb <;> (try simp only [wf_preprocess] at h) <;> simp -implicitDefEqProofs (disch := omega) only [go_sem, hb] <;> (repeat (with_reducible refine And.intro ?_ ?_; focus first | omega | rfl | assumption | exact ⟨_, rfl, rfl⟩ | (simp; omega) | (simp; done)))
      · have hi' : i < x.fArgs.length := by omega
        have hs' := hs (by rw [List.length_map]; exact hi')
        rw [List.getElem_map] at hs'
        (repeat (with_reducible refine And.intro ?_ ?_; focus first | omega | rfl | assumption | exact ⟨_, rfl, rfl⟩ | (simp; omega) | (simp; done)))
        refine call_w (ih x.fArgs[i] (by have := List.sizeOf_lt_of_mem (List.getElem_mem hi'); omega) (hall _ (List.getElem_mem hi'))) ?_
        simp -implicitDefEqProofs (disch := omega) only [go_sem]
        (repeat (with_reducible refine And.intro ?_ ?_; focus first | omega | rfl | assumption | exact ⟨_, rfl, rfl⟩ | (simp; omega) | (simp; done)))
        rw [hs']
        exact inv_at (i + 1) (by omega) rfl rfl (by omega)
      · have hi' : i = (x.fArgs.map sxT).length := by rw [List.length_map]; omega
        rw [hx, ← hR, hi', List.take_length]
        simp only [fAtom_list, fList_list, List.cons_append, List.nil_append]
    · have hx := fin2 (by omega)
      rw [if_pos h] at hx
      refine call_w (specAtom_ok _) ?_
      simp -implicitDefEqProofs (disch := omega) only [go_sem]
      (repeat (with_reducible refine And.intro ?_ ?_; focus first | omega | rfl | assumption | exact ⟨_, rfl, rfl⟩ | (simp; omega) | (simp; done)))
      refine call_w (specAtom_ok _) ?_
      simp -implicitDefEqProofs (disch := omega) only [go_sem]
      (repeat (with_reducible refine And.intro ?_ ?_; focus first | omega | rfl | assumption | exact ⟨_, rfl, rfl⟩ | (simp; omega) | (simp; done)))
      refine loop_at (ι := Nat) Tryz.checked.mixed rfl [1, 2, 3, 4] (fun i => [.c (.ptr (0, 0) 0), .c (.ptr (0, 1) 0), .c (.ptr (0, 2) 0), .c (.d (.i .i64 i))])
        (fun i => [.box [.d (.i .i64 x.fKind), .d (.s x.fName), .d (.sl (x.fArgs.map MType.enc))], .box [.d (.s []), .fsl []], .box [.d (.s []), .tsl (0, 3) (([atomX wAssoc, atomX x.fName] ++ (x.fArgs.map sxT).take i).map MSExpr.enc)], .tok 2 (([atomX wAssoc, atomX x.fName] ++ (x.fArgs.map sxT).take i).map MSExpr.enc)] :: S)
        (fun i => i ≤ x.fArgs.length) (fun i => x.fArgs.length - i) 0 rfl ?_ (Nat.zero_le _) ?_
      · simp only [List.take_zero, List.append_nil, List.map_cons, List.map_nil, List.cons_append, List.nil_append, enc_atom] <;> (try rfl)
      intro i hi
      have hl : (([atomX wAssoc, atomX x.fName] ++ (x.fArgs.map sxT).take i).map MSExpr.enc).length ≤ i + 2 := by
        rw [List.length_map, List.length_append]
        have := List.length_take_le i (x.fArgs.map sxT)
        simp only [List.length_cons, List.length_nil]; omega
      have hs := fun hi => encX_snoc (base := [atomX wAssoc, atomX x.fName]) (l := x.fArgs.map sxT) (i := i) hi
      have hrw := enc_rows (l := [atomX wAssoc, atomX x.fName] ++ (x.fArgs.map sxT).take i)
      generalize hR : ([atomX wAssoc, atomX x.fName] ++ (x.fArgs.map sxT).take i).map MSExpr.enc = R at hl hs hrw
      simp -implicitDefEqProofs (disch := omega) only [go_sem]
      with_reducible refine split2 (fun hb => ?_) (fun hb => ?_) <;> have h := hb <;> (try simp only [wf_preprocess] at h) <;> simp -implicitDefEqProofs (disch := omega) only [go_sem, hb] <;> (repeat (with_reducible refine And.intro ?_ ?_; focus first | omega | rfl | assumption | exact ⟨_, rfl, rfl⟩ | (simp; omega) | (simp; done)))
      · have hi' : i < x.fArgs.length := by omega
        have hs' := hs (by rw [List.length_map]; exact hi')
        rw [List.getElem_map] at hs'
        (repeat (with_reducible refine And.intro ?_ ?_; focus first | omega | rfl | assumption | exact ⟨_, rfl, rfl⟩ | (simp; omega) | (simp; done)))
        refine call_w (ih x.fArgs[i] (by have := List.sizeOf_lt_of_mem (List.getElem_mem hi'); omega) (hall _ (List.getElem_mem hi'))) ?_
        simp -implicitDefEqProofs (disch := omega) only [go_sem]
        (repeat (with_reducible refine And.intro ?_ ?_; focus first | omega | rfl | assumption | exact ⟨_, rfl, rfl⟩ | (simp; omega) | (simp; done)))
        rw [hs']
        exact inv_at (i + 1) (by omega) rfl rfl (by omega)
      · have hi' : i = (x.fArgs.map sxT).length := by rw [List.length_map]; omega
        rw [hx, ← hR, hi', List.take_length]
        simp only [fAtom_list, fList_list, List.cons_append, List.nil_append]
    · have hx := fin2 (by omega)
      rw [if_neg h, List.nil_append] at hx
      refine call_w (specAtom_ok _) ?_
      simp -implicitDefEqProofs (disch := omega) only [go_sem]
      (repeat (with_reducible refine And.intro ?_ ?_; focus first | omega | rfl | assumption | exact ⟨_, rfl, rfl⟩ | (simp; omega) | (simp; done)))
      refine loop_at (ι := Nat) Tryz.checked.mixed rfl [1, 2, 3, 4] (fun i => [.c (.ptr (0, 0) 0), .c (.ptr (0, 1) 0), .c (.ptr (0, 2) 0), .c (.d (.i .i64 i))])
        (fun i => [.box [.d (.i .i64 x.fKind), .d (.s x.fName), .d (.sl (x.fArgs.map MType.enc))], .box [.d (.s []), .fsl []], .box [.d (.s []), .tsl (0, 3) (([atomX x.fName] ++ (x.fArgs.map sxT).take i).map MSExpr.enc)], .tok 2 (([atomX x.fName] ++ (x.fArgs.map sxT).take i).map MSExpr.enc)] :: S)
        (fun i => i ≤ x.fArgs.length) (fun i => x.fArgs.length - i) 0 rfl ?_ (Nat.zero_le _) ?_
      · simp only [List.take_zero, List.append_nil, List.map_cons, List.map_nil, List.cons_append, List.nil_append, enc_atom] <;> (try rfl)
      intro i hi
      have hl : (([atomX x.fName] ++ (x.fArgs.map sxT).take i).map MSExpr.enc).length ≤ i + 2 := by
        rw [List.length_map, List.length_append]
        have := List.length_take_le i (x.fArgs.map sxT)
        simp only [List.length_cons, List.length_nil]; omega
      have hs := fun hi => encX_snoc (base := [atomX x.fName]) (l := x.fArgs.map sxT) (i := i) hi
      have hrw := enc_rows (l := [atomX x.fName] ++ (x.fArgs.map sxT).take i)
      generalize hR : ([atomX x.fName] ++ (x.fArgs.map sxT).take i).map MSExpr.enc = R at hl hs hrw
      simp -implicitDefEqProofs (disch := omega) only [go_sem]
      with_reducible refine split2 (fun hb => ?_) (fun hb => ?_) <;> have h := hb <;> (try simp only [wf_preprocess] at h) <;> simp -implicitDefEqProofs (disch := omega) only [go_sem, hb] <;> (repeat (with_reducible refine And.intro ?_ ?_; focus first | omega | rfl | assumption | exact ⟨_, rfl, rfl⟩ | (simp; omega) | (simp; done)))
      · have hi' : i < x.fArgs.length := by omega
        have hs' := hs (by rw [List.length_map]; exact hi')
        rw [List.getElem_map] at hs'
        (repeat (with_reducible refine And.intro ?_ ?_; focus first | omega | rfl | assumption | exact ⟨_, rfl, rfl⟩ | (simp; omega) | (simp; done)))
        refine call_w (ih x.fArgs[i] (by have := List.sizeOf_lt_of_mem (List.getElem_mem hi'); omega) (hall _ (List.getElem_mem hi'))) ?_
        simp -implicitDefEqProofs (disch := omega) only [go_sem]
        (repeat (with_reducible refine And.intro ?_ ?_; focus first | omega | rfl | assumption | exact ⟨_, rfl, rfl⟩ | (simp; omega) | (simp; done)))
        rw [hs']
        exact inv_at (i + 1) (by omega) rfl rfl (by omega)
      · have hi' : i = (x.fArgs.map sxT).length := by rw [List.length_map]; omega
        rw [hx, ← hR, hi', List.take_length]
        simp only [fAtom_list, fList_list, List.cons_append, List.nil_append]
theorem specTy_ok (x : MType) (hsz : x.sz ≤ 4194304) : PCall Tryz.prog 90 [x.v] (.agg [.d (.s (sxT x).fAtom), .d (.sl ((sxT x).fList.map MSExpr.enc))]) := specTy_all _ x (Nat.lt_succ_self _) hsz
theorem specTys_ok (xs : List MType) (hlen : xs.length ≤ 4194304) (hsz : ∀ t ∈ xs, t.sz ≤ 4194304) : PCall Tryz.prog 38 [.c (.d (.sl (xs.map MType.enc)))] (.c (.d (.sl ((xs.map sxT).map MSExpr.enc)))) := fun S => by
  refine acall_cw (rs := [.tmp 2]) Tryz.checked.mixed Tryz.func38 Tryz.ntmps38 rfl rfl rfl rfl rfl ?_
  simp -implicitDefEqProofs (disch := omega) only [go_sem]
  (repeat (with_reducible refine And.intro ?_ ?_; focus first | omega | rfl | assumption | exact ⟨_, rfl, rfl⟩ | (simp; omega) | (simp; done)))
  refine aw_tok 3 2 [] rfl (by simp) ?_
  refine loop_at (ι := Nat) Tryz.checked.mixed rfl [0, 3, 4] (fun i => [.c (.d (.sl (xs.map MType.enc))), .c (.tsl (0, 0) (((xs.map sxT).take i).map MSExpr.enc)), .c (.d (.i .i64 i))]) (fun i => [.tok 2 (((xs.map sxT).take i).map MSExpr.enc)] :: S)
    (fun i => i ≤ xs.length) (fun i => xs.length - i) 0 rfl rfl (Nat.zero_le _) ?_
  intro i hi
  have hl : (((xs.map sxT).take i).map MSExpr.enc).length ≤ i := by rw [List.length_map]; exact List.length_take_le _ _
  simp -implicitDefEqProofs (disch := omega) only [go_sem]
  with_reducible refine split2 (fun hb => ?_) (fun hb => ?_) <;> have h := hb <;> (try simp only [wf_preprocess] at h) <;> simp -implicitDefEqProofs (disch := omega) only [go_sem, hb] <;> (repeat (with_reducible refine And.intro ?_ ?_; focus first | omega | rfl | assumption | exact ⟨_, rfl, rfl⟩ | (simp; omega) | (simp; done)))
  · have hi' : i < xs.length := by omega
    have hs := encX_snoc (base := []) (l := xs.map sxT) (i := i) (by rw [List.length_map]; exact hi')
    rw [List.getElem_map] at hs
    simp only [List.nil_append] at hs
    (repeat (with_reducible refine And.intro ?_ ?_; focus first | omega | rfl | assumption | exact ⟨_, rfl, rfl⟩ | (simp; omega) | (simp; done)))
    refine call_w (specTy_ok xs[i] (hsz _ (List.getElem_mem hi'))) ?_
    simp -implicitDefEqProofs (disch := omega) only [go_sem]
    (repeat (with_reducible refine And.intro ?_ ?_; focus first | omega | rfl | assumption | exact ⟨_, rfl, rfl⟩ | (simp; omega) | (simp; done)))
    rw [hs]
    exact inv_at (i + 1) (by omega) rfl rfl (by omega)
  · have hi' : i = (xs.map sxT).length := by rw [List.length_map]; omega
    rw [hi', List.take_length]
theorem specIf_ok (b : Bool) (x : MSExpr) (hsz : x.sz ≤ 67108864) : PCall Tryz.prog 39 [.c (.d (.b b)), x.v] (outX b x).v := by
  have zero : PCall Tryz.prog 39 [.c (.d (.b b)), x.v] (.agg [.d (.s []), .fsl []]) → PCall Tryz.prog 39 [.c (.d (.b b)), x.v] zeroX.v := fun h => PCall.less h (less_xf [] [])
  cases b with
  | false =>
    refine zero fun S => ?_
    refine acall_cw (rs := [.cell 4 29]) Tryz.checked.mixed Tryz.func39 Tryz.ntmps39 rfl rfl rfl rfl rfl ?_
    simp -implicitDefEqProofs (disch := omega) only [go_sem]
  | true =>
    show PCall Tryz.prog 39 [.c (.d (.b true)), x.v] (ifX x).v
    unfold ifX
    cases hv : validX x with
    | false =>
      refine zero fun S => ?_
      refine acall_cw (rs := [.cell 4 29]) Tryz.checked.mixed Tryz.func39 Tryz.ntmps39 rfl rfl rfl rfl rfl ?_
      simp -implicitDefEqProofs (disch := omega) only [go_sem]
      refine call_w (specValidX_ok x hsz) ?_
      simp -implicitDefEqProofs (disch := omega) only [go_sem, hv]
    | true =>
      intro S
      refine acall_cw (rs := [.cell 4 29]) Tryz.checked.mixed Tryz.func39 Tryz.ntmps39 rfl rfl rfl rfl rfl ?_
      simp -implicitDefEqProofs (disch := omega) only [go_sem]
      refine call_w (specValidX_ok x hsz) ?_
      simp -implicitDefEqProofs (disch := omega) only [go_sem, hv]
theorem implIf_lab (x : MSExpr) (n : Nat) (hsz : x.sz ≤ 67108864) : PCall Tryz.prog 44 [.agg [.d (.s x.fAtom), .d (.ol n (lx x.fList (n + 1)))]] (.agg [.d (.s (ifX x).fAtom), .d (.ol n (lx (ifX x).fList (n + 1)))]) := by
  unfold ifX
  cases hv : validX x with
  | false =>
    refine PCall.less (fun S => ?_) (less_x0 [] n)
    refine acall_cw (rs := [.cell 2 29]) Tryz.checked.mixed Tryz.func44 Tryz.ntmps44 rfl rfl rfl rfl rfl ?_
    simp -implicitDefEqProofs (disch := omega) only [go_sem]
    refine call_l (implValidX_ok x hsz) (.cons (less_lx x n) .nil) ?_
    simp -implicitDefEqProofs (disch := omega) only [go_sem, hv]
  | true =>
    intro S
    refine acall_cw (rs := [.cell 2 29]) Tryz.checked.mixed Tryz.func44 Tryz.ntmps44 rfl rfl rfl rfl rfl ?_
    simp -implicitDefEqProofs (disch := omega) only [go_sem]
    refine call_l (implValidX_ok x hsz) (.cons (less_lx x n) .nil) ?_
    simp -implicitDefEqProofs (disch := omega) only [go_sem, hv]
end Go.Proofs.YtokcpelkieeddaaGreat

namespace Go.Ab
theorem MDataType.bounds {x : MDataType} (h : x.sz ≤ 4194304) : x.fName.length ≤ 4194304 ∧ x.fVars.length ≤ 4194304 ∧ x.fConstructors.length ≤ 4194304 ∧ ∀ s ∈ x.fVars, s.length ≤ 4194304 := by
  simp only [MDataType.sz, MDataType.enc_eq, szRow, szRow_append, D.sz, List.length_map] at h
  refine ⟨by omega, by omega, by omega, fun s hs => ?_⟩
  have := strs_b hs
  omega
theorem MDataType.con_b {x : MDataType} {i : Nat} (hi : i < x.fConstructors.length) (h : x.sz ≤ 4194304) : x.fConstructors[i].sz ≤ 4194304 := by
  have hx : x.fConstructors[i].sz ≤ szRows (x.fConstructors.map MConstructor.enc) := szRows_mem (List.mem_map_of_mem (List.getElem_mem hi))
  simp only [MDataType.sz, MDataType.enc_eq, szRow, szRow_append, D.sz, List.length_map] at h
  omega
theorem MConstructor.bounds {x : MConstructor} (h : x.sz ≤ 4194304) : x.fName.length ≤ 4194304 ∧ x.fFields.length ≤ 4194304 ∧ ∀ t ∈ x.fFields, t.sz ≤ 4194304 := by
  simp only [MConstructor.sz, MConstructor.enc_eq, szRow, szRow_append, D.sz, List.length_map] at h
  refine ⟨by omega, by omega, fun t ht => ?_⟩
  have hx : t.sz ≤ szRows (x.fFields.map MType.enc) := szRows_mem (List.mem_map_of_mem ht)
  omega
noncomputable def consOk (vars : List (List UInt8)) (c : MConstructor) : Bool := dec (c.fFields.length ≤ 4) && typesOver vars c.fFields
noncomputable def consNames (d : MDataType) : List (List UInt8) := d.fConstructors.map MConstructor.fName
noncomputable def validData (d : MDataType) : Bool :=
  validName d.fName && (dec (d.fVars.length ≤ 3) && (namesOk d.fVars && (dec (1 ≤ d.fConstructors.length) && (dec (d.fConstructors.length ≤ 5) && (d.fConstructors.all (consOk d.fVars) && namesOk (consNames d))))))
end Go.Ab
namespace Go.Proofs.YtokcpelkieeddaaGreat
open Go Go.Ab
theorem specValidData_ok (d : MDataType) (hsz : d.sz ≤ 4194304) : PCall Tryz.prog 40 [d.v] (.c (.d (.b (validData d)))) := fun S => by
  have hb0 := MDataType.bounds hsz
  have bad : ∀ i, ∀ hi : i < d.fConstructors.length, consOk d.fVars d.fConstructors[i] = false → validData d = false := fun i hi h => by
    have : d.fConstructors.all (consOk d.fVars) = false := Bool.eq_false_iff.2 fun hx => by
      rw [List.all_eq_true.1 hx _ (List.getElem_mem hi)] at h; cases h
    unfold validData
    rw [this]; simp
  refine acall_cw (rs := [.tmp 2]) Tryz.checked.mixed Tryz.func40 Tryz.ntmps40 rfl rfl rfl rfl rfl ?_
  simp -implicitDefEqProofs (disch := omega) only [go_sem]
  (repeat (with_reducible refine And.intro ?_ ?_; focus first | omega | rfl | assumption | exact ⟨_, rfl, rfl⟩ | (simp; omega) | (simp; done)))
  refine aw_tok 3 1 [] rfl (by simp) ?_
  refine loop_at (ι := Nat × List (List UInt8)) Tryz.checked.mixed rfl [1, 3, 4] (fun y => [.c (.ptr (0, 0) 0), .c (.tsl (0, 1) (y.2.map encS)), .c (.d (.i .i64 y.1))]) (fun y => [.box (d.enc.map .d), .tok 1 (y.2.map encS)] :: S)
    (fun y => y.1 ≤ d.fConstructors.length ∧ y.2 = (consNames d).take y.1 ∧ ∀ j, ∀ hj : j < d.fConstructors.length, j < y.1 → consOk d.fVars d.fConstructors[j] = true) (fun y => d.fConstructors.length - y.1) (0, []) rfl ?_ ⟨Nat.zero_le _, rfl, fun j _ h => by simp only at h; omega⟩ ?_
  · simp -implicitDefEqProofs (disch := omega) only [go_sem]
  rintro ⟨i, names⟩ ⟨p1, p2, p3⟩
  simp only at p1 p2 p3
  have pl : names.length ≤ d.fConstructors.length := by rw [p2]; simp [consNames]; omega
  simp -implicitDefEqProofs (disch := omega) only [go_sem]
  with_reducible refine split2 (fun hb => ?_) (fun hb => ?_) <;> have h := hb <;> (try simp only [wf_preprocess] at h) <;> simp -implicitDefEqProofs (disch := omega) only [go_sem, hb] <;> (repeat (with_reducible refine And.intro ?_ ?_; focus first | omega | rfl | assumption | exact ⟨_, rfl, rfl⟩ | (simp; omega) | (simp; done)))
  · have hi : i < d.fConstructors.length := by omega
    have hc := MConstructor.bounds (MDataType.con_b hi hsz)
    (repeat (with_reducible refine And.intro ?_ ?_; focus first | omega | rfl | assumption | exact ⟨_, rfl, rfl⟩ | (simp; omega) | (simp; done)))
    with_reducible refine split2 (fun hb => ?_) (fun hb => ?_) <;> have h := hb <;> (try simp only [wf_preprocess] at h) <;> simp -implicitDefEqProofs (disch := omega) only [go_sem, hb] <;> (repeat (with_reducible refine And.intro ?_ ?_; focus first | omega | rfl | assumption | exact ⟨_, rfl, rfl⟩ | (simp; omega) | (simp; done)))
    · rw [bad i hi (by unfold consOk; rw [dec_false (by omega)]; rfl)]
    have h1 := h
    (repeat (with_reducible refine And.intro ?_ ?_; focus first | omega | rfl | assumption | exact ⟨_, rfl, rfl⟩ | (simp; omega) | (simp; done)))
    refine call_w (l13All_ok d.fConstructors[i].fFields d.fVars (by omega) hc.2.2 (by omega)) ?_
    simp -implicitDefEqProofs (disch := omega) only [go_sem] <;> (repeat (with_reducible refine And.intro ?_ ?_; focus first | omega | rfl | assumption | exact ⟨_, rfl, rfl⟩ | (simp; omega) | (simp; done)))
    with_reducible refine split2 (fun hb => ?_) (fun hb => ?_) <;> have h := hb <;> (try simp only [wf_preprocess] at h) <;> simp -implicitDefEqProofs (disch := omega) only [go_sem, hb] <;> (repeat (with_reducible refine And.intro ?_ ?_; focus first | omega | rfl | assumption | exact ⟨_, rfl, rfl⟩ | (simp; omega) | (simp; done)))
    · rw [bad i hi (by unfold consOk; rw [h]; simp)]
    have h2 := h
    (repeat (with_reducible refine And.intro ?_ ?_; focus first | omega | rfl | assumption | exact ⟨_, rfl, rfl⟩ | (simp; omega) | (simp; done)))
    rw [show List.map encS names ++ [[D.s d.fConstructors[i].fName]] = List.map encS (names ++ [d.fConstructors[i].fName]) by simp [encS]]
    exact inv_at (i + 1, names ++ [d.fConstructors[i].fName]) (by simp only; omega) rfl rfl ⟨by simp only; omega, by simp only; rw [p2, take_snoc (by simpa [consNames] using hi)]; simp [consNames], fun j hj hji => by
      simp only at hji
      by_cases e : j = i
      · subst e; unfold consOk; rw [h2, dec_true (by omega)]; rfl
      · exact p3 j hj (by omega)⟩
  have hi : i = d.fConstructors.length := by omega
  have hn : names = consNames d := by rw [p2, List.take_of_length_le (by simp [consNames]; omega)]
  have hall : d.fConstructors.all (consOk d.fVars) = true := List.all_eq_true.2 fun c hc => by
    obtain ⟨j, hj, e⟩ := List.getElem_of_mem hc
    rw [← e]; exact p3 j hj (by omega)
  have hnl : ∀ s ∈ names, s.length ≤ 4194304 := fun s hs => by
    rw [hn] at hs
    obtain ⟨c, hc, e⟩ := List.mem_map.1 hs
    obtain ⟨j, hj, e'⟩ := List.getElem_of_mem hc
    rw [← e, ← e']; exact (MConstructor.bounds (MDataType.con_b hj hsz)).1
  have hlen : names.length = d.fConstructors.length := by rw [hn]; simp [consNames]
  refine call_w (specValidName_ok d.fName (by omega)) ?_
  simp -implicitDefEqProofs (disch := omega) only [go_sem] <;> (repeat (with_reducible refine And.intro ?_ ?_; focus first | omega | rfl | assumption | exact ⟨_, rfl, rfl⟩ | (simp; omega) | (simp; done)))
  with_reducible refine split2 (fun hb => ?_) (fun hb => ?_) <;> have h := hb <;> (try simp only [wf_preprocess] at h) <;> simp -implicitDefEqProofs (disch := omega) only [go_sem, hb] <;> (repeat (with_reducible refine And.intro ?_ ?_; focus first | omega | rfl | assumption | exact ⟨_, rfl, rfl⟩ | (simp; omega) | (simp; done)))
  · have h1 := h
    refine call_w (l13Words_ok d.fVars 3 (by omega) hb0.2.2.2) ?_
    simp -implicitDefEqProofs (disch := omega) only [go_sem] <;> (repeat (with_reducible refine And.intro ?_ ?_; focus first | omega | rfl | assumption | exact ⟨_, rfl, rfl⟩ | (simp; omega) | (simp; done)))
    with_reducible refine split2 (fun hb => ?_) (fun hb => ?_) <;> have h := hb <;> (try simp only [wf_preprocess] at h) <;> simp -implicitDefEqProofs (disch := omega) only [go_sem, hb] <;> (repeat (with_reducible refine And.intro ?_ ?_; focus first | omega | rfl | assumption | exact ⟨_, rfl, rfl⟩ | (simp; omega) | (simp; done)))
    · have h2 := h
      with_reducible refine split2 (fun hb => ?_) (fun hb => ?_) <;> have h := hb <;> (try simp only [wf_preprocess] at h) <;> simp -implicitDefEqProofs (disch := omega) only [go_sem, hb] <;> (repeat (with_reducible refine And.intro ?_ ?_; focus first | omega | rfl | assumption | exact ⟨_, rfl, rfl⟩ | (simp; omega) | (simp; done)))
      · have h3 := h
        refine call_w (l13Words_ok names 5 (by omega) hnl) ?_
        simp -implicitDefEqProofs (disch := omega) only [go_sem] <;> (repeat (with_reducible refine And.intro ?_ ?_; focus first | omega | rfl | assumption | exact ⟨_, rfl, rfl⟩ | (simp; omega) | (simp; done)))
        refine bool_eq ?_
        rw [Bool.and_eq_true] at h2
        have h4 := of_dec h2.1
        unfold validData
        rw [h1, h2.2, hall, ← hn, dec_true (show d.fVars.length ≤ 3 by omega), dec_true (show 1 ≤ d.fConstructors.length by omega), hlen]
        simp only [Bool.true_and]
        congr 1
        exact dec_congr ⟨fun h => by omega, fun h => by omega⟩
      · refine bool_eq ?_
        unfold validData
        rw [dec_false (show ¬ 1 ≤ d.fConstructors.length by omega)]; simp
    · refine bool_eq ?_
      unfold validData
      have h2 : (dec (d.fVars.length ≤ 3) && namesOk d.fVars) = false := by
        rw [← h]; congr 1; exact dec_congr ⟨fun h => by omega, fun h => by omega⟩
      rw [← Bool.and_assoc (dec (d.fVars.length ≤ 3)), h2]; simp
  · exact bool_eq (by unfold validData; rw [h]; rfl)
theorem implValidData_ok (d : MDataType) (hsz : d.sz ≤ 4194304) : PCall Tryz.prog 43 [d.v] (.c (.d (.b (validData d)))) := fun S => by
  have hb0 := MDataType.bounds hsz
  have bad : ∀ i, ∀ hi : i < d.fConstructors.length, consOk d.fVars d.fConstructors[i] = false → validData d = false := fun i hi h => by
    have : d.fConstructors.all (consOk d.fVars) = false := Bool.eq_false_iff.2 fun hx => by
      rw [List.all_eq_true.1 hx _ (List.getElem_mem hi)] at h; cases h
    unfold validData
    rw [this]; simp
  refine acall_cw (rs := [.tmp 2]) Tryz.checked.mixed Tryz.func43 Tryz.ntmps43 rfl rfl rfl rfl rfl ?_
  simp -implicitDefEqProofs (disch := omega) only [go_sem]
  refine call_w (implValidName_ok d.fName (by omega)) ?_
  simp -implicitDefEqProofs (disch := omega) only [go_sem] <;> (repeat (with_reducible refine And.intro ?_ ?_; focus first | omega | rfl | assumption | exact ⟨_, rfl, rfl⟩ | (simp; omega) | (simp; done)))
  with_reducible refine split2 (fun hb => ?_) (fun hb => ?_) <;> have h := hb <;> (try simp only [wf_preprocess] at h) <;> simp -implicitDefEqProofs (disch := omega) only [go_sem, hb] <;> (repeat (with_reducible refine And.intro ?_ ?_; focus first | omega | rfl | assumption | exact ⟨_, rfl, rfl⟩ | (simp; omega) | (simp; done)))
  · exact bool_eq (by unfold validData; rw [h]; rfl)
  have h1 := h
  with_reducible refine split2 (fun hb => ?_) (fun hb => ?_) <;> have h := hb <;> (try simp only [wf_preprocess] at h) <;> simp -implicitDefEqProofs (disch := omega) only [go_sem, hb] <;> (repeat (with_reducible refine And.intro ?_ ?_; focus first | omega | rfl | assumption | exact ⟨_, rfl, rfl⟩ | (simp; omega) | (simp; done)))
  · exact bool_eq (by unfold validData; rw [dec_false (show ¬ d.fVars.length ≤ 3 by omega)]; simp)
  have h2 := h
  refine call_w (areNames_ok d.fVars (by omega) hb0.2.2.2) ?_
  simp -implicitDefEqProofs (disch := omega) only [go_sem] <;> (repeat (with_reducible refine And.intro ?_ ?_; focus first | omega | rfl | assumption | exact ⟨_, rfl, rfl⟩ | (simp; omega) | (simp; done)))
  with_reducible refine split2 (fun hb => ?_) (fun hb => ?_) <;> have h := hb <;> (try simp only [wf_preprocess] at h) <;> simp -implicitDefEqProofs (disch := omega) only [go_sem, hb] <;> (repeat (with_reducible refine And.intro ?_ ?_; focus first | omega | rfl | assumption | exact ⟨_, rfl, rfl⟩ | (simp; omega) | (simp; done)))
  · exact bool_eq (by unfold validData; rw [h]; simp)
  have h3 := h
  with_reducible refine split2 (fun hb => ?_) (fun hb => ?_) <;> have h := hb <;> (try simp only [wf_preprocess] at h) <;> simp -implicitDefEqProofs (disch := omega) only [go_sem, hb] <;> (repeat (with_reducible refine And.intro ?_ ?_; focus first | omega | rfl | assumption | exact ⟨_, rfl, rfl⟩ | (simp; omega) | (simp; done)))
  · exact bool_eq (by unfold validData; rw [dec_false (show ¬ 1 ≤ d.fConstructors.length by omega)]; simp)
  have h4 := h
  with_reducible refine split2 (fun hb => ?_) (fun hb => ?_) <;> have h := hb <;> (try simp only [wf_preprocess] at h) <;> simp -implicitDefEqProofs (disch := omega) only [go_sem, hb] <;> (repeat (with_reducible refine And.intro ?_ ?_; focus first | omega | rfl | assumption | exact ⟨_, rfl, rfl⟩ | (simp; omega) | (simp; done)))
  · exact bool_eq (by unfold validData; rw [dec_false (show ¬ d.fConstructors.length ≤ 5 by omega)]; simp)
  have h5 := h
  (repeat (with_reducible refine And.intro ?_ ?_; focus first | omega | rfl | assumption | exact ⟨_, rfl, rfl⟩ | (simp; omega) | (simp; done)))
  refine aw_tok 3 1 [] rfl (by simp) ?_
  refine loop_at (ι := Nat × List (List UInt8)) Tryz.checked.mixed rfl [1, 3, 36, 37, 38] (fun y => [.c (.ptr (0, 0) 0), .c (.tsl (0, 1) (y.2.map encS)), .c (.d (.sl (d.fConstructors.map MConstructor.enc))), .c (.d (.i .i64 d.fConstructors.length)), .c (.d (.i .i64 y.1))]) (fun y => [.box (d.enc.map .d), .tok 1 (y.2.map encS)] :: S)
    (fun y => y.1 ≤ d.fConstructors.length ∧ y.2 = (consNames d).take y.1 ∧ ∀ j, ∀ hj : j < d.fConstructors.length, j < y.1 → consOk d.fVars d.fConstructors[j] = true) (fun y => d.fConstructors.length - y.1) (0, []) rfl ?_ ⟨Nat.zero_le _, rfl, fun j _ h => by simp only at h; omega⟩ ?_
  · simp -implicitDefEqProofs (disch := omega) only [go_sem]
  rintro ⟨i, names⟩ ⟨p1, p2, p3⟩
  simp only at p1 p2 p3
  have pl : names.length ≤ d.fConstructors.length := by rw [p2]; simp [consNames]; omega
  simp -implicitDefEqProofs (disch := omega) only [go_sem]
  with_reducible refine split2 (fun hb => ?_) (fun hb => ?_) <;> have h := hb <;> (try simp only [wf_preprocess] at h) <;> simp -implicitDefEqProofs (disch := omega) only [go_sem, hb] <;> (repeat (with_reducible refine And.intro ?_ ?_; focus first | omega | rfl | assumption | exact ⟨_, rfl, rfl⟩ | (simp; omega) | (simp; done)))
  · have hi : i < d.fConstructors.length := by omega
    have hc := MConstructor.bounds (MDataType.con_b hi hsz)
    (repeat (with_reducible refine And.intro ?_ ?_; focus first | omega | rfl | assumption | exact ⟨_, rfl, rfl⟩ | (simp; omega) | (simp; done)))
    with_reducible refine split2 (fun hb => ?_) (fun hb => ?_) <;> have h := hb <;> (try simp only [wf_preprocess] at h) <;> simp -implicitDefEqProofs (disch := omega) only [go_sem, hb] <;> (repeat (with_reducible refine And.intro ?_ ?_; focus first | omega | rfl | assumption | exact ⟨_, rfl, rfl⟩ | (simp; omega) | (simp; done)))
    · rw [bad i hi (by unfold consOk; rw [dec_false (by omega)]; rfl)]
    have k1 := h
    (repeat (with_reducible refine And.intro ?_ ?_; focus first | omega | rfl | assumption | exact ⟨_, rfl, rfl⟩ | (simp; omega) | (simp; done)))
    refine call_w (areTypesOver_ok d.fConstructors[i].fFields d.fVars (by omega) hc.2.2 (by omega)) ?_
    simp -implicitDefEqProofs (disch := omega) only [go_sem] <;> (repeat (with_reducible refine And.intro ?_ ?_; focus first | omega | rfl | assumption | exact ⟨_, rfl, rfl⟩ | (simp; omega) | (simp; done)))
    with_reducible refine split2 (fun hb => ?_) (fun hb => ?_) <;> have h := hb <;> (try simp only [wf_preprocess] at h) <;> simp -implicitDefEqProofs (disch := omega) only [go_sem, hb] <;> (repeat (with_reducible refine And.intro ?_ ?_; focus first | omega | rfl | assumption | exact ⟨_, rfl, rfl⟩ | (simp; omega) | (simp; done)))
    · rw [bad i hi (by unfold consOk; rw [h]; simp)]
    have k2 := h
    (repeat (with_reducible refine And.intro ?_ ?_; focus first | omega | rfl | assumption | exact ⟨_, rfl, rfl⟩ | (simp; omega) | (simp; done)))
    rw [show List.map encS names ++ [[D.s d.fConstructors[i].fName]] = List.map encS (names ++ [d.fConstructors[i].fName]) by simp [encS]]
    exact inv_drop 2 (by decide) (i + 1, names ++ [d.fConstructors[i].fName]) (by simp only; omega) rfl rfl rfl rfl ⟨by simp only; omega, by simp only; rw [p2, take_snoc (by simpa [consNames] using hi)]; simp [consNames], fun j hj hji => by
      simp only at hji
      by_cases e : j = i
      · subst e; unfold consOk; rw [k2, dec_true (by omega)]; rfl
      · exact p3 j hj (by omega)⟩
  have hi : i = d.fConstructors.length := by omega
  have hn : names = consNames d := by rw [p2, List.take_of_length_le (by simp [consNames]; omega)]
  have hall : d.fConstructors.all (consOk d.fVars) = true := List.all_eq_true.2 fun c hc => by
    obtain ⟨j, hj, e⟩ := List.getElem_of_mem hc
    rw [← e]; exact p3 j hj (by omega)
  have hnl : ∀ s ∈ names, s.length ≤ 4194304 := fun s hs => by
    rw [hn] at hs
    obtain ⟨c, hc, e⟩ := List.mem_map.1 hs
    obtain ⟨j, hj, e'⟩ := List.getElem_of_mem hc
    rw [← e, ← e']; exact (MConstructor.bounds (MDataType.con_b hj hsz)).1
  refine call_w (areNames_ok names (by omega) hnl) ?_
  simp -implicitDefEqProofs (disch := omega) only [go_sem] <;> (repeat (with_reducible refine And.intro ?_ ?_; focus first | omega | rfl | assumption | exact ⟨_, rfl, rfl⟩ | (simp; omega) | (simp; done)))
  exact bool_eq (by unfold validData; rw [h1, h3, hall, ← hn, dec_true (show d.fVars.length ≤ 3 by omega), dec_true (show 1 ≤ d.fConstructors.length by omega), dec_true (show d.fConstructors.length ≤ 5 by omega)]; simp)
end Go.Proofs.YtokcpelkieeddaaGreat

namespace Go.Ab
def wData : List UInt8 := [100, 97, 116, 97]
def sxC (c : MConstructor) : MSExpr := listX ([atomX c.fName] ++ c.fFields.map sxT)
def baseD (d : MDataType) : List MSExpr := [atomX wData, atomX d.fName, listX (wordsX d.fVars)]
def sxD (d : MDataType) : MSExpr := listX (baseD d ++ d.fConstructors.map sxC)
noncomputable def outD (d : MDataType) : MSExpr := outX (validData d) (sxD d)
theorem outD_sz {d : MDataType} (h : d.sz ≤ 1048576) : (outD d).sz ≤ 1048576 := Nat.le_trans (outX_sz _ _) (by decide)
theorem lx_snocB {base l : List MSExpr} {i : Nat} (hi : i < l.length) (q : Nat) : lx (base ++ l.take i) q ++ [[.s l[i].fAtom, .ol (q + cntXs (base ++ l.take i)) (lx l[i].fList (q + cntXs (base ++ l.take i) + 1))]] = lx (base ++ l.take (i + 1)) q := by
  rw [List.take_succ_eq_append_getElem hi, ← List.append_assoc, lx_append (base ++ l.take i), lx_cons, lx_nil, labX_eq]
def szC : List MConstructor → Nat
  | [] => 0
  | x :: xs => x.sz + szC xs
theorem szC_rows : ∀ l, szRows (l.map MConstructor.enc) = szC l
  | [] => rfl
  | x :: xs => by rw [List.map_cons, szRows, szC, szC_rows xs]; rfl
theorem con_sz_eq (x : MConstructor) : x.sz = x.fName.length + (x.fFields.length + szT x.fFields) := by
  rw [← szT_rows]; simp only [MConstructor.sz, MConstructor.enc_eq, szRow, D.sz, List.length_map]; omega
theorem data_sz_eq (x : MDataType) : x.sz = x.fName.length + (x.fVars.length + (x.fVars.map List.length).sum) + (x.fConstructors.length + szC x.fConstructors) := by
  rw [← szC_rows, ← szRows_encS]; simp only [MDataType.sz, MDataType.enc_eq, szRow, D.sz, List.length_map]; omega
theorem sxC_le (c : MConstructor) : (sxC c).sz ≤ 1 + 16 * c.sz := by
  have := sxT_map_le c.fFields
  rw [sxC, sz_list, szX_append, List.length_append, List.length_map, con_sz_eq]
  simp [szX, sz_atom]; omega
theorem sxCs_le : ∀ l : List MConstructor, szX (l.map sxC) ≤ l.length + 16 * szC l
  | [] => by simp [szX]
  | c :: l => by
    have h1 := sxC_le c
    have h2 := sxCs_le l
    rw [List.map_cons, szX, szC, List.length_cons]; omega
theorem sxD_le (d : MDataType) : (sxD d).sz ≤ 7 + 16 * d.sz := by
  have := sxCs_le d.fConstructors
  rw [sxD, sz_list, szX_append, List.length_append, List.length_map, data_sz_eq]
  simp [baseD, szX, sz_atom, sz_list, words_len, szX_words, wData]; omega
theorem base_rows (n : Nat) (a b : List UInt8) (w : List (List UInt8)) : lx [atomX a, atomX b, listX (wordsX w)] (n + 1) = [[.s a, .ol (n + 1) []], [.s b, .ol (n + 1 + 1) []], [.s [], .ol (n + 1 + 1 + 1) (lx (wordsX w) (n + 1 + 1 + 1 + 1))]] := by
  simp only [lx_cons, lx_nil, labX_eq, fAtom_atom, fList_atom, fAtom_list, fList_list, cntX_atom]
theorem valid_formed {t : MType} (h : validType t = true) : formed t = true := (of_dec h).1
theorem typesOver_formed {vars : List (List UInt8)} {ts : List MType} (h : typesOver vars ts = true) : formeds ts = true := formeds_iff.2 fun t ht => by
  have := List.all_eq_true.1 h t ht
  unfold typeOver at this
  rw [Bool.and_eq_true] at this
  exact valid_formed this.1
theorem validData_cons {d : MDataType} (h : validData d = true) : ∀ c ∈ d.fConstructors, formeds c.fFields = true := fun c hc => by
  have h1 : d.fConstructors.all (consOk d.fVars) = true := by
    unfold validData at h
    simp only [Bool.and_eq_true] at h
    simp_all
  have h2 := List.all_eq_true.1 h1 c hc
  unfold consOk at h2
  rw [Bool.and_eq_true] at h2
  exact typesOver_formed h2.2
theorem ty_mem_sz {l : List MType} {t : MType} (h : t ∈ l) : t.sz ≤ szT l := by
  rw [← szT_rows]; exact szRows_mem (List.mem_map_of_mem h)
theorem con_mem_sz {l : List MConstructor} {t : MConstructor} (h : t ∈ l) : t.sz ≤ szC l := by
  rw [← szC_rows]; exact szRows_mem (List.mem_map_of_mem h)
end Go.Ab
namespace Go.Proofs.YtokcpelkieeddaaGreat
open Go Go.Ab
theorem implEncData_lab (d : MDataType) (n : Nat) (hv : validData d = true) (hsz : d.sz ≤ 1048576) : PCall Tryz.prog 45 [d.v] (.agg [.d (.s []), .d (.ol n (lx (sxD d).fList (n + 1)))]) := fun S => by
  have hdz := data_sz_eq d
  have hfo := validData_cons hv
  have hlen : d.fConstructors.length ≤ 1048576 := by omega
  obtain ⟨L, hL⟩ : ∃ L : Nat → Nat, L = fun i => n + 1 + cntXs (baseD d ++ (d.fConstructors.map sxC).take i) := ⟨_, rfl⟩
  obtain ⟨T, hT⟩ : ∃ T : Nat → List (List D), T = fun i => lx (baseD d ++ (d.fConstructors.map sxC).take i) (n + 1) := ⟨_, rfl⟩
  have hT0 : T 0 = [[.s wData, .ol (n + 1) []], [.s d.fName, .ol (n + 1 + 1) []], [.s [], .ol (n + 1 + 1 + 1) (lx (wordsX d.fVars) (n + 1 + 1 + 1 + 1))]] := by
    rw [hT]; simp only [List.take_zero, List.append_nil]; exact base_rows _ _ _ _
  have hTl : ∀ i, (T i).length ≤ i + 3 := fun i => by
    rw [hT]; simp only [lx_length, List.length_append]
    have := List.length_take_le i (d.fConstructors.map sxC)
    simp [baseD]; omega
  have hTs : ∀ i (hi : i < d.fConstructors.length), T i ++ [[.s [], .ol (L i) (lx ([atomX d.fConstructors[i].fName] ++ d.fConstructors[i].fFields.map sxT) (L i + 1))]] = T (i + 1) := fun i hi => by
    have := lx_snocB (base := baseD d) (l := d.fConstructors.map sxC) (i := i) (by rw [List.length_map]; exact hi) (n + 1)
    rw [List.getElem_map] at this
    rw [hT, hL]; exact this
  have hTr : ∀ i, ∀ r ∈ T i, r.length = 2 := fun i => by rw [hT]; exact lx_rows
  have hTe : T d.fConstructors.length = lx (sxD d).fList (n + 1) := by
    rw [hT]; simp only
    rw [List.take_of_length_le (by simp)]; rfl
  clear hT hL
  refine acall_cwLs (n) 1 (rs := [.cell 2 29]) Tryz.checked.mixed Tryz.func45 Tryz.ntmps45 rfl rfl rfl rfl rfl ?_
  simp -implicitDefEqProofs (disch := omega) only [go_sem]
  refine call_w (implAtom_lab _ (n + 1)) ?_
  simp -implicitDefEqProofs (disch := omega) only [go_sem]
  refine call_w (implAtom_lab _ (n + 1 + 1)) ?_
  simp -implicitDefEqProofs (disch := omega) only [go_sem]
  refine call_w (implNameList_lab d.fVars (by omega) (n + 1 + 1 + 1)) ?_
  simp -implicitDefEqProofs (disch := omega) only [go_sem]
  (repeat (with_reducible refine And.intro ?_ ?_; focus first | omega | rfl | assumption | exact ⟨_, rfl, rfl⟩ | (simp; omega) | (simp; done)))
  refine aw_ltok n 3 2 (T 0) (.inl ?_) (hTr 0) ?_
  · rw [hT0]; rfl
  refine aw_reseed (L 0) ?_
  refine loop_at (ι := Nat) Tryz.checked.mixed rfl [2, 3, 15, 16, 17] (fun i => [.c (.ptr (0, 3) 0), .c (.tsl (0, 4) (T i)), .c (.d (.sl (d.fConstructors.map MConstructor.enc))), .c (.d (.i .i64 d.fConstructors.length)), .c (.d (.i .i64 i))])
    (fun i => [.seed (L i), .seed 1, .box [.d (.s d.fName), .d (.sl (d.fVars.map encS)), .d (.sl (d.fConstructors.map MConstructor.enc))], .box [.d (.s []), .fsl []], .ltok n 2 (T i)] :: S)
    (fun i => i ≤ d.fConstructors.length) (fun i => d.fConstructors.length - i) 0 rfl rfl (Nat.zero_le _) ?_
  intro i hi
  have hl := hTl i
  simp -implicitDefEqProofs (disch := omega) only [go_sem]
  with_reducible refine split2 (fun hb => ?_) (fun hb => ?_) <;> have h := hb <;> (try simp only [wf_preprocess] at h) <;> simp -implicitDefEqProofs (disch := omega) only [go_sem, hb] <;> (repeat (with_reducible refine And.intro ?_ ?_; focus first | omega | rfl | assumption | exact ⟨_, rfl, rfl⟩ | (simp; omega) | (simp; done)))
  · have hi' : i < d.fConstructors.length := by omega
    have hm := List.getElem_mem hi'
    have hcz := con_mem_sz hm
    have hce := con_sz_eq d.fConstructors[i]
    have hs := hTs i hi'
    (repeat (with_reducible refine And.intro ?_ ?_; focus first | omega | rfl | assumption | exact ⟨_, rfl, rfl⟩ | (simp; omega) | (simp; done)))
    refine call_w (implAtom_lab _ (L i + 1)) ?_
    simp -implicitDefEqProofs (disch := omega) only [go_sem]
    refine call_w (implTys_lab d.fConstructors[i].fFields 0 (L i + 1 + 1) (hfo _ hm) (by omega) (fun t ht => by have := ty_mem_sz ht; omega)) ?_
    simp -implicitDefEqProofs (disch := omega) only [go_sem]
    have hr := lx_rows (l := d.fConstructors[i].fFields.map sxT) (n := L i + 1 + 1)
    have hl2 : (lx (d.fConstructors[i].fFields.map sxT) (L i + 1 + 1)).length = d.fConstructors[i].fFields.length := by rw [lx_length, List.length_map]
    (repeat (with_reducible refine And.intro ?_ ?_; focus first | omega | rfl | assumption | exact ⟨_, rfl, rfl⟩ | (simp; omega) | (simp; done)))
    refine call_w (implList_d _) ?_
    simp -implicitDefEqProofs (disch := omega) only [go_sem]
    (repeat (with_reducible refine And.intro ?_ ?_; focus first | omega | rfl | assumption | exact ⟨_, rfl, rfl⟩ | (simp; omega) | (simp; done)))
    simp only [List.cons_append, List.nil_append, lx_cons, labX_atom, cntX_atom] at hs
    rw [hs]
    refine inv_seed (L (i + 1)) 4 (by decide) (i + 1) (by omega) rfl rfl ?_ rfl (by omega)
    simp [tmRefs, zipTm, V.refs, C.refs, refK]
  · have hi' : i = d.fConstructors.length := by omega
    refine call_d rfl (implList_t 0 4 _ _) ?_
    simp -implicitDefEqProofs (disch := omega) only [go_sem]
    rw [hi', hTe]
theorem implData_lab (d : MDataType) (n : Nat) (hsz : d.sz ≤ 1048576) : PCall Tryz.prog 10 [d.v] (.agg [.d (.s (outD d).fAtom), .d (.ol n (lx (outD d).fList (n + 1)))]) := by
  have hz := sxD_le d
  unfold outD
  cases hv : validData d with
  | false =>
    rw [outX]
    refine PCall.less (fun S => ?_) (less_x0 [] n)
    refine acall_cw (rs := [.cell 2 29]) Tryz.checked.mixed Tryz.func10 Tryz.ntmps10 rfl rfl rfl rfl rfl ?_
    simp -implicitDefEqProofs (disch := omega) only [go_sem]
    refine call_w (implValidData_ok d (by omega)) ?_
    simp -implicitDefEqProofs (disch := omega) only [go_sem, hv]
  | true =>
    intro S
    refine acall_cw (rs := [.cell 2 29]) Tryz.checked.mixed Tryz.func10 Tryz.ntmps10 rfl rfl rfl rfl rfl ?_
    simp -implicitDefEqProofs (disch := omega) only [go_sem]
    refine call_w (implValidData_ok d (by omega)) ?_
    simp -implicitDefEqProofs (disch := omega) only [go_sem, hv]
    refine call_w (implEncData_lab d n hv hsz) ?_
    simp -implicitDefEqProofs (disch := omega) only [go_sem]
    refine call_w (implIf_lab (sxD d) n (by omega)) ?_
    simp -implicitDefEqProofs (disch := omega) only [go_sem]
    rfl
theorem specData_ok (d : MDataType) (hsz : d.sz ≤ 1048576) : PCall Tryz.prog 8 [d.v] (outD d).v := fun S => by
  have hz := sxD_le d
  have hdz := data_sz_eq d
  obtain ⟨T, hT⟩ : ∃ T : Nat → List (List D), T = fun i => (baseD d ++ (d.fConstructors.map sxC).take i).map MSExpr.enc := ⟨_, rfl⟩
  have hT0 : T 0 = [[.s wData, .sl []], [.s d.fName, .sl []], [.s [], .sl ((wordsX d.fVars).map MSExpr.enc)]] := by
    rw [hT]; simp only [List.take_zero, List.append_nil, baseD, List.map_cons, List.map_nil, enc_atom, enc_list]
  have hTl : ∀ i, (T i).length ≤ i + 3 := fun i => by
    rw [hT]; simp only [List.length_map, List.length_append]
    have := List.length_take_le i (d.fConstructors.map sxC)
    simp [baseD]; omega
  have hTs : ∀ i (hi : i < d.fConstructors.length), T i ++ [[.s [], .sl (([atomX d.fConstructors[i].fName] ++ d.fConstructors[i].fFields.map sxT).map MSExpr.enc)]] = T (i + 1) := fun i hi => by
    have := encX_snoc (base := baseD d) (l := d.fConstructors.map sxC) (i := i) (by rw [List.length_map]; exact hi)
    rw [List.getElem_map] at this
    rw [hT]; exact this
  have hTr : ∀ i, ∀ r ∈ T i, r.length = 2 := fun i => by rw [hT]; exact enc_rows
  have hTe : T d.fConstructors.length = (sxD d).fList.map MSExpr.enc := by
    rw [hT]; simp only
    rw [List.take_of_length_le (by simp)]; rfl
  clear hT
  refine acall_cw (rs := [.cell 2 29]) Tryz.checked.mixed Tryz.func8 Tryz.ntmps8 rfl rfl rfl rfl rfl ?_
  simp -implicitDefEqProofs (disch := omega) only [go_sem]
  refine call_w (specAtom_ok _) ?_
  simp -implicitDefEqProofs (disch := omega) only [go_sem]
  refine call_w (specAtom_ok _) ?_
  simp -implicitDefEqProofs (disch := omega) only [go_sem]
  refine call_w (specNameList_ok d.fVars (by omega)) ?_
  simp -implicitDefEqProofs (disch := omega) only [go_sem]
  have hE := fun own0 Ω => specList_esc (T 0) (hTr 0) (by have := hTl 0; omega) own0 Ω
  simp only [hT0] at hE
  refine call_m [false] rfl (hE _ _) ?_
  simp -implicitDefEqProofs (disch := omega) only [go_sem]
  refine loop_at (ι := Nat) Tryz.checked.mixed rfl [1, 2, 3, 4] (fun i => [.c (.ptr (0, 0) 0), .c (.ptr (0, 1) 0), .c (.ptr (0, 4) 0), .c (.d (.i .i64 i))])
    (fun i => [.box [.d (.s d.fName), .d (.sl (d.fVars.map encS)), .d (.sl (d.fConstructors.map MConstructor.enc))], .box [.d (.s []), .fsl []], .box [.d (.s []), .tsl (0, 3) (T 0)], .tok 2 (T i), .box [.d (.s []), .tsl (0, 3) (T i)]] :: S)
    (fun i => i ≤ d.fConstructors.length) (fun i => d.fConstructors.length - i) 0 rfl (by simp only [hT0] <;> (try rfl)) (Nat.zero_le _) ?_
  intro i hi
  have hl := hTl i
  simp -implicitDefEqProofs (disch := omega) only [go_sem]
  with_reducible refine split2 (fun hb => ?_) (fun hb => ?_) <;> have h := hb <;> (try simp only [wf_preprocess] at h) <;> simp -implicitDefEqProofs (disch := omega) only [go_sem, hb] <;> (repeat (with_reducible refine And.intro ?_ ?_; focus first | omega | rfl | assumption | exact ⟨_, rfl, rfl⟩ | (simp; omega) | (simp; done)))
  · have hi' : i < d.fConstructors.length := by omega
    have hm := List.getElem_mem hi'
    have hcz := con_mem_sz hm
    have hce := con_sz_eq d.fConstructors[i]
    have hs := hTs i hi'
    (repeat (with_reducible refine And.intro ?_ ?_; focus first | omega | rfl | assumption | exact ⟨_, rfl, rfl⟩ | (simp; omega) | (simp; done)))
    refine call_w (specAtom_ok _) ?_
    simp -implicitDefEqProofs (disch := omega) only [go_sem]
    (repeat (with_reducible refine And.intro ?_ ?_; focus first | omega | rfl | assumption | exact ⟨_, rfl, rfl⟩ | (simp; omega) | (simp; done)))
    refine call_w (specTys_ok d.fConstructors[i].fFields (by omega) (fun t ht => by have := ty_mem_sz ht; omega)) ?_
    simp -implicitDefEqProofs (disch := omega) only [go_sem]
    have hr := enc_rows (l := d.fConstructors[i].fFields.map sxT)
    have hl2 : ((d.fConstructors[i].fFields.map sxT).map MSExpr.enc).length = d.fConstructors[i].fFields.length := by rw [List.length_map, List.length_map]
    (repeat (with_reducible refine And.intro ?_ ?_; focus first | omega | rfl | assumption | exact ⟨_, rfl, rfl⟩ | (simp; omega) | (simp; done)))
    simp only [List.cons_append, List.nil_append, List.map_cons, enc_atom] at hs
    rw [hs]
    exact inv_drop 5 (by decide) (i + 1) (by omega) rfl rfl rfl rfl (by omega)
  · have hi' : i = d.fConstructors.length := by omega
    subst hi'
    rw [hTe]
    refine call_w (specValidData_ok d (by omega)) ?_
    simp -implicitDefEqProofs (disch := omega) only [go_sem]
    refine call_w (specIf_ok (validData d) (sxD d) (by omega)) ?_
    simp -implicitDefEqProofs (disch := omega) only [go_sem]
    rfl
end Go.Proofs.YtokcpelkieeddaaGreat

namespace Go.Proofs.YtokcpelkieeddaaGreat
open Go Go.Ab
theorem toStringS_lab (xs : List (List UInt8)) : ∀ n : Nat, xs.length + szRows (xs.map encS) ≤ 1048576 → PCall Tryz.prog 41 [.c (.d (.sl (xs.map encS)))] (.c (.d (labD (.sl (xs.map encS)) n))) := by
  intro n hsz
  obtain ⟨T, hT⟩ : ∃ T, T = labRs (xs.map encS) (n + 1) := ⟨_, rfl⟩
  have hTl : T.length = xs.length := by rw [hT, labRs_length, List.length_map]
  show PCall Tryz.prog 41 [.c (.d (.sl (xs.map encS)))] (.c (.d (.ol n (labRs (xs.map encS) (n + 1))))) 
  rw [← hT]
  intro S
  refine acall_cwL (n) (rs := [.tmp 2]) Tryz.checked.mixed Tryz.func41 Tryz.ntmps41 rfl rfl rfl rfl rfl ?_
  simp -implicitDefEqProofs (disch := omega) only [go_sem]
  (repeat (with_reducible refine And.intro ?_ ?_; focus first | omega | rfl | assumption | exact ⟨_, rfl, rfl⟩ | (simp; omega) | (simp; done)))
  refine loop_at (ι := Nat × List (List D)) Tryz.checked.mixed rfl [0, 3, 4] (fun y => [.c (.d (.sl (xs.map encS))), .c (.msl (0, 1)), .c (.d (.i .i64 y.1))]) (fun y => [.seed n, .mrow 1 y.2] :: S)
    (fun y => y.1 ≤ xs.length ∧ Filled 1 y.1 y.2 T) (fun y => xs.length - y.1) (0, _) rfl rfl ⟨Nat.zero_le _, Filled.start (by simp [hTl]) rfl⟩ ?_
  rintro ⟨i, R⟩ ⟨p1, p2⟩
  simp only at p1 p2
  simp -implicitDefEqProofs (disch := omega) only [go_sem]
  with_reducible refine split2 (fun hb => ?_) (fun hb => ?_) <;> have h := hb <;> (try simp only [wf_preprocess] at h) <;> simp -implicitDefEqProofs (disch := omega) only [go_sem, hb] <;> (repeat (with_reducible refine And.intro ?_ ?_; focus first | omega | rfl | assumption | exact ⟨_, rfl, rfl⟩ | (simp; omega) | (simp; done)))
  · have hi : i < xs.length := by omega
    have hir : i < (xs.map encS).length := by rw [List.length_map]; exact hi
    have hR := p2.1
    rw [hTl] at hR
    have hTi : T[i]? = some (labR (encS xs[i]) (n + 1 + cntRs ((xs.map encS).take i))) := by
      rw [hT, labRs_at hir, List.getElem_map]
    simp only [encS, labR, labD] at hTi
    (repeat (with_reducible refine And.intro ?_ ?_; focus first | omega | rfl | assumption | exact ⟨_, rfl, rfl⟩ | (simp; omega) | (simp; done)))
    refine inv_at (i + 1, _) (by simp only; omega) rfl rfl ⟨by simp only; omega, p2.step hTi rfl⟩
  · have hi : i = xs.length := by omega
    rw [p2.done (by omega)]
end Go.Proofs.YtokcpelkieeddaaGreat

namespace Go.Proofs.YtokcpelkieeddaaGreat
open Go Go.Ab
end Go.Proofs.YtokcpelkieeddaaGreat

namespace Go.Proofs.YtokcpelkieeddaaGreat
open Go Go.Ab
theorem toType_labs : ∀ N : Nat, (∀ x : MType, SizeOf.sizeOf x < N → ∀ n : Nat, x.sz ≤ 1048576 → PCall Tryz.prog 187 [x.v] (.agg ((labR x.enc n).map .d))) ∧
    (∀ xs : List MType, SizeOf.sizeOf xs < N → ∀ n : Nat, xs.length + szRows (xs.map MType.enc) ≤ 1048576 → PCall Tryz.prog 145 [.c (.d (.sl (xs.map MType.enc)))] (.c (.d (labD (.sl (xs.map MType.enc)) n))))
  | 0 => ⟨fun x h => by omega, fun x h => by omega⟩
  | N + 1 => by
    obtain ⟨ihType, ihSType⟩ := toType_labs N
    refine ⟨fun x hn n hsz => ?_, fun xs hn n hsz => ?_⟩
    · intro S
      have lArgs := MType.lt_Args x
      simp only [MType.sz, MType.enc_eq, szRow, szRow_append, D.sz, List.length_map] at hsz
      refine acall_cw (rs := [.cell 2 65]) Tryz.checked.mixed Tryz.func187 Tryz.ntmps187 rfl rfl rfl rfl rfl ?_
      simp only [MType.enc_eq, encS, encI, List.cons_append, List.nil_append, labR, labD, cntR, cntD, List.map_cons, List.map_nil, Nat.add_zero]
      simp -implicitDefEqProofs (disch := omega) only [go_sem]
      refine call_w (ihSType x.fArgs (by omega) (n) (by omega)) ?_
      simp -implicitDefEqProofs (disch := omega) only [go_sem, labD]
      all_goals (first | rfl | (simp only [Nat.add_assoc]; done))
    · obtain ⟨T, hT⟩ : ∃ T, T = labRs (xs.map MType.enc) (n + 1) := ⟨_, rfl⟩
      have hTl : T.length = xs.length := by rw [hT, labRs_length, List.length_map]
      show PCall Tryz.prog 145 [.c (.d (.sl (xs.map MType.enc)))] (.c (.d (.ol n (labRs (xs.map MType.enc) (n + 1))))) 
      rw [← hT]
      intro S
      refine acall_cwL (n) (rs := [.tmp 2]) Tryz.checked.mixed Tryz.func145 Tryz.ntmps145 rfl rfl rfl rfl rfl ?_
      simp -implicitDefEqProofs (disch := omega) only [go_sem]
      (repeat (with_reducible refine And.intro ?_ ?_; focus first | omega | rfl | assumption | exact ⟨_, rfl, rfl⟩ | (simp; omega) | (simp; done)))
      refine loop_at (ι := Nat × List (List D)) Tryz.checked.mixed rfl [0, 3, 4] (fun y => [.c (.d (.sl (xs.map MType.enc))), .c (.msl (0, 1)), .c (.d (.i .i64 y.1))]) (fun y => [.seed n, .mrow 3 y.2] :: S)
        (fun y => y.1 ≤ xs.length ∧ Filled 3 y.1 y.2 T) (fun y => xs.length - y.1) (0, _) rfl rfl ⟨Nat.zero_le _, Filled.start (by simp [hTl]) rfl⟩ ?_
      rintro ⟨i, R⟩ ⟨p1, p2⟩
      simp only at p1 p2
      simp -implicitDefEqProofs (disch := omega) only [go_sem]
      with_reducible refine split2 (fun hb => ?_) (fun hb => ?_) <;> have h := hb <;> (try simp only [wf_preprocess] at h) <;> simp -implicitDefEqProofs (disch := omega) only [go_sem, hb] <;> (repeat (with_reducible refine And.intro ?_ ?_; focus first | omega | rfl | assumption | exact ⟨_, rfl, rfl⟩ | (simp; omega) | (simp; done)))
      · have hi : i < xs.length := by omega
        have hir : i < (xs.map MType.enc).length := by rw [List.length_map]; exact hi
        have hR := p2.1
        rw [hTl] at hR
        have hTi : T[i]? = some (labR (MType.enc xs[i]) (n + 1 + cntRs ((xs.map MType.enc).take i))) := by
          rw [hT, labRs_at hir, List.getElem_map]
        have hx : xs[i].sz ≤ szRows (xs.map MType.enc) := szRows_mem (List.mem_map_of_mem (List.getElem_mem hi))
        (repeat (with_reducible refine And.intro ?_ ?_; focus first | omega | rfl | assumption | exact ⟨_, rfl, rfl⟩ | (simp; omega) | (simp; done)))
        refine call_w (ihType xs[i] (by have := List.sizeOf_lt_of_mem (List.getElem_mem hi); omega) (n + 1 + cntRs ((xs.map MType.enc).take i)) (by omega)) ?_
        obtain ⟨row, hrow⟩ : ∃ row, row = labR (MType.enc xs[i]) (n + 1 + cntRs ((xs.map MType.enc).take i)) := ⟨_, rfl⟩
        have hrl : row.length = 3 := by rw [hrow, labR_length, MType.enc_length]
        rw [← hrow] at hTi ⊢
        simp -implicitDefEqProofs (disch := omega) only [go_sem, hrl, mapM_toD]
        (repeat (with_reducible refine And.intro ?_ ?_; focus first | omega | rfl | assumption | exact ⟨_, rfl, rfl⟩ | (simp; omega) | (simp; done)))
        refine inv_at (i + 1, _) (by simp only; omega) rfl rfl ⟨by simp only; omega, p2.step hTi hrl⟩
      · have hi : i = xs.length := by omega
        rw [p2.done (by omega)]
theorem toTypeS_lab (xs : List MType) : ∀ n : Nat, xs.length + szRows (xs.map MType.enc) ≤ 1048576 → PCall Tryz.prog 145 [.c (.d (.sl (xs.map MType.enc)))] (.c (.d (labD (.sl (xs.map MType.enc)) n))) := (toType_labs _).2 xs (Nat.lt_succ_self _)
end Go.Proofs.YtokcpelkieeddaaGreat

namespace Go.Proofs.YtokcpelkieeddaaGreat
open Go Go.Ab
end Go.Proofs.YtokcpelkieeddaaGreat

namespace Go.Proofs.YtokcpelkieeddaaGreat
open Go Go.Ab
end Go.Proofs.YtokcpelkieeddaaGreat

namespace Go.Proofs.YtokcpelkieeddaaGreat
open Go Go.Ab
end Go.Proofs.YtokcpelkieeddaaGreat

namespace Go.Proofs.YtokcpelkieeddaaGreat
open Go Go.Ab
end Go.Proofs.YtokcpelkieeddaaGreat

namespace Go.Proofs.YtokcpelkieeddaaGreat
open Go Go.Ab
end Go.Proofs.YtokcpelkieeddaaGreat

namespace Go.Proofs.YtokcpelkieeddaaGreat
open Go Go.Ab
end Go.Proofs.YtokcpelkieeddaaGreat

namespace Go.Proofs.YtokcpelkieeddaaGreat
open Go Go.Ab
theorem toConstructor_lab (x : MConstructor) : ∀ n : Nat, x.sz ≤ 1048576 → PCall Tryz.prog 94 [x.v] (.agg ((labR x.enc n).map .d)) := by
  intro n hsz S
  simp only [MConstructor.sz, MConstructor.enc_eq, szRow, szRow_append, D.sz, List.length_map] at hsz
  refine acall_cw (rs := [.cell 2 83]) Tryz.checked.mixed Tryz.func94 Tryz.ntmps94 rfl rfl rfl rfl rfl ?_
  simp only [MConstructor.enc_eq, encS, encI, List.cons_append, List.nil_append, labR, labD, cntR, cntD, List.map_cons, List.map_nil, Nat.add_zero]
  simp -implicitDefEqProofs (disch := omega) only [go_sem]
  refine call_w (toTypeS_lab x.fFields (n) (by omega)) ?_
  simp -implicitDefEqProofs (disch := omega) only [go_sem, labD]
  all_goals (first | rfl | (simp only [Nat.add_assoc]; done))
theorem toConstructorS_lab (xs : List MConstructor) : ∀ n : Nat, xs.length + szRows (xs.map MConstructor.enc) ≤ 1048576 → PCall Tryz.prog 42 [.c (.d (.sl (xs.map MConstructor.enc)))] (.c (.d (labD (.sl (xs.map MConstructor.enc)) n))) := by
  intro n hsz
  obtain ⟨T, hT⟩ : ∃ T, T = labRs (xs.map MConstructor.enc) (n + 1) := ⟨_, rfl⟩
  have hTl : T.length = xs.length := by rw [hT, labRs_length, List.length_map]
  show PCall Tryz.prog 42 [.c (.d (.sl (xs.map MConstructor.enc)))] (.c (.d (.ol n (labRs (xs.map MConstructor.enc) (n + 1))))) 
  rw [← hT]
  intro S
  refine acall_cwL (n) (rs := [.tmp 2]) Tryz.checked.mixed Tryz.func42 Tryz.ntmps42 rfl rfl rfl rfl rfl ?_
  simp -implicitDefEqProofs (disch := omega) only [go_sem]
  (repeat (with_reducible refine And.intro ?_ ?_; focus first | omega | rfl | assumption | exact ⟨_, rfl, rfl⟩ | (simp; omega) | (simp; done)))
  refine loop_at (ι := Nat × List (List D)) Tryz.checked.mixed rfl [0, 3, 4] (fun y => [.c (.d (.sl (xs.map MConstructor.enc))), .c (.msl (0, 1)), .c (.d (.i .i64 y.1))]) (fun y => [.seed n, .mrow 2 y.2] :: S)
    (fun y => y.1 ≤ xs.length ∧ Filled 2 y.1 y.2 T) (fun y => xs.length - y.1) (0, _) rfl rfl ⟨Nat.zero_le _, Filled.start (by simp [hTl]) rfl⟩ ?_
  rintro ⟨i, R⟩ ⟨p1, p2⟩
  simp only at p1 p2
  simp -implicitDefEqProofs (disch := omega) only [go_sem]
  with_reducible refine split2 (fun hb => ?_) (fun hb => ?_) <;> have h := hb <;> (try simp only [wf_preprocess] at h) <;> simp -implicitDefEqProofs (disch := omega) only [go_sem, hb] <;> (repeat (with_reducible refine And.intro ?_ ?_; focus first | omega | rfl | assumption | exact ⟨_, rfl, rfl⟩ | (simp; omega) | (simp; done)))
  · have hi : i < xs.length := by omega
    have hir : i < (xs.map MConstructor.enc).length := by rw [List.length_map]; exact hi
    have hR := p2.1
    rw [hTl] at hR
    have hTi : T[i]? = some (labR (MConstructor.enc xs[i]) (n + 1 + cntRs ((xs.map MConstructor.enc).take i))) := by
      rw [hT, labRs_at hir, List.getElem_map]
    have hx : xs[i].sz ≤ szRows (xs.map MConstructor.enc) := szRows_mem (List.mem_map_of_mem (List.getElem_mem hi))
    (repeat (with_reducible refine And.intro ?_ ?_; focus first | omega | rfl | assumption | exact ⟨_, rfl, rfl⟩ | (simp; omega) | (simp; done)))
    refine call_w (toConstructor_lab xs[i] (n + 1 + cntRs ((xs.map MConstructor.enc).take i)) (by omega)) ?_
    obtain ⟨row, hrow⟩ : ∃ row, row = labR (MConstructor.enc xs[i]) (n + 1 + cntRs ((xs.map MConstructor.enc).take i)) := ⟨_, rfl⟩
    have hrl : row.length = 2 := by rw [hrow, labR_length, MConstructor.enc_length]
    rw [← hrow] at hTi ⊢
    simp -implicitDefEqProofs (disch := omega) only [go_sem, hrl, mapM_toD]
    (repeat (with_reducible refine And.intro ?_ ?_; focus first | omega | rfl | assumption | exact ⟨_, rfl, rfl⟩ | (simp; omega) | (simp; done)))
    refine inv_at (i + 1, _) (by simp only; omega) rfl rfl ⟨by simp only; omega, p2.step hTi hrl⟩
  · have hi : i = xs.length := by omega
    rw [p2.done (by omega)]
end Go.Proofs.YtokcpelkieeddaaGreat

namespace Go.Proofs.YtokcpelkieeddaaGreat
open Go Go.Ab
theorem toDataType_lab (x : MDataType) : ∀ n : Nat, x.sz ≤ 1048576 → PCall Tryz.prog 9 [x.v] (.agg ((labR x.enc n).map .d)) := by
  intro n hsz S
  simp only [MDataType.sz, MDataType.enc_eq, szRow, szRow_append, D.sz, List.length_map] at hsz
  refine acall_cw (rs := [.cell 2 33]) Tryz.checked.mixed Tryz.func9 Tryz.ntmps9 rfl rfl rfl rfl rfl ?_
  simp only [MDataType.enc_eq, encS, encI, List.cons_append, List.nil_append, labR, labD, cntR, cntD, List.map_cons, List.map_nil, Nat.add_zero]
  simp -implicitDefEqProofs (disch := omega) only [go_sem]
  refine call_w (toStringS_lab x.fVars (n) (by omega)) ?_
  simp -implicitDefEqProofs (disch := omega) only [go_sem, labD]
  refine call_w (toConstructorS_lab x.fConstructors (n + (cntRs (x.fVars.map encS) + 1)) (by omega)) ?_
  simp -implicitDefEqProofs (disch := omega) only [go_sem, labD]
  all_goals (first | rfl | (simp only [Nat.add_assoc]; done))
end Go.Proofs.YtokcpelkieeddaaGreat

namespace Go.Proofs.YtokcpelkieeddaaGreat
open Go Go.Ab
theorem markStringS_ok (xs : List (List UInt8)) : ∀ (k : Int) (l j r : Nat) (p : List (Nat × Nat)) (S : Store) (rs : List (List (List D))), getO S (l, j) = some (.xf rs) → atR rs r p = some (xs.map encS) → 0 ≤ k ∧ k + mcRs (xs.map encS) ≤ 4611686018427387904 → ACall Tryz.prog 49 [.c (.xp (l, j) r p), .c (.d (.i .i64 k))] S (fun res S' => res = .c (.d (.i .i64 (k + mcRs (xs.map encS)))) ∧ S' = setO S (l, j) (.xf (updR rs r p (mkRs (xs.map encS) k)))) := by
  intro k l j r p S rs hS hp hk
  have hlen := len_mc (f := encS) (fun x => by simp only [encS, List.cons_append, List.nil_append, mcR, mcD]; omega) xs
  obtain ⟨rows, hr⟩ : ∃ rows, rows = xs.map encS := ⟨_, rfl⟩
  have hl : rows.length = xs.length := by rw [hr, List.length_map]
  rw [← hr] at hp hk hlen ⊢
  have ht : ∀ x : Ab.Obj, getO (setO S (l, j) x) (l, j) = some x := fun x => getO_setO_eq _ _ _ _ hS
  have hA : ∀ new, atR (updR rs r p new) r p = some new := fun new => atR_updR hp
  have hU : ∀ a b, updR (updR rs r p a) r p b = updR rs r p b := fun a b => updR_updR hp
  refine acall_cw (rs := [.tmp 4]) Tryz.checked.mixed Tryz.func49 Tryz.ntmps49 rfl rfl rfl rfl rfl ?_
  simp -implicitDefEqProofs (disch := omega) only [go_sem]
  refine loop_at (ι := Nat) Tryz.checked.mixed rfl [0, 1, 5] (fun i => [.c (.xp (1 + l, j) r p), .c (.d (.i .i64 (k + mcRs (rows.take i)))), .c (.d (.i .i64 i))])
    (fun i => [] :: setO S (l, j) (.xf (updR rs r p (mkTo rows k i)))) (fun i => i ≤ xs.length) (fun i => xs.length - i) 0 ?_ ?_ (Nat.zero_le _) ?_
  · have z0 : k + ((mcRs (rows.take 0) : Nat) : Int) = k := by simp [mcRs]
    rw [z0]
    rfl
  · rw [mkTo_zero, updR_same hp, setO_self _ _ hS]
  intro i hi
  simp -implicitDefEqProofs (disch := omega) only [go_sem, ht, hA, mkTo_length, hl]
  with_reducible refine split2 (fun hb => ?_) (fun hb => ?_) <;> have h := hb <;> try simp only [wf_preprocess] at h
  · have hi : i < xs.length := by omega
    have hir : i < rows.length := by omega
    obtain ⟨x, hx⟩ : ∃ x, x = xs[i] := ⟨_, rfl⟩
    have e1 : rows[i] = [.s x] := by
      simp only [hr, List.getElem_map, ← hx]
      simp only [encS, List.cons_append, List.nil_append]
    have hm := mcRs_take hir
    have hle := mcRs_le (rows := rows) (i := i + 1)
    rw [hm, e1] at hle
    rw [e1] at hm
    simp only [mcR, mcD] at hle hm
    have hK : k + ((mcRs (rows.take (i + 1)) : Nat) : Int) = k + ((mcRs (rows.take i) : Nat) : Int) + 1 := by rw [hm]; omega
    have e2 := mkTo_at (k := k) hir
    rw [e1] at e2
    have hC : ∀ row o, cellAt (mkAt rows k i row) i o = row[o]? := fun row o => mkAt_cell hir
    have hG : ∀ row, (mkAt rows k i row).getD i [] = row := fun row => mkAt_get hir
    simp -implicitDefEqProofs (disch := omega) only [go_sem, hb, ht, hA, hU, e2, hC, hG, mkAt_set, mkAt_length, hl, setO_twice, isSD]
    (repeat (with_reducible refine And.intro ?_ ?_; focus first | omega | rfl | assumption | exact ⟨_, rfl, rfl⟩ | (simp; omega) | (simp; done)))
    refine call_w (markText_ok (k + ((mcRs (rows.take i) : Nat) : Int)) (by omega)) ?_
    simp -implicitDefEqProofs (disch := omega) only [go_sem, hb, ht, hA, hU, e2, hC, hG, mkAt_set, mkAt_length, hl, setO_twice, isSD]
    (repeat (with_reducible refine And.intro ?_ ?_; focus first | omega | rfl | assumption | exact ⟨_, rfl, rfl⟩ | (simp; omega) | (simp; done)))
    refine inv_at (i + 1) (by omega) (by rw [hK]; rfl) ?_ (by omega)
    have h3 := mkAt_to (k := k) hir
    rw [e1] at h3
    simp only [mkR, mkD] at h3
    rw [← h3]
    all_goals rfl
  · simp -implicitDefEqProofs (disch := omega) only [go_sem, hb]
    have hi : i = xs.length := by omega
    rw [mkTo_all (by omega), List.take_of_length_le (by omega)]
    all_goals (first | rfl | exact ⟨rfl, rfl⟩)
end Go.Proofs.YtokcpelkieeddaaGreat

namespace Go.Proofs.YtokcpelkieeddaaGreat
open Go Go.Ab
end Go.Proofs.YtokcpelkieeddaaGreat

namespace Go.Proofs.YtokcpelkieeddaaGreat
open Go Go.Ab
theorem markType_all : ∀ n : Nat, (∀ xs : List MType, SizeOf.sizeOf xs < n → ∀ (k : Int) (l j r : Nat) (p : List (Nat × Nat)) (S : Store) (rs : List (List (List D))), getO S (l, j) = some (.xf rs) → atR rs r p = some (xs.map MType.enc) → 0 ≤ k ∧ k + mcRs (xs.map MType.enc) ≤ 4611686018427387904 → ACall Tryz.prog 105 [.c (.xp (l, j) r p), .c (.d (.i .i64 k))] S (fun res S' => res = .c (.d (.i .i64 (k + mcRs (xs.map MType.enc)))) ∧ S' = setO S (l, j) (.xf (updR rs r p (mkRs (xs.map MType.enc) k)))))
  | 0 => fun xs h => by omega
  | n + 1 => by
    have ihType := markType_all n
    refine fun xs hn k l j r p S rs hS hp hk => ?_
    · have hlen := len_mc (f := MType.enc) (fun x => by simp only [MType.enc_eq, encS, encI, List.cons_append, List.nil_append, mcR, mcD]; omega) xs
      obtain ⟨rows, hr⟩ : ∃ rows, rows = xs.map MType.enc := ⟨_, rfl⟩
      have hl : rows.length = xs.length := by rw [hr, List.length_map]
      rw [← hr] at hp hk hlen ⊢
      have ht : ∀ x : Ab.Obj, getO (setO S (l, j) x) (l, j) = some x := fun x => getO_setO_eq _ _ _ _ hS
      have hA : ∀ new, atR (updR rs r p new) r p = some new := fun new => atR_updR hp
      have hU : ∀ a b, updR (updR rs r p a) r p b = updR rs r p b := fun a b => updR_updR hp
      refine acall_cw (rs := [.tmp 4]) Tryz.checked.mixed Tryz.func105 Tryz.ntmps105 rfl rfl rfl rfl rfl ?_
      simp -implicitDefEqProofs (disch := omega) only [go_sem]
      refine loop_at (ι := Nat) Tryz.checked.mixed rfl [0, 1, 5] (fun i => [.c (.xp (1 + l, j) r p), .c (.d (.i .i64 (k + mcRs (rows.take i)))), .c (.d (.i .i64 i))])
        (fun i => [] :: setO S (l, j) (.xf (updR rs r p (mkTo rows k i)))) (fun i => i ≤ xs.length) (fun i => xs.length - i) 0 ?_ ?_ (Nat.zero_le _) ?_
      · have z0 : k + ((mcRs (rows.take 0) : Nat) : Int) = k := by simp [mcRs]
        rw [z0]
        rfl
      · rw [mkTo_zero, updR_same hp, setO_self _ _ hS]
      intro i hi
      simp -implicitDefEqProofs (disch := omega) only [go_sem, ht, hA, mkTo_length, hl]
      with_reducible refine split2 (fun hb => ?_) (fun hb => ?_) <;> have h := hb <;> try simp only [wf_preprocess] at h
      · have hi : i < xs.length := by omega
        have hir : i < rows.length := by omega
        obtain ⟨x, hx⟩ : ∃ x, x = xs[i] := ⟨_, rfl⟩
        have e1 : rows[i] = [.i .i64 x.fKind, .s x.fName, .sl (x.fArgs.map MType.enc)] := by
          simp only [hr, List.getElem_map, ← hx]
          simp only [MType.enc_eq, encS, encI, List.cons_append, List.nil_append]
        have hm := mcRs_take hir
        have hle := mcRs_le (rows := rows) (i := i + 1)
        rw [hm, e1] at hle
        rw [e1] at hm
        simp only [mcR, mcD] at hle hm
        have hK : k + ((mcRs (rows.take (i + 1)) : Nat) : Int) = k + ((mcRs (rows.take i) : Nat) : Int) + 1 + 1 + ((mcRs (x.fArgs.map MType.enc) : Nat) : Int) := by rw [hm]; omega
        have e2 := mkTo_at (k := k) hir
        rw [e1] at e2
        have hC : ∀ row o, cellAt (mkAt rows k i row) i o = row[o]? := fun row o => mkAt_cell hir
        have hG : ∀ row, (mkAt rows k i row).getD i [] = row := fun row => mkAt_get hir
        simp -implicitDefEqProofs (disch := omega) only [go_sem, hb, ht, hA, hU, e2, hC, hG, mkAt_set, mkAt_length, hl, setO_twice, isSD]
        (repeat (with_reducible refine And.intro ?_ ?_; focus first | omega | rfl | assumption | exact ⟨_, rfl, rfl⟩ | (simp; omega) | (simp; done)))
        refine call_w (markText_ok (k + ((mcRs (rows.take i) : Nat) : Int) + 1) (by omega)) ?_
        simp -implicitDefEqProofs (disch := omega) only [go_sem, hb, ht, hA, hU, e2, hC, hG, mkAt_set, mkAt_length, hl, setO_twice, isSD]
        (repeat (with_reducible refine And.intro ?_ ?_; focus first | omega | rfl | assumption | exact ⟨_, rfl, rfl⟩ | (simp; omega) | (simp; done)))
        refine call_d rfl (sub_mk hS hp hir (by rfl) (fun S' rs' g1 g2 => ihType x.fArgs (by have := List.sizeOf_lt_of_mem (List.getElem_mem hi); rw [← hx] at this; have := MType.lt_Args x; omega) (k + ((mcRs (rows.take i) : Nat) : Int) + 1 + 1) (1 + l) j r _ S' rs' g1 g2 (by omega))) ?_
        simp -implicitDefEqProofs (disch := omega) only [go_sem, hb, ht, hA, hU, e2, hC, hG, mkAt_set, mkAt_length, hl, setO_twice, isSD]
        (repeat (with_reducible refine And.intro ?_ ?_; focus first | omega | rfl | assumption | exact ⟨_, rfl, rfl⟩ | (simp; omega) | (simp; done)))
        refine inv_at (i + 1) (by omega) (by rw [hK]; rfl) ?_ (by omega)
        have h3 := mkAt_to (k := k) hir
        rw [e1] at h3
        simp only [mkR, mkD] at h3
        rw [← h3]
        all_goals rfl
      · simp -implicitDefEqProofs (disch := omega) only [go_sem, hb]
        have hi : i = xs.length := by omega
        rw [mkTo_all (by omega), List.take_of_length_le (by omega)]
        all_goals (first | rfl | exact ⟨rfl, rfl⟩)
theorem markTypeS_ok (xs : List MType) : ∀ (k : Int) (l j r : Nat) (p : List (Nat × Nat)) (S : Store) (rs : List (List (List D))), getO S (l, j) = some (.xf rs) → atR rs r p = some (xs.map MType.enc) → 0 ≤ k ∧ k + mcRs (xs.map MType.enc) ≤ 4611686018427387904 → ACall Tryz.prog 105 [.c (.xp (l, j) r p), .c (.d (.i .i64 k))] S (fun res S' => res = .c (.d (.i .i64 (k + mcRs (xs.map MType.enc)))) ∧ S' = setO S (l, j) (.xf (updR rs r p (mkRs (xs.map MType.enc) k)))) := (markType_all _) xs (Nat.lt_succ_self _)
end Go.Proofs.YtokcpelkieeddaaGreat

namespace Go.Proofs.YtokcpelkieeddaaGreat
open Go Go.Ab
end Go.Proofs.YtokcpelkieeddaaGreat

namespace Go.Proofs.YtokcpelkieeddaaGreat
open Go Go.Ab
end Go.Proofs.YtokcpelkieeddaaGreat

namespace Go.Proofs.YtokcpelkieeddaaGreat
open Go Go.Ab
end Go.Proofs.YtokcpelkieeddaaGreat

