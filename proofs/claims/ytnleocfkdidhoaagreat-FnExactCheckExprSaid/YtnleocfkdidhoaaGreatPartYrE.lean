/-
  SEVERAL TEXTS IN ONE (merged by program): contracts and models, each with its own heading.
-/
import Derived.Test.YtnleocfkdidhoaaGreatPartYrD
set_option linter.unusedSimpArgs false
set_option linter.unusedVariables false
set_option maxRecDepth 4000
namespace Go.Proofs.YtnleocfkdidhoaaGreat
open Go Go.Ab
theorem checkHere_ok (w : MProgram) (i : Int) (e : MExpr) (hsz : w.sz ≤ 4194304) (he : e.sz ≤ 4194304) : PCall Tryz.prog 132 [viewV w (visI w i), e.v] (.c (.d (.i .i64 (hereCode w i e)))) := fun S => by
  have hl := MExpr.lens he
  refine acall_cwm (rs := [.tmp 4]) Tryz.checked.mixed Tryz.func132 Tryz.ntmps132 rfl rfl rfl rfl rfl ?_
  simp -implicitDefEqProofs (disch := omega) only [go_sem]
  with_reducible refine split2 (fun hb => ?_) (fun hb => ?_) <;> have h := hb <;> (try simp only [wf_preprocess] at h) <;> simp -implicitDefEqProofs (disch := omega) only [go_sem, hb] <;> (repeat (with_reducible refine And.intro ?_ ?_; focus first | omega | rfl | assumption | exact ⟨_, rfl, rfl⟩ | (simp; omega) | (simp; done)))
  · have k1 := h
    refine call_w (viewFn_ok w i e.fName hsz) ?_
    simp -implicitDefEqProofs (disch := omega) only [go_sem]
    cases hs : seesO w i (fnAt w e.fName) with
    | false =>
      cases hr : fnAt w e.fName <;> (simp -implicitDefEqProofs (disch := omega) only [go_sem, fnC]; exact int_eq (by unfold hereCode; rw [if_pos k1, if_neg (by rw [hs]; simp)]))
    | true =>
      obtain ⟨f, p, hf⟩ := seesO_some hs
      have hfl := fnAt_len hf hsz
      have hc : hereCode w i e = if f.fParams.length = e.fArgs.length then 0 else 9 := by unfold hereCode; rw [if_pos k1, if_pos hs, hf]
      simp -implicitDefEqProofs (disch := omega) only [go_sem, hf, fnC]
      with_reducible refine split2 (fun hb => ?_) (fun hb => ?_) <;> have h := hb <;> (try simp only [wf_preprocess] at h) <;> simp -implicitDefEqProofs (disch := omega) only [go_sem, hb] <;> (repeat (with_reducible refine And.intro ?_ ?_; focus first | omega | rfl | assumption | exact ⟨_, rfl, rfl⟩ | (simp; omega) | (simp; done)))
      · exact int_eq (by rw [hc, if_neg (by omega)])
      · exact int_eq (by rw [hc, if_pos (by omega)])
  have k1 := h
  with_reducible refine split2 (fun hb => ?_) (fun hb => ?_) <;> have h := hb <;> (try simp only [wf_preprocess] at h) <;> simp -implicitDefEqProofs (disch := omega) only [go_sem, hb] <;> (repeat (with_reducible refine And.intro ?_ ?_; focus first | omega | rfl | assumption | exact ⟨_, rfl, rfl⟩ | (simp; omega) | (simp; done)))
  · have k2 := h
    refine call_w (viewTrait_ok w i e.fTrait hsz) ?_
    simp -implicitDefEqProofs (disch := omega) only [go_sem]
    cases hs : seesO w i (traitAt w e.fTrait) with
    | false =>
      cases hr : traitAt w e.fTrait <;> (simp -implicitDefEqProofs (disch := omega) only [go_sem, trC]; exact int_eq (by unfold hereCode; rw [if_neg k1, if_pos k2, if_neg (by rw [hs]; simp)]))
    | true =>
      obtain ⟨t, p, ht⟩ := seesO_some hs
      have htz := traitAt_sz ht hsz
      have hc : hereCode w i e = match sigAt t e.fName with | some (g, _) => if e.fArgs.length = g.fParams.length + 1 then 0 else 6 | none => 6 := by unfold hereCode; rw [if_neg k1, if_pos k2, if_pos hs, ht] <;> rfl <;> rfl
      simp -implicitDefEqProofs (disch := omega) only [go_sem, ht, trC]
      refine call_w (implSig_ok t e.fName htz) ?_
      cases hg : sigAt t e.fName with
      | none =>
        simp -implicitDefEqProofs (disch := omega) only [go_sem, sigC, idxO, Option.isSome_none]
        exact int_eq (by rw [hc, hg])
      | some x =>
        obtain ⟨g, k⟩ := x
        have hgl := sigAt_len hg htz
        rw [hg] at hc
        simp only at hc
        simp -implicitDefEqProofs (disch := omega) only [go_sem, sigC, idxO, Option.isSome_some]
        with_reducible refine split2 (fun hb => ?_) (fun hb => ?_) <;> have h := hb <;> (try simp only [wf_preprocess] at h) <;> simp -implicitDefEqProofs (disch := omega) only [go_sem, hb] <;> (repeat (with_reducible refine And.intro ?_ ?_; focus first | omega | rfl | assumption | exact ⟨_, rfl, rfl⟩ | (simp; omega) | (simp; done)))
        · exact int_eq (by rw [hc, if_neg (by omega)])
        · exact int_eq (by rw [hc, if_pos (by omega)])
  have k2 := h
  with_reducible refine split2 (fun hb => ?_) (fun hb => ?_) <;> have h := hb <;> (try simp only [wf_preprocess] at h) <;> simp -implicitDefEqProofs (disch := omega) only [go_sem, hb] <;> (repeat (with_reducible refine And.intro ?_ ?_; focus first | omega | rfl | assumption | exact ⟨_, rfl, rfl⟩ | (simp; omega) | (simp; done)))
  · have k3 := h
    refine call_w (viewCt_ok w i e.fName hsz) ?_
    simp -implicitDefEqProofs (disch := omega) only [go_sem]
    cases hs : seesC w i (ctorAt w e.fName) with
    | false =>
      cases hr : ctorAt w e.fName <;> (simp -implicitDefEqProofs (disch := omega) only [go_sem, ctC, idxO]; exact int_eq (by unfold hereCode; rw [if_neg k1, if_neg k2, if_pos k3, if_neg (by rw [hs]; simp)]))
    | true =>
      obtain ⟨d, k, hd⟩ := seesC_ex hs
      obtain ⟨hdz, hk⟩ := ctorAt_sz hd hsz
      have hdl := MDataType.lenCt hdz
      have hcl := MConstructor.lenFd (MDataType.szCt hk hdz)
      have hc : hereCode w i e = if e.fArgs.length = d.fConstructors[k].fFields.length then 0 else 2 := by unfold hereCode; rw [if_neg k1, if_neg k2, if_pos k3, if_pos hs, hd]; simp only [List.getElem?_eq_getElem hk]
      simp -implicitDefEqProofs (disch := omega) only [go_sem, hd, ctC, idxO]
      (repeat (with_reducible refine And.intro ?_ ?_; focus first | omega | rfl | assumption | exact ⟨_, rfl, rfl⟩ | (simp; omega) | (simp; done)))
      refine ⟨by rfl, ?_⟩
      simp -implicitDefEqProofs (disch := omega) only [go_sem]
      with_reducible refine split2 (fun hb => ?_) (fun hb => ?_) <;> have h := hb <;> (try simp only [wf_preprocess] at h) <;> simp -implicitDefEqProofs (disch := omega) only [go_sem, hb] <;> (repeat (with_reducible refine And.intro ?_ ?_; focus first | omega | rfl | assumption | exact ⟨_, rfl, rfl⟩ | (simp; omega) | (simp; done)))
      · exact int_eq (by rw [hc, if_neg (by omega)])
      · exact int_eq (by rw [hc, if_pos (by omega)])
  have k3 := h
  with_reducible refine split2 (fun hb => ?_) (fun hb => ?_) <;> have h := hb <;> (try simp only [wf_preprocess] at h) <;> simp -implicitDefEqProofs (disch := omega) only [go_sem, hb] <;> (repeat (with_reducible refine And.intro ?_ ?_; focus first | omega | rfl | assumption | exact ⟨_, rfl, rfl⟩ | (simp; omega) | (simp; done)))
  · have k4 := h
    with_reducible refine split2 (fun hb => ?_) (fun hb => ?_) <;> have h := hb <;> (try simp only [wf_preprocess] at h) <;> simp -implicitDefEqProofs (disch := omega) only [go_sem, hb] <;> (repeat (with_reducible refine And.intro ?_ ?_; focus first | omega | rfl | assumption | exact ⟨_, rfl, rfl⟩ | (simp; omega) | (simp; done)))
    · exact int_eq (by rw [here7n k4 (by omega)])
    have ha : 0 < e.fArms.length := by omega
    (repeat (with_reducible refine And.intro ?_ ?_; focus first | omega | rfl | assumption | exact ⟨_, rfl, rfl⟩ | (simp; omega) | (simp; done)))
    refine call_w (viewCt_ok w i e.fArms[0].fConstructor hsz) ?_
    have hc := here7 (w := w) (i := i) k4 ha
    simp -implicitDefEqProofs (disch := omega) only [go_sem]
    cases hs : seesC w i (ctorAt w e.fArms[0].fConstructor) with
    | false =>
      rw [if_neg (by rw [hs]; simp)] at hc
      cases hr : ctorAt w e.fArms[0].fConstructor <;> (simp -implicitDefEqProofs (disch := omega) only [go_sem, ctC, idxO]; refine ⟨by rfl, ?_⟩; simp -implicitDefEqProofs (disch := omega) only [go_sem]; exact int_eq (by rw [hc]))
    | true =>
      obtain ⟨d, k, hd⟩ := seesC_ex hs
      obtain ⟨hdz, hk⟩ := ctorAt_sz hd hsz
      rw [if_pos hs, hd] at hc
      simp only at hc
      simp -implicitDefEqProofs (disch := omega) only [go_sem, hd, ctC, idxO]
      refine ⟨by rfl, ?_⟩
      simp -implicitDefEqProofs (disch := omega) only [go_sem]
      refine call_w (fitArms_ok d e.fArms hdz hl.2.1) ?_
      simp -implicitDefEqProofs (disch := omega) only [go_sem]
      with_reducible refine split2 (fun hb => ?_) (fun hb => ?_) <;> have h := hb <;> (try simp only [wf_preprocess] at h) <;> simp -implicitDefEqProofs (disch := omega) only [go_sem, hb] <;> (repeat (with_reducible refine And.intro ?_ ?_; focus first | omega | rfl | assumption | exact ⟨_, rfl, rfl⟩ | (simp; omega) | (simp; done)))
      · exact int_eq (by rw [hc, h]; rfl)
      · exact int_eq (by rw [hc, h]; rfl)
  have k4 := h
  with_reducible refine split2 (fun hb => ?_) (fun hb => ?_) <;> have h := hb <;> (try simp only [wf_preprocess] at h) <;> simp -implicitDefEqProofs (disch := omega) only [go_sem, hb] <;> (repeat (with_reducible refine And.intro ?_ ?_; focus first | omega | rfl | assumption | exact ⟨_, rfl, rfl⟩ | (simp; omega) | (simp; done)))
  · have k5 := h
    refine call_w (viewDyn_ok w i e.fTrait hsz) ?_
    simp -implicitDefEqProofs (disch := omega) only [go_sem]
    exact int_eq (by unfold hereCode; rw [if_neg k1, if_neg k2, if_neg k3, if_neg k4, if_pos k5])
  have k5 := h
  with_reducible refine split2 (fun hb => ?_) (fun hb => ?_) <;> have h := hb <;> (try simp only [wf_preprocess] at h) <;> simp -implicitDefEqProofs (disch := omega) only [go_sem, hb] <;> (repeat (with_reducible refine And.intro ?_ ?_; focus first | omega | rfl | assumption | exact ⟨_, rfl, rfl⟩ | (simp; omega) | (simp; done)))
  · have k6 := h
    refine call_w ((checkType_all w i hsz _).1 e.fType (Nat.lt_succ_self _) hl.2.2) ?_
    simp -implicitDefEqProofs (disch := omega) only [go_sem]
    exact int_eq (by unfold hereCode; rw [if_neg k1, if_neg k2, if_neg k3, if_neg k4, if_neg k5, if_pos k6])
  · exact int_eq (by unfold hereCode; rw [if_neg k1, if_neg k2, if_neg k3, if_neg k4, if_neg k5, if_neg h])
theorem l18Expr_ok (w : MProgram) (i : Int) (e : MExpr) (hsz : w.sz ≤ 4194304) (hi : -9223372036854775808 ≤ i ∧ i ≤ 9223372036854775807) (he : e.sz ≤ 4194304) : PCall Tryz.prog 51 [w.v, .c (.d (.i .i64 i)), e.v] (.c (.d (.i .i64 (hereCode w i e)))) := fun S => by
  have hl := MExpr.lens he
  refine acall_cwm (rs := [.tmp 6]) Tryz.checked.mixed Tryz.func51 Tryz.ntmps51 rfl rfl rfl rfl rfl ?_
  simp -implicitDefEqProofs (disch := omega) only [go_sem]
  with_reducible refine split2 (fun hb => ?_) (fun hb => ?_) <;> have h := hb <;> (try simp only [wf_preprocess] at h) <;> simp -implicitDefEqProofs (disch := omega) only [go_sem, hb] <;> (repeat (with_reducible refine And.intro ?_ ?_; focus first | omega | rfl | assumption | exact ⟨_, rfl, rfl⟩ | (simp; omega) | (simp; done)))
  · have k1 := h
    refine call_w (specFnAt_ok w e.fName hsz) ?_
    cases hr : fnAt w e.fName with
    | none =>
      simp -implicitDefEqProofs (disch := omega) only [go_sem, fnC, idxO, Option.isSome_none]
      exact int_eq (by unfold hereCode; rw [if_pos k1, if_neg (by rw [hr]; simp [seesO])])
    | some x =>
      obtain ⟨f, p⟩ := x
      have hfl := fnAt_len hr hsz
      simp -implicitDefEqProofs (disch := omega) only [go_sem, fnC, idxO, Option.isSome_some]
      refine call_w (specIsVis_ok w i p hsz hi) ?_
      simp -implicitDefEqProofs (disch := omega) only [go_sem]
      with_reducible refine split2 (fun hb => ?_) (fun hb => ?_) <;> have h := hb <;> (try simp only [wf_preprocess] at h) <;> simp -implicitDefEqProofs (disch := omega) only [go_sem, hb] <;> (repeat (with_reducible refine And.intro ?_ ?_; focus first | omega | rfl | assumption | exact ⟨_, rfl, rfl⟩ | (simp; omega) | (simp; done)))
      · have hs : ¬ seesO w i (fnAt w e.fName) = true := by rw [hr]; show ¬ dec _ = true; rw [dec_eq_true]; exact h
        exact int_eq (by unfold hereCode; rw [if_pos k1, if_neg hs])
      · have hs : seesO w i (fnAt w e.fName) = true := by rw [hr]; exact dec_true h
        have hc : hereCode w i e = if f.fParams.length = e.fArgs.length then 0 else 9 := by unfold hereCode; rw [if_pos k1, if_pos hs, hr]
        with_reducible refine split2 (fun hb => ?_) (fun hb => ?_) <;> have h := hb <;> (try simp only [wf_preprocess] at h) <;> simp -implicitDefEqProofs (disch := omega) only [go_sem, hb] <;> (repeat (with_reducible refine And.intro ?_ ?_; focus first | omega | rfl | assumption | exact ⟨_, rfl, rfl⟩ | (simp; omega) | (simp; done)))
        · exact int_eq (by rw [hc, if_neg (by omega)])
        · exact int_eq (by rw [hc, if_pos (by omega)])
  have k1 := h
  with_reducible refine split2 (fun hb => ?_) (fun hb => ?_) <;> have h := hb <;> (try simp only [wf_preprocess] at h) <;> simp -implicitDefEqProofs (disch := omega) only [go_sem, hb] <;> (repeat (with_reducible refine And.intro ?_ ?_; focus first | omega | rfl | assumption | exact ⟨_, rfl, rfl⟩ | (simp; omega) | (simp; done)))
  · have k2 := h
    refine call_w (l18Trait_ok w i e.fTrait hsz hi) ?_
    simp -implicitDefEqProofs (disch := omega) only [go_sem]
    cases hs : seesO w i (traitAt w e.fTrait) with
    | false =>
      cases hr : traitAt w e.fTrait <;> (simp -implicitDefEqProofs (disch := omega) only [go_sem, trC]; exact int_eq (by unfold hereCode; rw [if_neg k1, if_pos k2, if_neg (by rw [hs]; simp)]))
    | true =>
      obtain ⟨t, p, ht⟩ := seesO_some hs
      have htz := traitAt_sz ht hsz
      have hc : hereCode w i e = match sigAt t e.fName with | some (g, _) => if e.fArgs.length = g.fParams.length + 1 then 0 else 6 | none => 6 := by unfold hereCode; rw [if_neg k1, if_pos k2, if_pos hs, ht] <;> rfl
      simp -implicitDefEqProofs (disch := omega) only [go_sem, ht, trC]
      refine call_w (specSig_ok t e.fName htz) ?_
      cases hg : sigAt t e.fName with
      | none =>
        simp -implicitDefEqProofs (disch := omega) only [go_sem, sigC, Option.isSome_none]
        exact int_eq (by rw [hc, hg])
      | some x =>
        obtain ⟨g, k⟩ := x
        have hgl := sigAt_len hg htz
        rw [hg] at hc
        simp only at hc
        simp -implicitDefEqProofs (disch := omega) only [go_sem, sigC, Option.isSome_some]
        with_reducible refine split2 (fun hb => ?_) (fun hb => ?_) <;> have h := hb <;> (try simp only [wf_preprocess] at h) <;> simp -implicitDefEqProofs (disch := omega) only [go_sem, hb] <;> (repeat (with_reducible refine And.intro ?_ ?_; focus first | omega | rfl | assumption | exact ⟨_, rfl, rfl⟩ | (simp; omega) | (simp; done)))
        · exact int_eq (by rw [hc, if_neg (by omega)])
        · exact int_eq (by rw [hc, if_pos (by omega)])
  have k2 := h
  with_reducible refine split2 (fun hb => ?_) (fun hb => ?_) <;> have h := hb <;> (try simp only [wf_preprocess] at h) <;> simp -implicitDefEqProofs (disch := omega) only [go_sem, hb] <;> (repeat (with_reducible refine And.intro ?_ ?_; focus first | omega | rfl | assumption | exact ⟨_, rfl, rfl⟩ | (simp; omega) | (simp; done)))
  · have k3 := h
    refine call_w (l18Ctor_ok w i e.fName hsz hi) ?_
    simp -implicitDefEqProofs (disch := omega) only [go_sem]
    cases hs : seesC w i (ctorAt w e.fName) with
    | false =>
      cases hr : ctorAt w e.fName <;> (simp -implicitDefEqProofs (disch := omega) only [go_sem, ctC, idxO]; exact int_eq (by unfold hereCode; rw [if_neg k1, if_neg k2, if_pos k3, if_neg (by rw [hs]; simp)]))
    | true =>
      obtain ⟨d, k, hd⟩ := seesC_ex hs
      obtain ⟨hdz, hk⟩ := ctorAt_sz hd hsz
      have hdl := MDataType.lenCt hdz
      have hcl := MConstructor.lenFd (MDataType.szCt hk hdz)
      have hc : hereCode w i e = if e.fArgs.length = d.fConstructors[k].fFields.length then 0 else 2 := by unfold hereCode; rw [if_neg k1, if_neg k2, if_pos k3, if_pos hs, hd]; simp only [List.getElem?_eq_getElem hk]
      simp -implicitDefEqProofs (disch := omega) only [go_sem, hd, ctC, idxO]
      (repeat (with_reducible refine And.intro ?_ ?_; focus first | omega | rfl | assumption | exact ⟨_, rfl, rfl⟩ | (simp; omega) | (simp; done)))
      refine ⟨by rfl, ?_⟩
      simp -implicitDefEqProofs (disch := omega) only [go_sem]
      with_reducible refine split2 (fun hb => ?_) (fun hb => ?_) <;> have h := hb <;> (try simp only [wf_preprocess] at h) <;> simp -implicitDefEqProofs (disch := omega) only [go_sem, hb] <;> (repeat (with_reducible refine And.intro ?_ ?_; focus first | omega | rfl | assumption | exact ⟨_, rfl, rfl⟩ | (simp; omega) | (simp; done)))
      · exact int_eq (by rw [hc, if_neg (by omega)])
      · exact int_eq (by rw [hc, if_pos (by omega)])
  have k3 := h
  with_reducible refine split2 (fun hb => ?_) (fun hb => ?_) <;> have h := hb <;> (try simp only [wf_preprocess] at h) <;> simp -implicitDefEqProofs (disch := omega) only [go_sem, hb] <;> (repeat (with_reducible refine And.intro ?_ ?_; focus first | omega | rfl | assumption | exact ⟨_, rfl, rfl⟩ | (simp; omega) | (simp; done)))
  · have k4 := h
    with_reducible refine split2 (fun hb => ?_) (fun hb => ?_) <;> have h := hb <;> (try simp only [wf_preprocess] at h) <;> simp -implicitDefEqProofs (disch := omega) only [go_sem, hb] <;> (repeat (with_reducible refine And.intro ?_ ?_; focus first | omega | rfl | assumption | exact ⟨_, rfl, rfl⟩ | (simp; omega) | (simp; done)))
    · exact int_eq (by rw [here7n k4 (by omega)])
    have ha : 0 < e.fArms.length := by omega
    (repeat (with_reducible refine And.intro ?_ ?_; focus first | omega | rfl | assumption | exact ⟨_, rfl, rfl⟩ | (simp; omega) | (simp; done)))
    refine call_w (l18Ctor_ok w i e.fArms[0].fConstructor hsz hi) ?_
    have hc := here7 (w := w) (i := i) k4 ha
    simp -implicitDefEqProofs (disch := omega) only [go_sem]
    cases hs : seesC w i (ctorAt w e.fArms[0].fConstructor) with
    | false =>
      rw [if_neg (by rw [hs]; simp)] at hc
      cases hr : ctorAt w e.fArms[0].fConstructor <;> (simp -implicitDefEqProofs (disch := omega) only [go_sem, ctC, idxO]; refine ⟨by rfl, ?_⟩; simp -implicitDefEqProofs (disch := omega) only [go_sem]; exact int_eq (by rw [hc]))
    | true =>
      obtain ⟨d, k, hd⟩ := seesC_ex hs
      obtain ⟨hdz, hk⟩ := ctorAt_sz hd hsz
      rw [if_pos hs, hd] at hc
      simp only at hc
      simp -implicitDefEqProofs (disch := omega) only [go_sem, hd, ctC, idxO]
      refine ⟨by rfl, ?_⟩
      simp -implicitDefEqProofs (disch := omega) only [go_sem]
      refine call_w (l18Arms_ok d e.fArms hdz hl.2.1) ?_
      simp -implicitDefEqProofs (disch := omega) only [go_sem]
      with_reducible refine split2 (fun hb => ?_) (fun hb => ?_) <;> have h := hb <;> (try simp only [wf_preprocess] at h) <;> simp -implicitDefEqProofs (disch := omega) only [go_sem, hb] <;> (repeat (with_reducible refine And.intro ?_ ?_; focus first | omega | rfl | assumption | exact ⟨_, rfl, rfl⟩ | (simp; omega) | (simp; done)))
      · exact int_eq (by rw [hc, h]; rfl)
      · exact int_eq (by rw [hc, h]; rfl)
  have k4 := h
  with_reducible refine split2 (fun hb => ?_) (fun hb => ?_) <;> have h := hb <;> (try simp only [wf_preprocess] at h) <;> simp -implicitDefEqProofs (disch := omega) only [go_sem, hb] <;> (repeat (with_reducible refine And.intro ?_ ?_; focus first | omega | rfl | assumption | exact ⟨_, rfl, rfl⟩ | (simp; omega) | (simp; done)))
  · have k5 := h
    refine call_w (l18Dyn_ok w i e.fTrait hsz hi) ?_
    simp -implicitDefEqProofs (disch := omega) only [go_sem]
    exact int_eq (by unfold hereCode; rw [if_neg k1, if_neg k2, if_neg k3, if_neg k4, if_pos k5])
  have k5 := h
  with_reducible refine split2 (fun hb => ?_) (fun hb => ?_) <;> have h := hb <;> (try simp only [wf_preprocess] at h) <;> simp -implicitDefEqProofs (disch := omega) only [go_sem, hb] <;> (repeat (with_reducible refine And.intro ?_ ?_; focus first | omega | rfl | assumption | exact ⟨_, rfl, rfl⟩ | (simp; omega) | (simp; done)))
  · have k6 := h
    refine call_w (specCheckType_ok w i e.fType hsz hl.2.2 hi) ?_
    simp -implicitDefEqProofs (disch := omega) only [go_sem]
    exact int_eq (by unfold hereCode; rw [if_neg k1, if_neg k2, if_neg k3, if_neg k4, if_neg k5, if_pos k6])
  · exact int_eq (by unfold hereCode; rw [if_neg k1, if_neg k2, if_neg k3, if_neg k4, if_neg k5, if_neg h])
end Go.Proofs.YtnleocfkdidhoaaGreat

namespace Go.Ab
mutual
noncomputable def exCode (w : MProgram) (i : Int) : MExpr → Int
  | .mk k tr n x t a r => if hereCode w i (.mk k tr n x t a r) = 0 then (if exCodes w i a = 0 then amCodes w i r else exCodes w i a) else hereCode w i (.mk k tr n x t a r)
noncomputable def exCodes (w : MProgram) (i : Int) : List MExpr → Int
  | [] => 0
  | e :: es => if exCode w i e = 0 then exCodes w i es else exCode w i e
noncomputable def amCodes (w : MProgram) (i : Int) : List MArm → Int
  | [] => 0
  | a :: r => if amCode w i a = 0 then amCodes w i r else amCode w i a
noncomputable def amCode (w : MProgram) (i : Int) : MArm → Int
  | .mk c v b => exCode w i b
end
theorem exCode_eq (w : MProgram) (i : Int) (e : MExpr) : exCode w i e = if hereCode w i e = 0 then (if exCodes w i e.fArgs = 0 then amCodes w i e.fArms else exCodes w i e.fArgs) else hereCode w i e := by cases e; rw [exCode]; rfl
theorem amCode_eq (w : MProgram) (i : Int) (a : MArm) : amCode w i a = exCode w i a.fBody := by cases a; rw [amCode]; rfl
theorem exCodes_drop {w : MProgram} {i : Int} {es : List MExpr} {k : Nat} (hk : k < es.length) : exCodes w i (es.drop k) = if exCode w i es[k] = 0 then exCodes w i (es.drop (k + 1)) else exCode w i es[k] := by
  rw [List.drop_eq_getElem_cons hk, exCodes]
theorem amCodes_drop {w : MProgram} {i : Int} {rs : List MArm} {k : Nat} (hk : k < rs.length) : amCodes w i (rs.drop k) = if amCode w i rs[k] = 0 then amCodes w i (rs.drop (k + 1)) else amCode w i rs[k] := by
  rw [List.drop_eq_getElem_cons hk, amCodes]
theorem arg_szE {e : MExpr} {k : Nat} (hk : k < e.fArgs.length) (h : e.sz ≤ 4194304) : e.fArgs[k].sz ≤ 4194304 := by
  have b : e.fArgs[k].sz ≤ szRows (e.fArgs.map MExpr.enc) := szRows_mem (List.mem_map_of_mem (List.getElem_mem hk))
  simp only [MExpr.sz, MExpr.enc_eq, szRow, szRow_append, D.sz, List.length_map] at h
  simp only [MExpr.sz, MExpr.enc_eq] at b ⊢
  omega
theorem arm_szE {e : MExpr} {k : Nat} (hk : k < e.fArms.length) (h : e.sz ≤ 4194304) : e.fArms[k].fBody.sz ≤ 4194304 := by
  have b : szRow e.fArms[k].enc ≤ szRows (e.fArms.map MArm.enc) := szRows_mem (List.mem_map_of_mem (List.getElem_mem hk))
  have c : e.fArms[k].fBody.sz ≤ szRow e.fArms[k].enc := by
    rw [MArm.enc_eq]; simp only [szRow, szRow_append, MExpr.sz]; omega
  simp only [MExpr.sz, MExpr.enc_eq, szRow, szRow_append, D.sz, List.length_map] at h
  omega
end Go.Ab
namespace Go.Proofs.YtnleocfkdidhoaaGreat
open Go Go.Ab
theorem viewExpr_all (w : MProgram) (i : Int) (hsz : w.sz ≤ 4194304) : ∀ n : Nat, ∀ e : MExpr, SizeOf.sizeOf e < n → e.sz ≤ 4194304 → PCall Tryz.prog 57 [viewV w (visI w i), e.v] (.c (.d (.i .i64 (exCode w i e)))) := by
  intro n
  induction n with
  | zero => intro e h; omega
  | succ n ih =>
    intro e hn he S
    have hl := MExpr.lens he
    have hc := exCode_eq w i e
    refine acall_cw (rs := [.tmp 4]) Tryz.checked.mixed Tryz.func57 Tryz.ntmps57 rfl rfl rfl rfl rfl ?_
    simp -implicitDefEqProofs (disch := omega) only [go_sem]
    refine call_w (checkHere_ok w i e hsz he) ?_
    simp -implicitDefEqProofs (disch := omega) only [go_sem]
    with_reducible refine split2 (fun hb => ?_) (fun hb => ?_) <;> have h := hb <;> (try simp only [wf_preprocess] at h) <;> simp -implicitDefEqProofs (disch := omega) only [go_sem, hb] <;> (repeat (with_reducible refine And.intro ?_ ?_; focus first | omega | rfl | assumption | exact ⟨_, rfl, rfl⟩ | (simp; omega) | (simp; done)))
    · exact int_eq (by rw [hc, if_neg h])
    rw [if_pos (Classical.not_not.1 (fun hx => hx h))] at hc
    refine loop_at (ι := Nat) Tryz.checked.mixed rfl [2, 3, 19, 20, 21] (fun k => [.c (.ptr (0, 0) 0), .c (.ptr (0, 1) 0), .c (.d (.sl (e.fArgs.map MExpr.enc))), .c (.d (.i .i64 e.fArgs.length)), .c (.d (.i .i64 k))]) (fun _ => [.box [.d (.sl (w.fPackages.map MPackage.enc)), .d (.sl ((visI w i).map encI))], .box (e.enc.map .d)] :: S)
      (fun k => k ≤ e.fArgs.length ∧ exCodes w i (e.fArgs.drop k) = exCodes w i e.fArgs) (fun k => e.fArgs.length - k) 0 rfl ?_ ⟨Nat.zero_le _, rfl⟩ ?_
    · simp -implicitDefEqProofs (disch := omega) only [go_sem]
    rintro k ⟨p1, p2⟩
    simp -implicitDefEqProofs (disch := omega) only [go_sem]
    with_reducible refine split2 (fun hb => ?_) (fun hb => ?_) <;> have h := hb <;> (try simp only [wf_preprocess] at h) <;> simp -implicitDefEqProofs (disch := omega) only [go_sem, hb] <;> (repeat (with_reducible refine And.intro ?_ ?_; focus first | omega | rfl | assumption | exact ⟨_, rfl, rfl⟩ | (simp; omega) | (simp; done)))
    · have hk : k < e.fArgs.length := by omega
      have hlt : SizeOf.sizeOf e.fArgs[k] < n := by
        have := List.sizeOf_lt_of_mem (List.getElem_mem hk)
        have := MExpr.lt_Args e
        omega
      rw [exCodes_drop hk] at p2
      (repeat (with_reducible refine And.intro ?_ ?_; focus first | omega | rfl | assumption | exact ⟨_, rfl, rfl⟩ | (simp; omega) | (simp; done)))
      refine call_w (ih e.fArgs[k] hlt (arg_szE hk he)) ?_
      simp -implicitDefEqProofs (disch := omega) only [go_sem]
      with_reducible refine split2 (fun hb => ?_) (fun hb => ?_) <;> have h := hb <;> (try simp only [wf_preprocess] at h) <;> simp -implicitDefEqProofs (disch := omega) only [go_sem, hb] <;> (repeat (with_reducible refine And.intro ?_ ?_; focus first | omega | rfl | assumption | exact ⟨_, rfl, rfl⟩ | (simp; omega) | (simp; done)))
      · rw [if_neg h] at p2
        exact int_eq (by rw [hc, ← p2, if_neg h])
      · rw [if_pos (Classical.not_not.1 (fun hx => hx h))] at p2
        exact inv_drop 2 (by decide) (k + 1) (by omega) rfl rfl rfl rfl ⟨by omega, p2⟩
    rw [List.drop_of_length_le (by omega), exCodes] at p2
    rw [← p2, if_pos rfl] at hc
    refine loop_at (ι := Nat) Tryz.checked.mixed rfl [2, 33, 34, 35] (fun k => [.c (.ptr (0, 0) 0), .c (.d (.sl (e.fArms.map MArm.enc))), .c (.d (.i .i64 e.fArms.length)), .c (.d (.i .i64 k))]) (fun _ => [.box [.d (.sl (w.fPackages.map MPackage.enc)), .d (.sl ((visI w i).map encI))], .box (e.enc.map .d)] :: S)
      (fun k => k ≤ e.fArms.length ∧ amCodes w i (e.fArms.drop k) = amCodes w i e.fArms) (fun k => e.fArms.length - k) 0 rfl ?_ ⟨Nat.zero_le _, rfl⟩ ?_
    · simp -implicitDefEqProofs (disch := omega) only [go_sem]
    rintro k ⟨q1, q2⟩
    simp -implicitDefEqProofs (disch := omega) only [go_sem]
    with_reducible refine split2 (fun hb => ?_) (fun hb => ?_) <;> have h := hb <;> (try simp only [wf_preprocess] at h) <;> simp -implicitDefEqProofs (disch := omega) only [go_sem, hb] <;> (repeat (with_reducible refine And.intro ?_ ?_; focus first | omega | rfl | assumption | exact ⟨_, rfl, rfl⟩ | (simp; omega) | (simp; done)))
    · have hk : k < e.fArms.length := by omega
      have hlt : SizeOf.sizeOf e.fArms[k].fBody < n := by
        have := List.sizeOf_lt_of_mem (List.getElem_mem hk)
        have := MExpr.lt_Arms e
        have := MArm.lt_Body e.fArms[k]
        omega
      rw [amCodes_drop hk, amCode_eq] at q2
      (repeat (with_reducible refine And.intro ?_ ?_; focus first | omega | rfl | assumption | exact ⟨_, rfl, rfl⟩ | (simp; omega) | (simp; done)))
      refine call_w (ih e.fArms[k].fBody hlt (arm_szE hk he)) ?_
      simp -implicitDefEqProofs (disch := omega) only [go_sem]
      with_reducible refine split2 (fun hb => ?_) (fun hb => ?_) <;> have h := hb <;> (try simp only [wf_preprocess] at h) <;> simp -implicitDefEqProofs (disch := omega) only [go_sem, hb] <;> (repeat (with_reducible refine And.intro ?_ ?_; focus first | omega | rfl | assumption | exact ⟨_, rfl, rfl⟩ | (simp; omega) | (simp; done)))
      · rw [if_neg h] at q2
        exact int_eq (by rw [hc, ← q2])
      · rw [if_pos (Classical.not_not.1 (fun hx => hx h))] at q2
        exact inv_drop 2 (by decide) (k + 1) (by omega) rfl rfl rfl rfl ⟨by omega, q2⟩
    · rw [List.drop_of_length_le (by omega), amCodes] at q2
      exact int_eq (by rw [hc, ← q2])
theorem specCheckExpr_all (w : MProgram) (i : Int) (hsz : w.sz ≤ 4194304) (hi : -9223372036854775808 ≤ i ∧ i ≤ 9223372036854775807) : ∀ n : Nat, ∀ e : MExpr, SizeOf.sizeOf e < n → e.sz ≤ 4194304 → PCall Tryz.prog 12 [w.v, .c (.d (.i .i64 i)), e.v] (.c (.d (.i .i64 (exCode w i e)))) := by
  intro n
  induction n with
  | zero => intro e h; omega
  | succ n ih =>
    intro e hn he S
    have hl := MExpr.lens he
    have hc := exCode_eq w i e
    refine acall_cw (rs := [.tmp 6]) Tryz.checked.mixed Tryz.func12 Tryz.ntmps12 rfl rfl rfl rfl rfl ?_
    simp -implicitDefEqProofs (disch := omega) only [go_sem]
    refine call_w (l18Expr_ok w i e hsz hi he) ?_
    simp -implicitDefEqProofs (disch := omega) only [go_sem]
    -- what is still asked, from the code so far
    refine loop_at (ι := Nat × Int) Tryz.checked.mixed rfl [1, 3, 5, 7, 8] (fun y => [.c (.d (.i .i64 i)), .c (.ptr (0, 0) 0), .c (.ptr (0, 1) 0), .c (.d (.i .i64 y.2)), .c (.d (.i .i64 y.1))]) (fun _ => [.box (w.enc.map .d), .box (e.enc.map .d)] :: S)
      (fun y => y.1 ≤ e.fArgs.length ∧ exCode w i e = if y.2 = 0 then (if exCodes w i (e.fArgs.drop y.1) = 0 then amCodes w i e.fArms else exCodes w i (e.fArgs.drop y.1)) else y.2) (fun y => e.fArgs.length - y.1) (0, hereCode w i e) rfl ?_ ⟨Nat.zero_le _, hc⟩ ?_
    · simp -implicitDefEqProofs (disch := omega) only [go_sem]
    rintro ⟨k, c⟩ ⟨p1, p2⟩
    simp only at p1 p2
    simp -implicitDefEqProofs (disch := omega) only [go_sem]
    have stop : c ≠ 0 ∨ k = e.fArgs.length → exCode w i e = if c = 0 then amCodes w i e.fArms else c := fun h => by
      rw [p2]
      rcases h with h | h
      · rw [if_neg h, if_neg h]
      · rw [List.drop_of_length_le (by omega), exCodes, if_pos rfl]
    with_reducible refine split2 (fun hb => ?_) (fun hb => ?_) <;> have h := hb <;> (try simp only [wf_preprocess] at h) <;> simp -implicitDefEqProofs (disch := omega) only [go_sem, hb] <;> (repeat (with_reducible refine And.intro ?_ ?_; focus first | omega | rfl | assumption | exact ⟨_, rfl, rfl⟩ | (simp; omega) | (simp; done)))
    with_reducible refine split2 (fun hb => ?_) (fun hb => ?_) <;> have h := hb <;> (try simp only [wf_preprocess] at h) <;> simp -implicitDefEqProofs (disch := omega) only [go_sem, hb] <;> (repeat (with_reducible refine And.intro ?_ ?_; focus first | omega | rfl | assumption | exact ⟨_, rfl, rfl⟩ | (simp; omega) | (simp; done)))
    · have hk : k < e.fArgs.length := by omega
      have hlt : SizeOf.sizeOf e.fArgs[k] < n := by
        have := List.sizeOf_lt_of_mem (List.getElem_mem hk)
        have := MExpr.lt_Args e
        omega
      rw [if_pos h, exCodes_drop hk] at p2
      (repeat (with_reducible refine And.intro ?_ ?_; focus first | omega | rfl | assumption | exact ⟨_, rfl, rfl⟩ | (simp; omega) | (simp; done)))
      refine call_w (ih e.fArgs[k] hlt (arg_szE hk he)) ?_
      simp -implicitDefEqProofs (disch := omega) only [go_sem]
      refine inv_at (k + 1, exCode w i e.fArgs[k]) (by simp only; omega) rfl rfl ⟨by simp only; omega, ?_⟩
      simp only
      rw [p2]
      by_cases hz : exCode w i e.fArgs[k] = 0
      · rw [if_pos hz, if_pos hz]
      · rw [if_neg hz, if_neg hz, if_neg hz]
    all_goals have hs := stop (by first | exact .inl h | exact .inr (by omega))
    all_goals refine loop_at (ι := Nat × Int) Tryz.checked.mixed rfl [1, 3, 5, 7, 9] (fun y => [.c (.d (.i .i64 i)), .c (.ptr (0, 0) 0), .c (.ptr (0, 1) 0), .c (.d (.i .i64 y.2)), .c (.d (.i .i64 y.1))]) (fun _ => [.box (w.enc.map .d), .box (e.enc.map .d)] :: S) (fun y => y.1 ≤ e.fArms.length ∧ exCode w i e = if y.2 = 0 then amCodes w i (e.fArms.drop y.1) else y.2) (fun y => e.fArms.length - y.1) (0, c) rfl (by simp -implicitDefEqProofs (disch := omega) only [go_sem]) ⟨Nat.zero_le _, hs⟩ ?_
    all_goals rintro ⟨k2, c2⟩ ⟨q1, q2⟩
    all_goals simp only at q1 q2
    all_goals simp -implicitDefEqProofs (disch := omega) only [go_sem]
    all_goals with_reducible refine split2 (fun hb => ?_) (fun hb => ?_) <;> have h := hb <;> (try simp only [wf_preprocess] at h) <;> simp -implicitDefEqProofs (disch := omega) only [go_sem, hb] <;> (repeat (with_reducible refine And.intro ?_ ?_; focus first | omega | rfl | assumption | exact ⟨_, rfl, rfl⟩ | (simp; omega) | (simp; done)))
    all_goals first
      | (rw [List.drop_of_length_le (by omega), amCodes] at q2
         refine int_eq ?_
         rw [q2]
         split <;> omega)
      | skip
    all_goals with_reducible refine split2 (fun hb => ?_) (fun hb => ?_) <;> have h := hb <;> (try simp only [wf_preprocess] at h) <;> simp -implicitDefEqProofs (disch := omega) only [go_sem, hb] <;> (repeat (with_reducible refine And.intro ?_ ?_; focus first | omega | rfl | assumption | exact ⟨_, rfl, rfl⟩ | (simp; omega) | (simp; done)))
    all_goals first
      | (rw [if_neg h] at q2
         exact int_eq q2.symm)
      | skip
    all_goals
      have hk : k2 < e.fArms.length := by omega
      have hlt : SizeOf.sizeOf e.fArms[k2].fBody < n := by
        have := List.sizeOf_lt_of_mem (List.getElem_mem hk)
        have := MExpr.lt_Arms e
        have := MArm.lt_Body e.fArms[k2]
        omega
      rw [if_pos h, amCodes_drop hk, amCode_eq] at q2
      (repeat (with_reducible refine And.intro ?_ ?_; focus first | omega | rfl | assumption | exact ⟨_, rfl, rfl⟩ | (simp; omega) | (simp; done)))
      refine call_w (ih e.fArms[k2].fBody hlt (arm_szE hk he)) ?_
      simp -implicitDefEqProofs (disch := omega) only [go_sem]
      refine inv_at (k2 + 1, exCode w i e.fArms[k2].fBody) (by simp only; omega) rfl rfl ⟨by simp only; omega, ?_⟩
      simp only
      rw [q2]
theorem specCheckExpr_ok (w : MProgram) (i : Int) (e : MExpr) (hsz : w.sz ≤ 4194304) (he : e.sz ≤ 4194304) (hi : -9223372036854775808 ≤ i ∧ i ≤ 9223372036854775807) : PCall Tryz.prog 12 [w.v, .c (.d (.i .i64 i)), e.v] (.c (.d (.i .i64 (exCode w i e)))) := specCheckExpr_all w i hsz hi _ e (Nat.lt_succ_self _) he
theorem implCheckExpr_ok (w : MProgram) (i : Int) (e : MExpr) (hsz : w.sz ≤ 4194304) (he : e.sz ≤ 4194304) (hi : -9223372036854775808 ≤ i ∧ i ≤ 9223372036854775807) : PCall Tryz.prog 15 [w.v, .c (.d (.i .i64 i)), e.v] (.c (.d (.i .i64 (exCode w i e)))) := fun S => by
  refine acall_cw (rs := [.tmp 6]) Tryz.checked.mixed Tryz.func15 Tryz.ntmps15 rfl rfl rfl rfl rfl ?_
  simp -implicitDefEqProofs (disch := omega) only [go_sem]
  refine call_w (viewOf_ok w i hsz hi) ?_
  simp -implicitDefEqProofs (disch := omega) only [go_sem]
  refine call_w (viewExpr_all w i hsz _ e (Nat.lt_succ_self _) he) ?_
  simp -implicitDefEqProofs (disch := omega) only [go_sem]
end Go.Proofs.YtnleocfkdidhoaaGreat

namespace Go.Proofs.YtnleocfkdidhoaaGreat.fnExactCheckExpr
open Go Go.Ab
theorem law (x0 : MProgram) (x1 : Int) (x2 : MExpr) (f0 : FitL x0.enc) (w1 : -9223372036854775808 ≤ x1 ∧ x1 ≤ 9223372036854775807) (f2 : FitL x2.enc) : ACall Tryz.prog 3 [x0.v, .c (.d (.i .i64 x1)), x2.v] [] (fun r _ => r = .c (.d (.b true))) := by
  refine acall_cw (rs := [.tmp 6]) Tryz.checked.mixed Tryz.func3 Tryz.ntmps3 rfl rfl rfl rfl rfl ?_
  simp -implicitDefEqProofs (disch := omega) only [go_sem]
  refine call_w (szProgram_ok x0 _ (by omega) (by omega) f0) ?_
  simp -implicitDefEqProofs (disch := omega) only [go_sem] <;> (repeat (with_reducible refine And.intro ?_ ?_; focus first | omega | rfl | assumption | exact ⟨_, rfl, rfl⟩ | (simp; omega) | (simp; done)))
  with_reducible refine split2 (fun hb => ?_) (fun hb => ?_) <;> have h := hb <;> (try simp only [wf_preprocess] at h) <;> simp -implicitDefEqProofs (disch := omega) only [go_sem, hb] <;> (repeat (with_reducible refine And.intro ?_ ?_; focus first | omega | rfl | assumption | exact ⟨_, rfl, rfl⟩ | (simp; omega) | (simp; done)))
  have h0 := sub1_nn h
  simp only [h0.1]
  refine call_w (szExpr_ok x2 _ (by omega) (by omega) f2) ?_
  simp -implicitDefEqProofs (disch := omega) only [go_sem] <;> (repeat (with_reducible refine And.intro ?_ ?_; focus first | omega | rfl | assumption | exact ⟨_, rfl, rfl⟩ | (simp; omega) | (simp; done)))
  with_reducible refine split2 (fun hb => ?_) (fun hb => ?_) <;> have h := hb <;> (try simp only [wf_preprocess] at h) <;> simp -implicitDefEqProofs (disch := omega) only [go_sem, hb] <;> (repeat (with_reducible refine And.intro ?_ ?_; focus first | omega | rfl | assumption | exact ⟨_, rfl, rfl⟩ | (simp; omega) | (simp; done)))
  have h2 := sub1_nn h
  refine call_w (toProgram_ok x0 (by omega)) ?_
  simp -implicitDefEqProofs (disch := omega) only [go_sem] <;> (repeat (with_reducible refine And.intro ?_ ?_; focus first | omega | rfl | assumption | exact ⟨_, rfl, rfl⟩ | (simp; omega) | (simp; done)))
  refine call_w (toExpr_ok x2 (by omega)) ?_
  simp -implicitDefEqProofs (disch := omega) only [go_sem] <;> (repeat (with_reducible refine And.intro ?_ ?_; focus first | omega | rfl | assumption | exact ⟨_, rfl, rfl⟩ | (simp; omega) | (simp; done)))
  refine call_w (specCheckExpr_ok x0 x1 x2 (by omega) (by omega) w1) ?_
  simp -implicitDefEqProofs (disch := omega) only [go_sem] <;> (repeat (with_reducible refine And.intro ?_ ?_; focus first | omega | rfl | assumption | exact ⟨_, rfl, rfl⟩ | (simp; omega) | (simp; done)))
  refine call_w (toProgram_ok x0 (by omega)) ?_
  simp -implicitDefEqProofs (disch := omega) only [go_sem] <;> (repeat (with_reducible refine And.intro ?_ ?_; focus first | omega | rfl | assumption | exact ⟨_, rfl, rfl⟩ | (simp; omega) | (simp; done)))
  refine call_w (toExpr_ok x2 (by omega)) ?_
  simp -implicitDefEqProofs (disch := omega) only [go_sem] <;> (repeat (with_reducible refine And.intro ?_ ?_; focus first | omega | rfl | assumption | exact ⟨_, rfl, rfl⟩ | (simp; omega) | (simp; done)))
  refine call_w (implCheckExpr_ok x0 x1 x2 (by omega) (by omega) w1) ?_
  simp -implicitDefEqProofs (disch := omega) only [go_sem] <;> (repeat (with_reducible refine And.intro ?_ ?_; focus first | omega | rfl | assumption | exact ⟨_, rfl, rfl⟩ | (simp; omega) | (simp; done)))
  refine call_w (toProgram_ok x0 (by omega)) ?_
  simp -implicitDefEqProofs (disch := omega) only [go_sem] <;> (repeat (with_reducible refine And.intro ?_ ?_; focus first | omega | rfl | assumption | exact ⟨_, rfl, rfl⟩ | (simp; omega) | (simp; done)))
  refine call_w (eqProgram_ok x0 x0 (by omega)) ?_
  simp -implicitDefEqProofs (disch := omega) only [go_sem] <;> (repeat (with_reducible refine And.intro ?_ ?_; focus first | omega | rfl | assumption | exact ⟨_, rfl, rfl⟩ | (simp; omega) | (simp; done)))
  refine call_w (toExpr_ok x2 (by omega)) ?_
  simp -implicitDefEqProofs (disch := omega) only [go_sem] <;> (repeat (with_reducible refine And.intro ?_ ?_; focus first | omega | rfl | assumption | exact ⟨_, rfl, rfl⟩ | (simp; omega) | (simp; done)))
  refine call_w (eqExpr_ok x2 x2 (by omega)) ?_
  simp -implicitDefEqProofs (disch := omega) only [go_sem] <;> (repeat (with_reducible refine And.intro ?_ ?_; focus first | omega | rfl | assumption | exact ⟨_, rfl, rfl⟩ | (simp; omega) | (simp; done)))
end Go.Proofs.YtnleocfkdidhoaaGreat.fnExactCheckExpr

namespace Go.Ab
theorem wt_pos {P : Program} {n : Nat} {t : TypeId} {ds : List D} (h : WT P n t ds) : ∃ m, n = m + 1 := by
  cases n with
  | zero => exact h.elim
  | succ m => exact ⟨m, rfl⟩
theorem wt_bool {P : Program} {n : Nat} {t : TypeId} {ds : List D} (ht : P.underlying t = some .bool) (h : WT P n t ds) : ∃ b, ds = [.b b] := by
  obtain ⟨m, rfl⟩ := wt_pos h
  simp only [WT, ht] at h; exact h
theorem wt_int {P : Program} {n : Nat} {t : TypeId} {k : IntKind} {ds : List D} (ht : P.underlying t = some (.int k)) (h : WT P n t ds) : ∃ x, ds = [.i k x] ∧ (Lit.int k x).wf = true := by
  obtain ⟨m, rfl⟩ := wt_pos h
  simp only [WT, ht] at h; exact h
theorem wt_string {P : Program} {n : Nat} {t : TypeId} {ds : List D} (ht : P.underlying t = some .string) (h : WT P n t ds) : ∃ l, ds = [.s l] := by
  obtain ⟨m, rfl⟩ := wt_pos h
  simp only [WT, ht] at h; exact ⟨h.choose, h.choose_spec.1⟩
theorem wt_slice {P : Program} {n : Nat} {t e : TypeId} {ds : List D} (ht : P.underlying t = some (.slice e)) (h : WT P n t ds) : ∃ es m, m < n ∧ ds = [.sl es] ∧ ∀ x ∈ es, WT P m e x := by
  obtain ⟨m, rfl⟩ := wt_pos h
  simp only [WT, ht] at h
  obtain ⟨es, h1, _, h2⟩ := h
  exact ⟨es, m, by omega, h1, fun x hx => (h2 x hx).2⟩
theorem wt_struct {P : Program} {n : Nat} {t : TypeId} {fs : Array Field} {ds : List D} (ht : P.underlying t = some (.struct fs)) (h : WT P n t ds) : ∃ m, m < n ∧ WTF P (WT P m) fs.toList ds := by
  obtain ⟨m, rfl⟩ := wt_pos h
  simp only [WT, ht] at h
  exact ⟨m, by omega, h⟩
theorem list_enc {α : Type} {enc : α → List D} : ∀ {es : List (List D)}, (∀ x ∈ es, ∃ m, x = enc m) → ∃ ms : List α, es = ms.map enc
  | [], _ => ⟨[], rfl⟩
  | e :: es, h => by
    obtain ⟨m, hm⟩ := h e (by simp)
    obtain ⟨ms, hms⟩ := list_enc (es := es) fun x hx => h x (by simp [hx])
    exact ⟨m :: ms, by rw [List.map_cons, ← hm, ← hms]⟩
theorem wtf_fit {P : Program} {W : TypeId → List D → Prop} (hW : ∀ t ds, W t ds → FitL ds) : ∀ (fs : List Field) (ds : List D), WTF P W fs ds → FitL ds
  | [], ds, h => by
    have h : ds = [] := h
    rw [h]; exact fitL_nil
  | f :: fs, ds, h => by
    obtain ⟨a, b, rfl, _, h1, h2⟩ := h
    exact fitL_append.2 ⟨hW _ _ h1, wtf_fit hW fs b h2⟩
theorem wt_fit {P : Program} : ∀ (n : Nat) (t : TypeId) (ds : List D), WT P n t ds → FitL ds
  | 0, t, ds, h => h.elim
  | n + 1, t, ds, h => by
    simp only [WT] at h
    split at h
    · obtain ⟨b, rfl⟩ := h; exact fitL_cons.2 ⟨.b _, fitL_nil⟩
    · obtain ⟨b, rfl, _⟩ := h; exact fitL_cons.2 ⟨.i _ _, fitL_nil⟩
    · obtain ⟨l, rfl, hl⟩ := h; exact fitL_cons.2 ⟨.s _ hl, fitL_nil⟩
    · obtain ⟨es, rfl, hl, hh⟩ := h
      exact fitL_cons.2 ⟨.sl _ hl fun e he d hd => wt_fit n _ e (hh e he).2 d hd, fitL_nil⟩
    · exact wtf_fit (wt_fit n) _ _ h
    · exact h.elim
end Go.Ab
namespace Go.Proofs.YtnleocfkdidhoaaGreat
open Go Go.Ab
theorem wt_Type : ∀ (n : Nat) (ds : List D), WT Tryz.prog n 27 ds → ∃ x : MType, ds = x.enc := by
  intro n
  induction n using Nat.strongRecOn with
  | _ n ih =>
    intro ds h
    obtain ⟨m, hm, h⟩ := wt_struct Tryz.underlying27 h
    simp only [WTF] at h
    obtain ⟨a0, r0, rfl, l0, h0, a1, r1, rfl, l1, h1, a2, r2, rfl, l2, h2, rfl⟩ := h
    obtain ⟨x0, rfl, _⟩ := wt_int Tryz.underlying3 h0
    obtain ⟨x1, rfl⟩ := wt_string Tryz.underlying9 h1
    obtain ⟨es2, m2, hm2, rfl, hs2⟩ := wt_slice Tryz.underlying25 h2
    obtain ⟨x2, rfl⟩ := list_enc (enc := MType.enc) fun y hy => ih m2 (by omega) y (hs2 y hy)
    refine ⟨MType.mk x0 x1 x2, ?_⟩
    rw [MType.enc_eq]
    simp [MType.fKind, MType.fName, MType.fArgs]
theorem wt_Bound : ∀ (n : Nat) (ds : List D), WT Tryz.prog n 303 ds → ∃ x : MBound, ds = x.enc := by
  intro n
  induction n using Nat.strongRecOn with
  | _ n ih =>
    intro ds h
    obtain ⟨m, hm, h⟩ := wt_struct Tryz.underlying303 h
    simp only [WTF] at h
    obtain ⟨a0, r0, rfl, l0, h0, a1, r1, rfl, l1, h1, rfl⟩ := h
    obtain ⟨x0, rfl⟩ := wt_string Tryz.underlying9 h0
    obtain ⟨x1, rfl⟩ := wt_Type m a1 h1
    refine ⟨MBound.mk x0 x1, ?_⟩
    rw [MBound.enc_eq]
    simp
theorem wt_ExprArm : ∀ (n : Nat), (∀ ds : List D, WT Tryz.prog n 31 ds → ∃ x : MExpr, ds = x.enc) ∧ (∀ ds : List D, WT Tryz.prog n 173 ds → ∃ x : MArm, ds = x.enc) := by
  intro n
  induction n using Nat.strongRecOn with
  | _ n ih =>
    refine ⟨fun ds h => ?_, fun ds h => ?_⟩
    · obtain ⟨m, hm, h⟩ := wt_struct Tryz.underlying31 h
      simp only [WTF] at h
      obtain ⟨a0, r0, rfl, l0, h0, a1, r1, rfl, l1, h1, a2, r2, rfl, l2, h2, a3, r3, rfl, l3, h3, a4, r4, rfl, l4, h4, a5, r5, rfl, l5, h5, a6, r6, rfl, l6, h6, rfl⟩ := h
      obtain ⟨x0, rfl, _⟩ := wt_int Tryz.underlying3 h0
      obtain ⟨x1, rfl⟩ := wt_string Tryz.underlying9 h1
      obtain ⟨x2, rfl⟩ := wt_string Tryz.underlying9 h2
      obtain ⟨x3, rfl, _⟩ := wt_int Tryz.underlying3 h3
      obtain ⟨x4, rfl⟩ := wt_Type m a4 h4
      obtain ⟨es5, m5, hm5, rfl, hs5⟩ := wt_slice Tryz.underlying28 h5
      obtain ⟨x5, rfl⟩ := list_enc (enc := MExpr.enc) fun y hy => (ih m5 (by omega)).1 y (hs5 y hy)
      obtain ⟨es6, m6, hm6, rfl, hs6⟩ := wt_slice Tryz.underlying29 h6
      obtain ⟨x6, rfl⟩ := list_enc (enc := MArm.enc) fun y hy => (ih m6 (by omega)).2 y (hs6 y hy)
      refine ⟨MExpr.mk x0 x1 x2 x3 x4 x5 x6, ?_⟩
      rw [MExpr.enc_eq]
      simp [MExpr.fKind, MExpr.fTrait, MExpr.fName, MExpr.fN, MExpr.fType, MExpr.fArgs, MExpr.fArms]
    · obtain ⟨m, hm, h⟩ := wt_struct Tryz.underlying173 h
      simp only [WTF] at h
      obtain ⟨a0, r0, rfl, l0, h0, a1, r1, rfl, l1, h1, a2, r2, rfl, l2, h2, rfl⟩ := h
      obtain ⟨x0, rfl⟩ := wt_string Tryz.underlying9 h0
      obtain ⟨es1, m1, hm1, rfl, hs1⟩ := wt_slice Tryz.underlying50 h1
      obtain ⟨x1, rfl⟩ := list_enc (enc := encS) fun y hy => wt_string Tryz.underlying9 (hs1 y hy)
      obtain ⟨x2, rfl⟩ := (ih m (by omega)).1 a2 h2
      refine ⟨MArm.mk x0 x1 x2, ?_⟩
      rw [MArm.enc_eq]
      simp [MArm.fConstructor, MArm.fVars, MArm.fBody]
theorem wt_Expr (n : Nat) (ds : List D) (h : WT Tryz.prog n 31 ds) : ∃ x : MExpr, ds = x.enc := (wt_ExprArm n).1 ds h
theorem wt_Signature : ∀ (n : Nat) (ds : List D), WT Tryz.prog n 297 ds → ∃ x : MSignature, ds = x.enc := by
  intro n
  induction n using Nat.strongRecOn with
  | _ n ih =>
    intro ds h
    obtain ⟨m, hm, h⟩ := wt_struct Tryz.underlying297 h
    simp only [WTF] at h
    obtain ⟨a0, r0, rfl, l0, h0, a1, r1, rfl, l1, h1, a2, r2, rfl, l2, h2, a3, r3, rfl, l3, h3, a4, r4, rfl, l4, h4, a5, r5, rfl, l5, h5, rfl⟩ := h
    obtain ⟨x0, rfl⟩ := wt_string Tryz.underlying9 h0
    obtain ⟨es1, m1, hm1, rfl, hs1⟩ := wt_slice Tryz.underlying25 h1
    obtain ⟨x1, rfl⟩ := list_enc (enc := MType.enc) fun y hy => wt_Type m1 y (hs1 y hy)
    obtain ⟨x2, rfl⟩ := wt_Type m a2 h2
    obtain ⟨x3, rfl⟩ := wt_bool Tryz.underlying4 h3
    obtain ⟨es4, m4, hm4, rfl, hs4⟩ := wt_slice Tryz.underlying50 h4
    obtain ⟨x4, rfl⟩ := list_enc (enc := encS) fun y hy => wt_string Tryz.underlying9 (hs4 y hy)
    obtain ⟨x5, rfl⟩ := wt_Expr m a5 h5
    refine ⟨MSignature.mk x0 x1 x2 x3 x4 x5, ?_⟩
    rw [MSignature.enc_eq]
    simp
theorem wt_Trait : ∀ (n : Nat) (ds : List D), WT Tryz.prog n 196 ds → ∃ x : MTrait, ds = x.enc := by
  intro n
  induction n using Nat.strongRecOn with
  | _ n ih =>
    intro ds h
    obtain ⟨m, hm, h⟩ := wt_struct Tryz.underlying196 h
    simp only [WTF] at h
    obtain ⟨a0, r0, rfl, l0, h0, a1, r1, rfl, l1, h1, a2, r2, rfl, l2, h2, a3, r3, rfl, l3, h3, a4, r4, rfl, l4, h4, rfl⟩ := h
    obtain ⟨x0, rfl⟩ := wt_string Tryz.underlying9 h0
    obtain ⟨es1, m1, hm1, rfl, hs1⟩ := wt_slice Tryz.underlying50 h1
    obtain ⟨x1, rfl⟩ := list_enc (enc := encS) fun y hy => wt_string Tryz.underlying9 (hs1 y hy)
    obtain ⟨x2, rfl⟩ := wt_bool Tryz.underlying4 h2
    obtain ⟨x3, rfl⟩ := wt_bool Tryz.underlying4 h3
    obtain ⟨es4, m4, hm4, rfl, hs4⟩ := wt_slice Tryz.underlying194 h4
    obtain ⟨x4, rfl⟩ := list_enc (enc := MSignature.enc) fun y hy => wt_Signature m4 y (hs4 y hy)
    refine ⟨MTrait.mk x0 x1 x2 x3 x4, ?_⟩
    rw [MTrait.enc_eq]
    simp
theorem wt_Constructor : ∀ (n : Nat) (ds : List D), WT Tryz.prog n 300 ds → ∃ x : MConstructor, ds = x.enc := by
  intro n
  induction n using Nat.strongRecOn with
  | _ n ih =>
    intro ds h
    obtain ⟨m, hm, h⟩ := wt_struct Tryz.underlying300 h
    simp only [WTF] at h
    obtain ⟨a0, r0, rfl, l0, h0, a1, r1, rfl, l1, h1, rfl⟩ := h
    obtain ⟨x0, rfl⟩ := wt_string Tryz.underlying9 h0
    obtain ⟨es1, m1, hm1, rfl, hs1⟩ := wt_slice Tryz.underlying25 h1
    obtain ⟨x1, rfl⟩ := list_enc (enc := MType.enc) fun y hy => wt_Type m1 y (hs1 y hy)
    refine ⟨MConstructor.mk x0 x1, ?_⟩
    rw [MConstructor.enc_eq]
    simp
theorem wt_DataType : ∀ (n : Nat) (ds : List D), WT Tryz.prog n 200 ds → ∃ x : MDataType, ds = x.enc := by
  intro n
  induction n using Nat.strongRecOn with
  | _ n ih =>
    intro ds h
    obtain ⟨m, hm, h⟩ := wt_struct Tryz.underlying200 h
    simp only [WTF] at h
    obtain ⟨a0, r0, rfl, l0, h0, a1, r1, rfl, l1, h1, a2, r2, rfl, l2, h2, rfl⟩ := h
    obtain ⟨x0, rfl⟩ := wt_string Tryz.underlying9 h0
    obtain ⟨es1, m1, hm1, rfl, hs1⟩ := wt_slice Tryz.underlying50 h1
    obtain ⟨x1, rfl⟩ := list_enc (enc := encS) fun y hy => wt_string Tryz.underlying9 (hs1 y hy)
    obtain ⟨es2, m2, hm2, rfl, hs2⟩ := wt_slice Tryz.underlying198 h2
    obtain ⟨x2, rfl⟩ := list_enc (enc := MConstructor.enc) fun y hy => wt_Constructor m2 y (hs2 y hy)
    refine ⟨MDataType.mk x0 x1 x2, ?_⟩
    rw [MDataType.enc_eq]
    simp
theorem wt_Method : ∀ (n : Nat) (ds : List D), WT Tryz.prog n 306 ds → ∃ x : MMethod, ds = x.enc := by
  intro n
  induction n using Nat.strongRecOn with
  | _ n ih =>
    intro ds h
    obtain ⟨m, hm, h⟩ := wt_struct Tryz.underlying306 h
    simp only [WTF] at h
    obtain ⟨a0, r0, rfl, l0, h0, a1, r1, rfl, l1, h1, a2, r2, rfl, l2, h2, rfl⟩ := h
    obtain ⟨x0, rfl⟩ := wt_string Tryz.underlying9 h0
    obtain ⟨es1, m1, hm1, rfl, hs1⟩ := wt_slice Tryz.underlying50 h1
    obtain ⟨x1, rfl⟩ := list_enc (enc := encS) fun y hy => wt_string Tryz.underlying9 (hs1 y hy)
    obtain ⟨x2, rfl⟩ := wt_Expr m a2 h2
    refine ⟨MMethod.mk x0 x1 x2, ?_⟩
    rw [MMethod.enc_eq]
    simp
theorem wt_Instance : ∀ (n : Nat) (ds : List D), WT Tryz.prog n 205 ds → ∃ x : MInstance, ds = x.enc := by
  intro n
  induction n using Nat.strongRecOn with
  | _ n ih =>
    intro ds h
    obtain ⟨m, hm, h⟩ := wt_struct Tryz.underlying205 h
    simp only [WTF] at h
    obtain ⟨a0, r0, rfl, l0, h0, a1, r1, rfl, l1, h1, a2, r2, rfl, l2, h2, a3, r3, rfl, l3, h3, a4, r4, rfl, l4, h4, a5, r5, rfl, l5, h5, a6, r6, rfl, l6, h6, a7, r7, rfl, l7, h7, rfl⟩ := h
    obtain ⟨x0, rfl⟩ := wt_string Tryz.underlying9 h0
    obtain ⟨es1, m1, hm1, rfl, hs1⟩ := wt_slice Tryz.underlying50 h1
    obtain ⟨x1, rfl⟩ := list_enc (enc := encS) fun y hy => wt_string Tryz.underlying9 (hs1 y hy)
    obtain ⟨x2, rfl⟩ := wt_Type m a2 h2
    obtain ⟨es3, m3, hm3, rfl, hs3⟩ := wt_slice Tryz.underlying202 h3
    obtain ⟨x3, rfl⟩ := list_enc (enc := MBound.enc) fun y hy => wt_Bound m3 y (hs3 y hy)
    obtain ⟨x4, rfl⟩ := wt_bool Tryz.underlying4 h4
    obtain ⟨x5, rfl⟩ := wt_bool Tryz.underlying4 h5
    obtain ⟨x6, rfl⟩ := wt_Type m a6 h6
    obtain ⟨es7, m7, hm7, rfl, hs7⟩ := wt_slice Tryz.underlying203 h7
    obtain ⟨x7, rfl⟩ := list_enc (enc := MMethod.enc) fun y hy => wt_Method m7 y (hs7 y hy)
    refine ⟨MInstance.mk x0 x1 x2 x3 x4 x5 x6 x7, ?_⟩
    rw [MInstance.enc_eq]
    simp
theorem wt_Param : ∀ (n : Nat) (ds : List D), WT Tryz.prog n 309 ds → ∃ x : MParam, ds = x.enc := by
  intro n
  induction n using Nat.strongRecOn with
  | _ n ih =>
    intro ds h
    obtain ⟨m, hm, h⟩ := wt_struct Tryz.underlying309 h
    simp only [WTF] at h
    obtain ⟨a0, r0, rfl, l0, h0, a1, r1, rfl, l1, h1, rfl⟩ := h
    obtain ⟨x0, rfl⟩ := wt_string Tryz.underlying9 h0
    obtain ⟨x1, rfl⟩ := wt_Type m a1 h1
    refine ⟨MParam.mk x0 x1, ?_⟩
    rw [MParam.enc_eq]
    simp
theorem wt_Function : ∀ (n : Nat) (ds : List D), WT Tryz.prog n 209 ds → ∃ x : MFunction, ds = x.enc := by
  intro n
  induction n using Nat.strongRecOn with
  | _ n ih =>
    intro ds h
    obtain ⟨m, hm, h⟩ := wt_struct Tryz.underlying209 h
    simp only [WTF] at h
    obtain ⟨a0, r0, rfl, l0, h0, a1, r1, rfl, l1, h1, a2, r2, rfl, l2, h2, a3, r3, rfl, l3, h3, a4, r4, rfl, l4, h4, a5, r5, rfl, l5, h5, rfl⟩ := h
    obtain ⟨x0, rfl⟩ := wt_string Tryz.underlying9 h0
    obtain ⟨es1, m1, hm1, rfl, hs1⟩ := wt_slice Tryz.underlying50 h1
    obtain ⟨x1, rfl⟩ := list_enc (enc := encS) fun y hy => wt_string Tryz.underlying9 (hs1 y hy)
    obtain ⟨es2, m2, hm2, rfl, hs2⟩ := wt_slice Tryz.underlying202 h2
    obtain ⟨x2, rfl⟩ := list_enc (enc := MBound.enc) fun y hy => wt_Bound m2 y (hs2 y hy)
    obtain ⟨es3, m3, hm3, rfl, hs3⟩ := wt_slice Tryz.underlying207 h3
    obtain ⟨x3, rfl⟩ := list_enc (enc := MParam.enc) fun y hy => wt_Param m3 y (hs3 y hy)
    obtain ⟨x4, rfl⟩ := wt_Type m a4 h4
    obtain ⟨x5, rfl⟩ := wt_Expr m a5 h5
    refine ⟨MFunction.mk x0 x1 x2 x3 x4 x5, ?_⟩
    rw [MFunction.enc_eq]
    simp
theorem wt_Package : ∀ (n : Nat) (ds : List D), WT Tryz.prog n 56 ds → ∃ x : MPackage, ds = x.enc := by
  intro n
  induction n using Nat.strongRecOn with
  | _ n ih =>
    intro ds h
    obtain ⟨m, hm, h⟩ := wt_struct Tryz.underlying56 h
    simp only [WTF] at h
    obtain ⟨a0, r0, rfl, l0, h0, a1, r1, rfl, l1, h1, a2, r2, rfl, l2, h2, a3, r3, rfl, l3, h3, a4, r4, rfl, l4, h4, a5, r5, rfl, l5, h5, rfl⟩ := h
    obtain ⟨x0, rfl⟩ := wt_string Tryz.underlying9 h0
    obtain ⟨es1, m1, hm1, rfl, hs1⟩ := wt_slice Tryz.underlying50 h1
    obtain ⟨x1, rfl⟩ := list_enc (enc := encS) fun y hy => wt_string Tryz.underlying9 (hs1 y hy)
    obtain ⟨es2, m2, hm2, rfl, hs2⟩ := wt_slice Tryz.underlying51 h2
    obtain ⟨x2, rfl⟩ := list_enc (enc := MTrait.enc) fun y hy => wt_Trait m2 y (hs2 y hy)
    obtain ⟨es3, m3, hm3, rfl, hs3⟩ := wt_slice Tryz.underlying52 h3
    obtain ⟨x3, rfl⟩ := list_enc (enc := MDataType.enc) fun y hy => wt_DataType m3 y (hs3 y hy)
    obtain ⟨es4, m4, hm4, rfl, hs4⟩ := wt_slice Tryz.underlying53 h4
    obtain ⟨x4, rfl⟩ := list_enc (enc := MInstance.enc) fun y hy => wt_Instance m4 y (hs4 y hy)
    obtain ⟨es5, m5, hm5, rfl, hs5⟩ := wt_slice Tryz.underlying54 h5
    obtain ⟨x5, rfl⟩ := list_enc (enc := MFunction.enc) fun y hy => wt_Function m5 y (hs5 y hy)
    refine ⟨MPackage.mk x0 x1 x2 x3 x4 x5, ?_⟩
    rw [MPackage.enc_eq]
    simp
theorem wt_Program : ∀ (n : Nat) (ds : List D), WT Tryz.prog n 24 ds → ∃ x : MProgram, ds = x.enc := by
  intro n
  induction n using Nat.strongRecOn with
  | _ n ih =>
    intro ds h
    obtain ⟨m, hm, h⟩ := wt_struct Tryz.underlying24 h
    simp only [WTF] at h
    obtain ⟨a0, r0, rfl, l0, h0, rfl⟩ := h
    obtain ⟨es0, m0, hm0, rfl, hs0⟩ := wt_slice Tryz.underlying22 h0
    obtain ⟨x0, rfl⟩ := list_enc (enc := MPackage.enc) fun y hy => wt_Package m0 y (hs0 y hy)
    refine ⟨MProgram.mk x0, ?_⟩
    rw [MProgram.enc_eq]
    simp
end Go.Proofs.YtnleocfkdidhoaaGreat

