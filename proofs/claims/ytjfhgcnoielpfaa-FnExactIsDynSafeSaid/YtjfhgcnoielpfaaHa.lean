/-
  CONTRACTS: is a trait safe behind dyn? the program's and the reference's.
-/
import Derived.Test.YtjfhgcnoielpfaaNc
import Derived.Test.YtjfhgcnoielpfaaSl
import Derived.Test.YtjfhgcnoielpfaaLhTrait
set_option linter.unusedSimpArgs false
set_option linter.unusedVariables false
set_option maxRecDepth 4000
namespace Go.Ab
theorem MTrait.bounds {x : MTrait} (h : x.sz ≤ 4194304) : x.fName.length ≤ 4194304 ∧ x.fSupertraits.length ≤ 4194304 ∧ x.fSignatures.length ≤ 4194304 := by
  simp only [MTrait.sz, MTrait.enc_eq, szRow, szRow_append, D.sz, List.length_map] at h
  omega
theorem MTrait.sig_b {x : MTrait} {i : Nat} (hi : i < x.fSignatures.length) (h : x.sz ≤ 4194304) : x.fSignatures[i].sz ≤ 4194304 := by
  have hx : x.fSignatures[i].sz ≤ szRows (x.fSignatures.map MSignature.enc) := szRows_mem (List.mem_map_of_mem (List.getElem_mem hi))
  simp only [MTrait.sz, MTrait.enc_eq, szRow, szRow_append, D.sz, List.length_map] at h
  omega
theorem MSignature.bounds {x : MSignature} (h : x.sz ≤ 4194304) : x.fName.length ≤ 4194304 ∧ x.fParams.length ≤ 4194304 ∧ x.fResult.sz ≤ 4194304 ∧ x.fVars.length ≤ 4194304 ∧ x.fBody.sz ≤ 4194304 ∧ ∀ t ∈ x.fParams, t.sz ≤ 4194304 := by
  simp only [MSignature.sz, MSignature.enc_eq, szRow, szRow_append, D.sz, List.length_map, MType.sz_def, MExpr.sz_def] at h
  refine ⟨by omega, by omega, by omega, by omega, by omega, fun t ht => ?_⟩
  have hx : t.sz ≤ szRows (x.fParams.map MType.enc) := szRows_mem (List.mem_map_of_mem ht)
  omega
end Go.Ab
namespace Go.Proofs.Ytjfhgcnoielpfaa
open Go Go.Ab

theorem specDynSafe_ok (t : MTrait) (hsz : t.sz ≤ 4194304) : PCall Try.prog 20 [t.v] (.c (.d (.b (dynSafe t)))) := fun S => by
  have hts := MTrait.bounds hsz
  have bad : ∀ i, ∀ hi : i < t.fSignatures.length, mentions t.fSignatures[i] = true → dynSafe t = false := fun i hi h => by
    unfold dynSafe
    rw [show t.fSignatures.any mentions = true from List.any_eq_true.2 ⟨_, List.getElem_mem hi, h⟩]
    simp
  refine acall_cw (rs := [.tmp 2]) Try.checked.mixed Try.func20 Try.ntmps20 rfl rfl rfl rfl rfl ?_
  simp -implicitDefEqProofs (disch := omega) only [go_sem, ↓reduceIte, Nat.reduceEqDiff, Nat.reduceAdd, Nat.reduceLeDiff, Nat.reduceSub, Nat.reduceMul, Nat.reduceBEq, Int.reduceEq, Int.reduceLT, Int.reduceLE, Int.reduceGT, Int.reduceGE, Int.reduceNeg]
  refine loop_at (ι := Nat) Try.checked.mixed rfl [1, 3] (fun i => [.c (.ptr (0, 0) 0), .c (.d (.i .i64 i))]) (fun _ => [.box (t.enc.map .d)] :: S)
    (fun i => i ≤ t.fSignatures.length ∧ ∀ j, ∀ hj : j < t.fSignatures.length, j < i → mentions t.fSignatures[j] = false) (fun i => t.fSignatures.length - i) 0 rfl ?_ ⟨Nat.zero_le _, fun j _ h => by omega⟩ ?_
  · simp -implicitDefEqProofs (disch := omega) only [go_sem, ↓reduceIte, Nat.reduceEqDiff, Nat.reduceAdd, Nat.reduceLeDiff, Nat.reduceSub, Nat.reduceMul, Nat.reduceBEq, Int.reduceEq, Int.reduceLT, Int.reduceLE, Int.reduceGT, Int.reduceGE, Int.reduceNeg]
  rintro i ⟨p1, p2⟩
  simp -implicitDefEqProofs (disch := omega) only [go_sem, ↓reduceIte, Nat.reduceEqDiff, Nat.reduceAdd, Nat.reduceLeDiff, Nat.reduceSub, Nat.reduceMul, Nat.reduceBEq, Int.reduceEq, Int.reduceLT, Int.reduceLE, Int.reduceGT, Int.reduceGE, Int.reduceNeg]
  refine split2 (fun hb => ?_) (fun hb => ?_) <;> have h := hb <;> (try simp only [decide_eq_true_eq, decide_eq_false_iff_not, Bool.not_eq_true, Bool.not_eq_false, Bool.not_eq_eq_eq_not, Bool.not_true, Bool.not_false, dec_eq_true, dec_eq_false, Classical.not_not] at h) <;> simp -implicitDefEqProofs (disch := omega) only [go_sem, hb, ↓reduceIte, Nat.reduceEqDiff, Nat.reduceAdd, Nat.reduceLeDiff, Nat.reduceSub, Nat.reduceMul, Nat.reduceBEq, Int.reduceEq, Int.reduceLT, Int.reduceLE, Int.reduceGT, Int.reduceGE, Int.reduceNeg] <;> (repeat ((with_reducible refine And.intro ?_ ?_); (focus (first | omega | rfl | assumption | exact ⟨_, rfl, rfl⟩ | (simp only [List.length_take, List.length_map, List.length_append, List.length_cons, List.length_nil]; omega) | (simp; done)))))
  · have hi : i < t.fSignatures.length := by omega
    have hg := MSignature.bounds (MTrait.sig_b hi hsz)
    (repeat ((with_reducible refine And.intro ?_ ?_); (focus (first | omega | rfl | assumption | exact ⟨_, rfl, rfl⟩ | (simp only [List.length_take, List.length_map, List.length_append, List.length_cons, List.length_nil]; omega) | (simp; done)))))
    refine call_w (specOccurs_ok selfN t.fSignatures[i].fResult (by omega)) ?_
    simp -implicitDefEqProofs (disch := omega) only [go_sem, ↓reduceIte, Nat.reduceEqDiff, Nat.reduceAdd, Nat.reduceLeDiff, Nat.reduceSub, Nat.reduceMul, Nat.reduceBEq, Int.reduceEq, Int.reduceLT, Int.reduceLE, Int.reduceGT, Int.reduceGE, Int.reduceNeg] <;> (repeat ((with_reducible refine And.intro ?_ ?_); (focus (first | omega | rfl | assumption | exact ⟨_, rfl, rfl⟩ | (simp only [List.length_take, List.length_map, List.length_append, List.length_cons, List.length_nil]; omega) | (simp; done)))))
    refine split2 (fun hb => ?_) (fun hb => ?_) <;> have h := hb <;> (try simp only [decide_eq_true_eq, decide_eq_false_iff_not, Bool.not_eq_true, Bool.not_eq_false, Bool.not_eq_eq_eq_not, Bool.not_true, Bool.not_false, dec_eq_true, dec_eq_false, Classical.not_not] at h) <;> simp -implicitDefEqProofs (disch := omega) only [go_sem, hb, ↓reduceIte, Nat.reduceEqDiff, Nat.reduceAdd, Nat.reduceLeDiff, Nat.reduceSub, Nat.reduceMul, Nat.reduceBEq, Int.reduceEq, Int.reduceLT, Int.reduceLE, Int.reduceGT, Int.reduceGE, Int.reduceNeg] <;> (repeat ((with_reducible refine And.intro ?_ ?_); (focus (first | omega | rfl | assumption | exact ⟨_, rfl, rfl⟩ | (simp only [List.length_take, List.length_map, List.length_append, List.length_cons, List.length_nil]; omega) | (simp; done)))))
    · rw [bad i hi (by unfold mentions; rw [h]; rfl)]
    have hr := h
    refine loop_at (ι := Nat) Try.checked.mixed rfl [1, 3, 4] (fun k => [.c (.ptr (0, 0) 0), .c (.d (.i .i64 i)), .c (.d (.i .i64 k))]) (fun _ => [.box (t.enc.map .d)] :: S)
      (fun k => k ≤ t.fSignatures[i].fParams.length ∧ ∀ j, ∀ hj : j < t.fSignatures[i].fParams.length, j < k → occurs selfN t.fSignatures[i].fParams[j] = false) (fun k => t.fSignatures[i].fParams.length - k) 0 rfl ?_ ⟨Nat.zero_le _, fun j _ h => by omega⟩ ?_
    · simp -implicitDefEqProofs (disch := omega) only [go_sem, ↓reduceIte, Nat.reduceEqDiff, Nat.reduceAdd, Nat.reduceLeDiff, Nat.reduceSub, Nat.reduceMul, Nat.reduceBEq, Int.reduceEq, Int.reduceLT, Int.reduceLE, Int.reduceGT, Int.reduceGE, Int.reduceNeg]
    rintro k ⟨q1, q2⟩
    simp -implicitDefEqProofs (disch := omega) only [go_sem, ↓reduceIte, Nat.reduceEqDiff, Nat.reduceAdd, Nat.reduceLeDiff, Nat.reduceSub, Nat.reduceMul, Nat.reduceBEq, Int.reduceEq, Int.reduceLT, Int.reduceLE, Int.reduceGT, Int.reduceGE, Int.reduceNeg]
    (repeat ((with_reducible refine And.intro ?_ ?_); (focus (first | omega | rfl | assumption | exact ⟨_, rfl, rfl⟩ | (simp only [List.length_take, List.length_map, List.length_append, List.length_cons, List.length_nil]; omega) | (simp; done)))))
    refine split2 (fun hb => ?_) (fun hb => ?_) <;> have h := hb <;> (try simp only [decide_eq_true_eq, decide_eq_false_iff_not, Bool.not_eq_true, Bool.not_eq_false, Bool.not_eq_eq_eq_not, Bool.not_true, Bool.not_false, dec_eq_true, dec_eq_false, Classical.not_not] at h) <;> simp -implicitDefEqProofs (disch := omega) only [go_sem, hb, ↓reduceIte, Nat.reduceEqDiff, Nat.reduceAdd, Nat.reduceLeDiff, Nat.reduceSub, Nat.reduceMul, Nat.reduceBEq, Int.reduceEq, Int.reduceLT, Int.reduceLE, Int.reduceGT, Int.reduceGE, Int.reduceNeg] <;> (repeat ((with_reducible refine And.intro ?_ ?_); (focus (first | omega | rfl | assumption | exact ⟨_, rfl, rfl⟩ | (simp only [List.length_take, List.length_map, List.length_append, List.length_cons, List.length_nil]; omega) | (simp; done)))))
    · have hk : k < t.fSignatures[i].fParams.length := by omega
      (repeat ((with_reducible refine And.intro ?_ ?_); (focus (first | omega | rfl | assumption | exact ⟨_, rfl, rfl⟩ | (simp only [List.length_take, List.length_map, List.length_append, List.length_cons, List.length_nil]; omega) | (simp; done)))))
      refine call_w (specOccurs_ok selfN t.fSignatures[i].fParams[k] (hg.2.2.2.2.2 _ (List.getElem_mem hk))) ?_
      simp -implicitDefEqProofs (disch := omega) only [go_sem, ↓reduceIte, Nat.reduceEqDiff, Nat.reduceAdd, Nat.reduceLeDiff, Nat.reduceSub, Nat.reduceMul, Nat.reduceBEq, Int.reduceEq, Int.reduceLT, Int.reduceLE, Int.reduceGT, Int.reduceGE, Int.reduceNeg] <;> (repeat ((with_reducible refine And.intro ?_ ?_); (focus (first | omega | rfl | assumption | exact ⟨_, rfl, rfl⟩ | (simp only [List.length_take, List.length_map, List.length_append, List.length_cons, List.length_nil]; omega) | (simp; done)))))
      refine split2 (fun hb => ?_) (fun hb => ?_) <;> have h := hb <;> (try simp only [decide_eq_true_eq, decide_eq_false_iff_not, Bool.not_eq_true, Bool.not_eq_false, Bool.not_eq_eq_eq_not, Bool.not_true, Bool.not_false, dec_eq_true, dec_eq_false, Classical.not_not] at h) <;> simp -implicitDefEqProofs (disch := omega) only [go_sem, hb, ↓reduceIte, Nat.reduceEqDiff, Nat.reduceAdd, Nat.reduceLeDiff, Nat.reduceSub, Nat.reduceMul, Nat.reduceBEq, Int.reduceEq, Int.reduceLT, Int.reduceLE, Int.reduceGT, Int.reduceGE, Int.reduceNeg] <;> (repeat ((with_reducible refine And.intro ?_ ?_); (focus (first | omega | rfl | assumption | exact ⟨_, rfl, rfl⟩ | (simp only [List.length_take, List.length_map, List.length_append, List.length_cons, List.length_nil]; omega) | (simp; done)))))
      · rw [bad i hi (by unfold mentions; rw [show t.fSignatures[i].fParams.any (occurs selfN) = true from List.any_eq_true.2 ⟨_, List.getElem_mem hk, h⟩]; simp)]
      · refine inv_at (k + 1) (by omega) rfl rfl ⟨by omega, fun j hj hjk => ?_⟩
        by_cases e : j = k
        · subst e; exact h
        · exact q2 j hj (by omega)
    · refine inv_at (i + 1) (by omega) rfl rfl ⟨by omega, fun j hj hji => ?_⟩
      by_cases e : j = i
      · subst e
        unfold mentions
        rw [hr, Bool.false_or]
        refine Bool.eq_false_iff.2 fun hx => ?_
        obtain ⟨u, hu, ho⟩ := List.any_eq_true.1 hx
        obtain ⟨m, hm, e⟩ := List.getElem_of_mem hu
        rw [← e, q2 m hm (by omega)] at ho
        cases ho
      · exact p2 j hj (by omega)
  · have hn : t.fSignatures.any mentions = false := Bool.eq_false_iff.2 fun hx => by
      obtain ⟨u, hu, ho⟩ := List.any_eq_true.1 hx
      obtain ⟨m, hm, e⟩ := List.getElem_of_mem hu
      rw [← e, p2 m hm (by omega)] at ho
      cases ho
    exact bool_eq (by unfold dynSafe; rw [hn]; simp)
theorem mentionsSelf_ok (g : MSignature) (hsz : g.sz ≤ 4194304) : PCall Try.prog 65 [g.v] (.c (.d (.b (mentions g)))) := fun S => by
  have hg := MSignature.bounds hsz
  have hcl : ∀ x ∈ g.fParams, PCall Try.prog 108 [x.v] (.c (.d (.b (occurs selfN x)))) := fun x hx S => by
    refine acall_cw (rs := [.tmp 2]) Try.checked.mixed Try.func108 Try.ntmps108 rfl rfl rfl rfl rfl ?_
    simp -implicitDefEqProofs (disch := omega) only [go_sem, ↓reduceIte, Nat.reduceEqDiff, Nat.reduceAdd, Nat.reduceLeDiff, Nat.reduceSub, Nat.reduceMul, Nat.reduceBEq, Int.reduceEq, Int.reduceLT, Int.reduceLE, Int.reduceGT, Int.reduceGE, Int.reduceNeg]
    refine call_w (implOccurs_ok selfN x (hg.2.2.2.2.2 x hx)) ?_
    simp -implicitDefEqProofs (disch := omega) only [go_sem, ↓reduceIte, Nat.reduceEqDiff, Nat.reduceAdd, Nat.reduceLeDiff, Nat.reduceSub, Nat.reduceMul, Nat.reduceBEq, Int.reduceEq, Int.reduceLT, Int.reduceLE, Int.reduceGT, Int.reduceGE, Int.reduceNeg] <;> (repeat ((with_reducible refine And.intro ?_ ?_); (focus (first | omega | rfl | assumption | exact ⟨_, rfl, rfl⟩ | (simp only [List.length_take, List.length_map, List.length_append, List.length_cons, List.length_nil]; omega) | (simp; done)))))
  refine acall_cw (rs := [.tmp 2]) Try.checked.mixed Try.func65 Try.ntmps65 rfl rfl rfl rfl rfl ?_
  simp -implicitDefEqProofs (disch := omega) only [go_sem, ↓reduceIte, Nat.reduceEqDiff, Nat.reduceAdd, Nat.reduceLeDiff, Nat.reduceSub, Nat.reduceMul, Nat.reduceBEq, Int.reduceEq, Int.reduceLT, Int.reduceLE, Int.reduceGT, Int.reduceGE, Int.reduceNeg]
  refine call_w (implOccurs_ok selfN g.fResult (by omega)) ?_
  simp -implicitDefEqProofs (disch := omega) only [go_sem, ↓reduceIte, Nat.reduceEqDiff, Nat.reduceAdd, Nat.reduceLeDiff, Nat.reduceSub, Nat.reduceMul, Nat.reduceBEq, Int.reduceEq, Int.reduceLT, Int.reduceLE, Int.reduceGT, Int.reduceGE, Int.reduceNeg] <;> (repeat ((with_reducible refine And.intro ?_ ?_); (focus (first | omega | rfl | assumption | exact ⟨_, rfl, rfl⟩ | (simp only [List.length_take, List.length_map, List.length_append, List.length_cons, List.length_nil]; omega) | (simp; done)))))
  refine split2 (fun hb => ?_) (fun hb => ?_) <;> have h := hb <;> (try simp only [decide_eq_true_eq, decide_eq_false_iff_not, Bool.not_eq_true, Bool.not_eq_false, Bool.not_eq_eq_eq_not, Bool.not_true, Bool.not_false, dec_eq_true, dec_eq_false, Classical.not_not] at h) <;> simp -implicitDefEqProofs (disch := omega) only [go_sem, hb, ↓reduceIte, Nat.reduceEqDiff, Nat.reduceAdd, Nat.reduceLeDiff, Nat.reduceSub, Nat.reduceMul, Nat.reduceBEq, Int.reduceEq, Int.reduceLT, Int.reduceLE, Int.reduceGT, Int.reduceGE, Int.reduceNeg] <;> (repeat ((with_reducible refine And.intro ?_ ?_); (focus (first | omega | rfl | assumption | exact ⟨_, rfl, rfl⟩ | (simp only [List.length_take, List.length_map, List.length_append, List.length_cons, List.length_nil]; omega) | (simp; done)))))
  · exact bool_eq (by unfold mentions; rw [h]; rfl)
  · refine call_d rfl (containsFuncType_ok 108 [] _ g.fParams (occurs selfN) (by omega) fun x hx => FPure.of_pure (hcl x hx)) ?_
    simp -implicitDefEqProofs (disch := omega) only [go_sem, ↓reduceIte, Nat.reduceEqDiff, Nat.reduceAdd, Nat.reduceLeDiff, Nat.reduceSub, Nat.reduceMul, Nat.reduceBEq, Int.reduceEq, Int.reduceLT, Int.reduceLE, Int.reduceGT, Int.reduceGE, Int.reduceNeg]
    exact bool_eq (by unfold mentions; rw [h]; rfl)
theorem implDynSafe_ok (t : MTrait) (hsz : t.sz ≤ 4194304) : PCall Try.prog 22 [t.v] (.c (.d (.b (dynSafe t)))) := fun S => by
  have hts := MTrait.bounds hsz
  refine acall_cw (rs := [.tmp 2]) Try.checked.mixed Try.func22 Try.ntmps22 rfl rfl rfl rfl rfl ?_
  simp -implicitDefEqProofs (disch := omega) only [go_sem, ↓reduceIte, Nat.reduceEqDiff, Nat.reduceAdd, Nat.reduceLeDiff, Nat.reduceSub, Nat.reduceMul, Nat.reduceBEq, Int.reduceEq, Int.reduceLT, Int.reduceLE, Int.reduceGT, Int.reduceGE, Int.reduceNeg]
  refine split2 (fun hb => ?_) (fun hb => ?_) <;> have h := hb <;> (try simp only [decide_eq_true_eq, decide_eq_false_iff_not, Bool.not_eq_true, Bool.not_eq_false, Bool.not_eq_eq_eq_not, Bool.not_true, Bool.not_false, dec_eq_true, dec_eq_false, Classical.not_not] at h) <;> simp -implicitDefEqProofs (disch := omega) only [go_sem, hb, ↓reduceIte, Nat.reduceEqDiff, Nat.reduceAdd, Nat.reduceLeDiff, Nat.reduceSub, Nat.reduceMul, Nat.reduceBEq, Int.reduceEq, Int.reduceLT, Int.reduceLE, Int.reduceGT, Int.reduceGE, Int.reduceNeg] <;> (repeat ((with_reducible refine And.intro ?_ ?_); (focus (first | omega | rfl | assumption | exact ⟨_, rfl, rfl⟩ | (simp only [List.length_take, List.length_map, List.length_append, List.length_cons, List.length_nil]; omega) | (simp; done)))))
  · refine call_d rfl (containsFuncSignature_ok 65 [] _ t.fSignatures mentions (by omega) fun x hx => FPure.of_pure (mentionsSelf_ok x (by obtain ⟨i, hi, e⟩ := List.getElem_of_mem hx; rw [← e]; exact MTrait.sig_b hi hsz))) ?_
    simp -implicitDefEqProofs (disch := omega) only [go_sem, ↓reduceIte, Nat.reduceEqDiff, Nat.reduceAdd, Nat.reduceLeDiff, Nat.reduceSub, Nat.reduceMul, Nat.reduceBEq, Int.reduceEq, Int.reduceLT, Int.reduceLE, Int.reduceGT, Int.reduceGE, Int.reduceNeg]
    exact bool_eq (by unfold dynSafe; rw [h]; rfl)
  · exact bool_eq (by unfold dynSafe; rw [h]; rfl)
end Go.Proofs.Ytjfhgcnoielpfaa
