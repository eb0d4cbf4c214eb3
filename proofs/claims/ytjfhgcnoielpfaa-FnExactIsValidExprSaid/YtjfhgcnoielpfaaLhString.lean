/-
  CONTRACTS OF THE LAWS' HELPERS FOR LISTS OF STRINGS: sz counts the letters and places, to copies, eq compares.
-/
import Derived.Test.YtjfhgcnoielpfaaDa
import Derived.Test.YtjfhgcnoielpfaaFa
set_option linter.unusedSimpArgs false
set_option linter.unusedVariables false
set_option maxRecDepth 4000
namespace Go.Proofs.Ytjfhgcnoielpfaa
open Go Go.Ab

theorem szStringS_ok (xs : List (List UInt8)) (left : Int) (h0 : 0 ≤ left) (h1 : left ≤ 1048576) (hf : (D.sl (xs.map encS)).Fit) :
    PCall Try.prog 49 [.c (.d (.sl (xs.map encS))), .c (.d (.i .i64 left))] (.c (.d (.i .i64 (sub1 left (xs.length + szRows (xs.map encS)))))) := by
  intro S
  obtain ⟨hf1, hf2⟩ := fit_sl hf
  rw [List.length_map] at hf1
  refine acall_cw (rs := [.tmp 4]) Try.checked.mixed Try.func49 Try.ntmps49 rfl rfl rfl rfl rfl ?_
  simp -implicitDefEqProofs (disch := omega) only [go_sem, ↓reduceIte, Nat.reduceEqDiff, Nat.reduceAdd, Nat.reduceLeDiff, Nat.reduceSub, Nat.reduceMul, Nat.reduceBEq, Int.reduceEq, Int.reduceLT, Int.reduceLE, Int.reduceGT, Int.reduceGE, Int.reduceNeg, Int.reduceToNat]
  with_reducible refine split2 (fun hb => ?_) (fun hb => ?_) <;> have h := hb <;> (try simp only [decide_eq_true_eq, decide_eq_false_iff_not, Bool.not_eq_true, Bool.not_eq_false, Bool.not_eq_eq_eq_not, Bool.not_true, Bool.not_false, dec_eq_true, dec_eq_false, Classical.not_not] at h) <;> simp -implicitDefEqProofs (disch := omega) only [go_sem, hb, ↓reduceIte, Nat.reduceEqDiff, Nat.reduceAdd, Nat.reduceLeDiff, Nat.reduceSub, Nat.reduceMul, Nat.reduceBEq, Int.reduceEq, Int.reduceLT, Int.reduceLE, Int.reduceGT, Int.reduceGE, Int.reduceNeg, Int.reduceToNat] <;> (repeat ((with_reducible refine And.intro ?_ ?_); (focus (first | omega | rfl | assumption | exact ⟨_, rfl, rfl⟩ | (simp only [List.length_take, List.length_map, List.length_append, List.length_cons, List.length_nil]; omega) | (simp; done)))))
  · exact int_eq (sub1_no (by omega)).symm
  refine loop_at (ι := Nat × Int) Try.checked.mixed rfl [0, 1, 5] (fun y => [.c (.d (.sl (xs.map encS))), .c (.d (.i .i64 y.2)), .c (.d (.i .i64 y.1))]) (fun _ => [] :: S)
    (fun y => y.1 ≤ xs.length ∧ 0 ≤ y.2 ∧ y.2 ≤ 1048576 ∧ sub1 y.2 (szRows ((xs.map encS).drop y.1)) = sub1 left (xs.length + szRows (xs.map encS))) (fun y => xs.length - y.1) (0, left - xs.length) rfl rfl ⟨by omega, by omega, by omega, ?_⟩ ?_
  · unfold sub1
    rw [List.drop_zero]
    split <;> split <;> omega
  rintro ⟨i, l⟩ ⟨p1, p2, p3, p4⟩
  simp only at p1 p2 p3 p4
  simp -implicitDefEqProofs (disch := omega) only [go_sem, ↓reduceIte, Nat.reduceEqDiff, Nat.reduceAdd, Nat.reduceLeDiff, Nat.reduceSub, Nat.reduceMul, Nat.reduceBEq, Int.reduceEq, Int.reduceLT, Int.reduceLE, Int.reduceGT, Int.reduceGE, Int.reduceNeg, Int.reduceToNat]
  with_reducible refine split2 (fun hb => ?_) (fun hb => ?_) <;> have h := hb <;> (try simp only [decide_eq_true_eq, decide_eq_false_iff_not, Bool.not_eq_true, Bool.not_eq_false, Bool.not_eq_eq_eq_not, Bool.not_true, Bool.not_false, dec_eq_true, dec_eq_false, Classical.not_not] at h) <;> simp -implicitDefEqProofs (disch := omega) only [go_sem, hb, ↓reduceIte, Nat.reduceEqDiff, Nat.reduceAdd, Nat.reduceLeDiff, Nat.reduceSub, Nat.reduceMul, Nat.reduceBEq, Int.reduceEq, Int.reduceLT, Int.reduceLE, Int.reduceGT, Int.reduceGE, Int.reduceNeg, Int.reduceToNat] <;> (repeat ((with_reducible refine And.intro ?_ ?_); (focus (first | omega | rfl | assumption | exact ⟨_, rfl, rfl⟩ | (simp only [List.length_take, List.length_map, List.length_append, List.length_cons, List.length_nil]; omega) | (simp; done)))))
  · have hi : i < xs.length := by omega
    have hl : xs[i].length ≤ 9223372036854775807 := fit_s (hf2 (encS xs[i]) (List.mem_map_of_mem (List.getElem_mem hi)) (.s xs[i]) (by simp [encS]))
    rw [List.drop_eq_getElem_cons (by rw [List.length_map]; exact hi), szRows, List.getElem_map] at p4
    simp only [encS, szRow, D.sz] at p4
    simp -implicitDefEqProofs (disch := omega) only [go_sem, ↓reduceIte, Nat.reduceEqDiff, Nat.reduceAdd, Nat.reduceLeDiff, Nat.reduceSub, Nat.reduceMul, Nat.reduceBEq, Int.reduceEq, Int.reduceLT, Int.reduceLE, Int.reduceGT, Int.reduceGE, Int.reduceNeg, Int.reduceToNat]
    (repeat ((with_reducible refine And.intro ?_ ?_); (focus (first | omega | rfl | assumption | exact ⟨_, rfl, rfl⟩ | (simp only [List.length_take, List.length_map, List.length_append, List.length_cons, List.length_nil]; omega) | (simp; done)))))
    with_reducible refine split2 (fun hb => ?_) (fun hb => ?_) <;> have h := hb <;> (try simp only [decide_eq_true_eq, decide_eq_false_iff_not, Bool.not_eq_true, Bool.not_eq_false, Bool.not_eq_eq_eq_not, Bool.not_true, Bool.not_false, dec_eq_true, dec_eq_false, Classical.not_not] at h) <;> simp -implicitDefEqProofs (disch := omega) only [go_sem, hb, ↓reduceIte, Nat.reduceEqDiff, Nat.reduceAdd, Nat.reduceLeDiff, Nat.reduceSub, Nat.reduceMul, Nat.reduceBEq, Int.reduceEq, Int.reduceLT, Int.reduceLE, Int.reduceGT, Int.reduceGE, Int.reduceNeg, Int.reduceToNat] <;> (repeat ((with_reducible refine And.intro ?_ ?_); (focus (first | omega | rfl | assumption | exact ⟨_, rfl, rfl⟩ | (simp only [List.length_take, List.length_map, List.length_append, List.length_cons, List.length_nil]; omega) | (simp; done)))))
    · rw [← p4, sub1_no (by omega)]
    · refine inv_at (i + 1, l - xs[i].length) (by simp only; omega) rfl rfl ⟨by simp only; omega, by simp only; omega, by simp only; omega, ?_⟩
      simp only
      rw [← p4]
      unfold sub1
      split <;> split <;> omega
  · have hi : i = xs.length := by omega
    rw [hi, List.drop_of_length_le (by simp), szRows, sub1_yes (by omega)] at p4
    rw [← p4]
    refine int_eq ?_
    omega
theorem toStringS_ok (xs : List (List UInt8)) (hsz : xs.length + szRows (xs.map encS) ≤ 1048576) : PCall Try.prog 54 [.c (.d (.sl (xs.map encS)))] (.c (.d (.sl (xs.map encS)))) := by
  intro S
  refine acall_cw (rs := [.tmp 2]) Try.checked.mixed Try.func54 Try.ntmps54 rfl rfl rfl rfl rfl ?_
  simp -implicitDefEqProofs (disch := omega) only [go_sem, ↓reduceIte, Nat.reduceEqDiff, Nat.reduceAdd, Nat.reduceLeDiff, Nat.reduceSub, Nat.reduceMul, Nat.reduceBEq, Int.reduceEq, Int.reduceLT, Int.reduceLE, Int.reduceGT, Int.reduceGE, Int.reduceNeg, Int.reduceToNat]
  (repeat ((with_reducible refine And.intro ?_ ?_); (focus (first | omega | rfl | assumption | exact ⟨_, rfl, rfl⟩ | (simp only [List.length_take, List.length_map, List.length_append, List.length_cons, List.length_nil]; omega) | (simp; done)))))
  refine loop_at (ι := Nat × List (List D)) Try.checked.mixed rfl [0, 3, 4] (fun y => [.c (.d (.sl (xs.map encS))), .c (.msl (0, 0)), .c (.d (.i .i64 y.1))]) (fun y => [.mrow 1 y.2] :: S)
    (fun y => y.1 ≤ xs.length ∧ Filled 1 y.1 y.2 (xs.map encS)) (fun y => xs.length - y.1) (0, _) rfl rfl ⟨Nat.zero_le _, Filled.start (by simp) rfl⟩ ?_
  rintro ⟨i, R⟩ ⟨p1, p2⟩
  simp only at p1 p2
  simp -implicitDefEqProofs (disch := omega) only [go_sem, ↓reduceIte, Nat.reduceEqDiff, Nat.reduceAdd, Nat.reduceLeDiff, Nat.reduceSub, Nat.reduceMul, Nat.reduceBEq, Int.reduceEq, Int.reduceLT, Int.reduceLE, Int.reduceGT, Int.reduceGE, Int.reduceNeg, Int.reduceToNat]
  with_reducible refine split2 (fun hb => ?_) (fun hb => ?_) <;> have h := hb <;> (try simp only [decide_eq_true_eq, decide_eq_false_iff_not, Bool.not_eq_true, Bool.not_eq_false, Bool.not_eq_eq_eq_not, Bool.not_true, Bool.not_false, dec_eq_true, dec_eq_false, Classical.not_not] at h) <;> simp -implicitDefEqProofs (disch := omega) only [go_sem, hb, ↓reduceIte, Nat.reduceEqDiff, Nat.reduceAdd, Nat.reduceLeDiff, Nat.reduceSub, Nat.reduceMul, Nat.reduceBEq, Int.reduceEq, Int.reduceLT, Int.reduceLE, Int.reduceGT, Int.reduceGE, Int.reduceNeg, Int.reduceToNat] <;> (repeat ((with_reducible refine And.intro ?_ ?_); (focus (first | omega | rfl | assumption | exact ⟨_, rfl, rfl⟩ | (simp only [List.length_take, List.length_map, List.length_append, List.length_cons, List.length_nil]; omega) | (simp; done)))))
  · have hi : i < xs.length := by omega
    have hR := p2.1
    rw [List.length_map] at hR
    (repeat ((with_reducible refine And.intro ?_ ?_); (focus (first | omega | rfl | assumption | exact ⟨_, rfl, rfl⟩ | (simp only [List.length_take, List.length_map, List.length_append, List.length_cons, List.length_nil]; omega) | (simp; done)))))
    refine inv_at (i + 1, _) (by simp only; omega) rfl rfl ⟨by simp only; omega, p2.step (by simp [hi, encS]) rfl⟩
  · have hi : i = xs.length := by omega
    rw [p2.done (by rw [List.length_map]; omega)]
theorem eqStringS_ok (xs ys : List (List UInt8)) (hsz : xs.length ≤ 1048576) : PCall Try.prog 59 [.c (.d (.sl (xs.map encS))), .c (.d (.sl (ys.map encS)))] (.c (.d (.b (dec (xs = ys))))) := by
  intro S
  refine acall_cw (rs := [.tmp 4]) Try.checked.mixed Try.func59 Try.ntmps59 rfl rfl rfl rfl rfl ?_
  simp -implicitDefEqProofs (disch := omega) only [go_sem, ↓reduceIte, Nat.reduceEqDiff, Nat.reduceAdd, Nat.reduceLeDiff, Nat.reduceSub, Nat.reduceMul, Nat.reduceBEq, Int.reduceEq, Int.reduceLT, Int.reduceLE, Int.reduceGT, Int.reduceGE, Int.reduceNeg, Int.reduceToNat]
  with_reducible refine split2 (fun hb => ?_) (fun hb => ?_) <;> have h := hb <;> (try simp only [decide_eq_true_eq, decide_eq_false_iff_not, Bool.not_eq_true, Bool.not_eq_false, Bool.not_eq_eq_eq_not, Bool.not_true, Bool.not_false, dec_eq_true, dec_eq_false, Classical.not_not] at h) <;> simp -implicitDefEqProofs (disch := omega) only [go_sem, hb, ↓reduceIte, Nat.reduceEqDiff, Nat.reduceAdd, Nat.reduceLeDiff, Nat.reduceSub, Nat.reduceMul, Nat.reduceBEq, Int.reduceEq, Int.reduceLT, Int.reduceLE, Int.reduceGT, Int.reduceGE, Int.reduceNeg, Int.reduceToNat] <;> (repeat ((with_reducible refine And.intro ?_ ?_); (focus (first | omega | rfl | assumption | exact ⟨_, rfl, rfl⟩ | (simp only [List.length_take, List.length_map, List.length_append, List.length_cons, List.length_nil]; omega) | (simp; done)))))
  · exact bool_eq (dec_false (fun e => h (by rw [e]))).symm
  have hl : xs.length = ys.length := by omega
  refine loop_at (ι := Nat) Try.checked.mixed rfl [0, 1, 5] (fun y => [.c (.d (.sl (xs.map encS))), .c (.d (.sl (ys.map encS))), .c (.d (.i .i64 y))]) (fun y => [] :: S)
    (fun i => i ≤ xs.length ∧ ∀ j, j < i → xs[j]? = ys[j]?) (fun y => xs.length - y) 0 rfl rfl ⟨Nat.zero_le _, fun j h => by omega⟩ ?_
  rintro i ⟨p1, p2⟩
  simp -implicitDefEqProofs (disch := omega) only [go_sem, ↓reduceIte, Nat.reduceEqDiff, Nat.reduceAdd, Nat.reduceLeDiff, Nat.reduceSub, Nat.reduceMul, Nat.reduceBEq, Int.reduceEq, Int.reduceLT, Int.reduceLE, Int.reduceGT, Int.reduceGE, Int.reduceNeg, Int.reduceToNat]
  with_reducible refine split2 (fun hb => ?_) (fun hb => ?_) <;> have h := hb <;> (try simp only [decide_eq_true_eq, decide_eq_false_iff_not, Bool.not_eq_true, Bool.not_eq_false, Bool.not_eq_eq_eq_not, Bool.not_true, Bool.not_false, dec_eq_true, dec_eq_false, Classical.not_not] at h) <;> simp -implicitDefEqProofs (disch := omega) only [go_sem, hb, ↓reduceIte, Nat.reduceEqDiff, Nat.reduceAdd, Nat.reduceLeDiff, Nat.reduceSub, Nat.reduceMul, Nat.reduceBEq, Int.reduceEq, Int.reduceLT, Int.reduceLE, Int.reduceGT, Int.reduceGE, Int.reduceNeg, Int.reduceToNat] <;> (repeat ((with_reducible refine And.intro ?_ ?_); (focus (first | omega | rfl | assumption | exact ⟨_, rfl, rfl⟩ | (simp only [List.length_take, List.length_map, List.length_append, List.length_cons, List.length_nil]; omega) | (simp; done)))))
  · have hi : i < xs.length := by omega
    have hi' : i < ys.length := by omega
    (repeat ((with_reducible refine And.intro ?_ ?_); (focus (first | omega | rfl | assumption | exact ⟨_, rfl, rfl⟩ | (simp only [List.length_take, List.length_map, List.length_append, List.length_cons, List.length_nil]; omega) | (simp; done)))))
    with_reducible refine split2 (fun hb => ?_) (fun hb => ?_) <;> have h := hb <;> (try simp only [decide_eq_true_eq, decide_eq_false_iff_not, Bool.not_eq_true, Bool.not_eq_false, Bool.not_eq_eq_eq_not, Bool.not_true, Bool.not_false, dec_eq_true, dec_eq_false, Classical.not_not] at h) <;> simp -implicitDefEqProofs (disch := omega) only [go_sem, hb, ↓reduceIte, Nat.reduceEqDiff, Nat.reduceAdd, Nat.reduceLeDiff, Nat.reduceSub, Nat.reduceMul, Nat.reduceBEq, Int.reduceEq, Int.reduceLT, Int.reduceLE, Int.reduceGT, Int.reduceGE, Int.reduceNeg, Int.reduceToNat] <;> (repeat ((with_reducible refine And.intro ?_ ?_); (focus (first | omega | rfl | assumption | exact ⟨_, rfl, rfl⟩ | (simp only [List.length_take, List.length_map, List.length_append, List.length_cons, List.length_nil]; omega) | (simp; done)))))
    · exact bool_eq (dec_false (fun e => h (by simp only [e]))).symm
    refine inv_at (i + 1) (by omega) rfl rfl ⟨by omega, fun j hj => ?_⟩
    by_cases e : j = i
    · subst e
      rw [List.getElem?_eq_getElem hi, List.getElem?_eq_getElem hi', h]
    · exact p2 j (by omega)
  · have hi : i = xs.length := by omega
    refine bool_eq (dec_true (List.ext_getElem? fun j => ?_)).symm
    by_cases hj : j < i
    · exact p2 j hj
    · rw [List.getElem?_eq_none (by omega), List.getElem?_eq_none (by omega)]
end Go.Proofs.Ytjfhgcnoielpfaa
