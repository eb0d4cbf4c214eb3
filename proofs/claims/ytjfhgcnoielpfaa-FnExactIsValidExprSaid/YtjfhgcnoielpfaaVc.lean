/-
  CONTRACTS: valid types, the program's and the reference's.
-/
import Derived.Test.YtjfhgcnoielpfaaVb
set_option linter.unusedSimpArgs false
set_option linter.unusedVariables false
set_option maxRecDepth 4000
namespace Go.Proofs.Ytjfhgcnoielpfaa
open Go Go.Ab

theorem arg_sz {x : MType} {i : Nat} (hi : i < x.fArgs.length) (h : x.sz ≤ 4194304) : x.fArgs[i].sz ≤ 4194304 ∧ x.fArgs.length ≤ 4194304 ∧ x.fName.length ≤ 4194304 := by
  have hx : x.fArgs[i].sz ≤ szRows (x.fArgs.map MType.enc) := szRows_mem (List.mem_map_of_mem (List.getElem_mem hi))
  simp only [MType.sz, MType.enc_eq, szRow, D.sz, List.length_map] at h
  omega
theorem ty_sz {x : MType} (h : x.sz ≤ 4194304) : x.fArgs.length ≤ 4194304 ∧ x.fName.length ≤ 4194304 := by
  simp only [MType.sz, MType.enc_eq, szRow, D.sz, List.length_map] at h
  omega
theorem cnts_drop : ∀ {ts : List MType} {i : Nat} (hi : i < ts.length), MType.cnts (ts.drop i) = ts[i].cnt + MType.cnts (ts.drop (i + 1)) := fun {ts} {i} hi => by
  rw [List.drop_eq_getElem_cons hi, MType.cnts]
theorem depths_drop : ∀ {ts : List MType} {i : Nat} (hi : i < ts.length), depths (ts.drop i) = max (depthT ts[i] + 1) (depths (ts.drop (i + 1))) := fun {ts} {i} hi => by
  rw [List.drop_eq_getElem_cons hi, depths]
theorem formeds_drop : ∀ {ts : List MType} {i : Nat} (hi : i < ts.length), formeds (ts.drop i) = (formed ts[i] && formeds (ts.drop (i + 1))) := fun {ts} {i} hi => by
  rw [List.drop_eq_getElem_cons hi, formeds]

theorem l4Left_all : ∀ n : Nat, ∀ x : MType, SizeOf.sizeOf x < n → ∀ l : Int, 0 ≤ l → l ≤ 1073741824 → x.sz ≤ 4194304 → PCall Try.prog 132 [x.v, .c (.d (.i .i64 l))] (.c (.d (.i .i64 (sub1 l x.cnt))))
  | 0 => fun x h => by omega
  | n + 1 => by
    have ih := l4Left_all n
    intro x hn l h0 h1 hsz S
    have lArgs := MType.lt_Args x
    have hts := ty_sz hsz
    have hcn := MType.cnt_eq x
    refine acall_cw (rs := [.tmp 4]) Try.checked.mixed Try.func132 Try.ntmps132 rfl rfl rfl rfl rfl ?_
    simp -implicitDefEqProofs (disch := omega) only [go_sem, ↓reduceIte, Nat.reduceEqDiff, Nat.reduceAdd, Nat.reduceLeDiff, Nat.reduceSub, Nat.reduceMul, Nat.reduceBEq, Int.reduceEq, Int.reduceLT, Int.reduceLE, Int.reduceGT, Int.reduceGE, Int.reduceNeg, Int.reduceToNat]
    refine loop_at (ι := Nat × Int) Try.checked.mixed rfl [1, 2, 5] (fun y => [.c (.d (.i .i64 y.2)), .c (.ptr (0, 0) 0), .c (.d (.i .i64 y.1))]) (fun y => [.box [.d (.i .i64 x.fKind), .d (.s x.fName), .d (.sl (x.fArgs.map MType.enc))]] :: S)
      (fun y => y.1 ≤ x.fArgs.length ∧ -1 ≤ y.2 ∧ y.2 ≤ 1073741824 ∧ (0 ≤ y.2 → sub1 l x.cnt = sub1 y.2 (MType.cnts (x.fArgs.drop y.1))) ∧ (y.2 < 0 → sub1 l x.cnt = -1)) (fun y => x.fArgs.length - y.1) (0, l - 1) rfl rfl ⟨Nat.zero_le _, by simp only; omega, by simp only; omega, fun h => ?_, fun h => ?_⟩ ?_
    · simp only [List.drop_zero] at h ⊢
      unfold sub1
      rw [hcn]
      split <;> split <;> omega
    · simp only at h
      exact sub1_no (by omega)
    rintro ⟨i, c⟩ ⟨p1, p2, p3, p4, p5⟩
    simp only at p1 p2 p3 p4 p5
    simp -implicitDefEqProofs (disch := omega) only [go_sem, ↓reduceIte, Nat.reduceEqDiff, Nat.reduceAdd, Nat.reduceLeDiff, Nat.reduceSub, Nat.reduceMul, Nat.reduceBEq, Int.reduceEq, Int.reduceLT, Int.reduceLE, Int.reduceGT, Int.reduceGE, Int.reduceNeg, Int.reduceToNat]
    with_reducible refine split2 (fun hb => ?_) (fun hb => ?_) <;> have h := hb <;> (try simp only [decide_eq_true_eq, decide_eq_false_iff_not, Bool.not_eq_true, Bool.not_eq_false, Bool.not_eq_eq_eq_not, Bool.not_true, Bool.not_false, dec_eq_true, dec_eq_false, Classical.not_not] at h) <;> simp -implicitDefEqProofs (disch := omega) only [go_sem, hb, ↓reduceIte, Nat.reduceEqDiff, Nat.reduceAdd, Nat.reduceLeDiff, Nat.reduceSub, Nat.reduceMul, Nat.reduceBEq, Int.reduceEq, Int.reduceLT, Int.reduceLE, Int.reduceGT, Int.reduceGE, Int.reduceNeg, Int.reduceToNat] <;> (repeat ((with_reducible refine And.intro ?_ ?_); (focus (first | omega | rfl | assumption | exact ⟨_, rfl, rfl⟩ | (simp only [List.length_take, List.length_map, List.length_append, List.length_cons, List.length_nil]; omega) | (simp; done)))))
    · have hi : i < x.fArgs.length := by omega
      with_reducible refine split2 (fun hb => ?_) (fun hb => ?_) <;> have h := hb <;> (try simp only [decide_eq_true_eq, decide_eq_false_iff_not, Bool.not_eq_true, Bool.not_eq_false, Bool.not_eq_eq_eq_not, Bool.not_true, Bool.not_false, dec_eq_true, dec_eq_false, Classical.not_not] at h) <;> simp -implicitDefEqProofs (disch := omega) only [go_sem, hb, ↓reduceIte, Nat.reduceEqDiff, Nat.reduceAdd, Nat.reduceLeDiff, Nat.reduceSub, Nat.reduceMul, Nat.reduceBEq, Int.reduceEq, Int.reduceLT, Int.reduceLE, Int.reduceGT, Int.reduceGE, Int.reduceNeg, Int.reduceToNat] <;> (repeat ((with_reducible refine And.intro ?_ ?_); (focus (first | omega | rfl | assumption | exact ⟨_, rfl, rfl⟩ | (simp only [List.length_take, List.length_map, List.length_append, List.length_cons, List.length_nil]; omega) | (simp; done)))))
      · have hsz' := arg_sz hi hsz
        have p6 := p4 h
        rw [cnts_drop hi] at p6
        (repeat ((with_reducible refine And.intro ?_ ?_); (focus (first | omega | rfl | assumption | exact ⟨_, rfl, rfl⟩ | (simp only [List.length_take, List.length_map, List.length_append, List.length_cons, List.length_nil]; omega) | (simp; done)))))
        refine call_w (ih x.fArgs[i] (by have := List.sizeOf_lt_of_mem (List.getElem_mem hi); omega) c (by omega) (by omega) (by omega)) ?_
        simp -implicitDefEqProofs (disch := omega) only [go_sem, ↓reduceIte, Nat.reduceEqDiff, Nat.reduceAdd, Nat.reduceLeDiff, Nat.reduceSub, Nat.reduceMul, Nat.reduceBEq, Int.reduceEq, Int.reduceLT, Int.reduceLE, Int.reduceGT, Int.reduceGE, Int.reduceNeg, Int.reduceToNat] <;> (repeat ((with_reducible refine And.intro ?_ ?_); (focus (first | omega | rfl | assumption | exact ⟨_, rfl, rfl⟩ | (simp only [List.length_take, List.length_map, List.length_append, List.length_cons, List.length_nil]; omega) | (simp; done)))))
        refine inv_at (i + 1, sub1 c _) (by simp only; omega) rfl rfl ⟨by simp only; omega, ?_, ?_, fun h => ?_, fun h => ?_⟩
        · simp only; unfold sub1; split <;> omega
        · simp only; unfold sub1; split <;> omega
        · simp only at h ⊢
          rw [p6]
          have := sub1_nn (l := c) (a := x.fArgs[i].cnt) (by omega)
          rw [this.1]
          unfold sub1
          split <;> split <;> omega
        · simp only at h ⊢
          rw [p6]
          have := sub1_neg h
          exact sub1_no (by omega)
      · have hc : c = -1 := by omega
        rw [p5 (by omega), hc]
    · have hi : i = x.fArgs.length := by omega
      by_cases hc : 0 ≤ c
      · rw [p4 hc, hi, List.drop_length, MType.cnts, sub1_yes (by omega)]
        exact int_eq (by simp)
      · rw [p5 (by omega)]
        exact int_eq (by omega)
theorem l4Left_ok (x : MType) (l : Int) (h0 : 0 ≤ l) (h1 : l ≤ 1073741824) (hsz : x.sz ≤ 4194304) : PCall Try.prog 132 [x.v, .c (.d (.i .i64 l))] (.c (.d (.i .i64 (sub1 l x.cnt)))) := l4Left_all _ x (Nat.lt_succ_self _) l h0 h1 hsz
theorem l1Max_ok (a b : Int) : PCall Try.prog 161 [.c (.d (.i .i64 a)), .c (.d (.i .i64 b))] (.c (.d (.i .i64 (max a b)))) := fun S => by
  refine acall_cw (rs := [.tmp 4]) Try.checked.mixed Try.func161 Try.ntmps161 rfl rfl rfl rfl rfl ?_
  simp -implicitDefEqProofs (disch := omega) only [go_sem, ↓reduceIte, Nat.reduceEqDiff, Nat.reduceAdd, Nat.reduceLeDiff, Nat.reduceSub, Nat.reduceMul, Nat.reduceBEq, Int.reduceEq, Int.reduceLT, Int.reduceLE, Int.reduceGT, Int.reduceGE, Int.reduceNeg, Int.reduceToNat]
  with_reducible refine split2 (fun hb => ?_) (fun hb => ?_) <;> have h := hb <;> (try simp only [decide_eq_true_eq, decide_eq_false_iff_not, Bool.not_eq_true, Bool.not_eq_false, Bool.not_eq_eq_eq_not, Bool.not_true, Bool.not_false, dec_eq_true, dec_eq_false, Classical.not_not] at h) <;> simp -implicitDefEqProofs (disch := omega) only [go_sem, hb, ↓reduceIte, Nat.reduceEqDiff, Nat.reduceAdd, Nat.reduceLeDiff, Nat.reduceSub, Nat.reduceMul, Nat.reduceBEq, Int.reduceEq, Int.reduceLT, Int.reduceLE, Int.reduceGT, Int.reduceGE, Int.reduceNeg, Int.reduceToNat] <;> (repeat ((with_reducible refine And.intro ?_ ?_); (focus (first | omega | rfl | assumption | exact ⟨_, rfl, rfl⟩ | (simp only [List.length_take, List.length_map, List.length_append, List.length_cons, List.length_nil]; omega) | (simp; done)))))
  · exact int_eq (by omega)
  · exact int_eq (by omega)
theorem specDepth_all : ∀ n : Nat, ∀ x : MType, SizeOf.sizeOf x < n → x.sz ≤ 4194304 → PCall Try.prog 133 [x.v] (.c (.d (.i .i64 (depthT x))))
  | 0 => fun x h => by omega
  | n + 1 => by
    have ih := specDepth_all n
    intro x hn hsz S
    have lArgs := MType.lt_Args x
    have hts := ty_sz hsz
    have hd1 := depthT_le x
    have hd2 := cnt_le x
    refine acall_cw (rs := [.tmp 2]) Try.checked.mixed Try.func133 Try.ntmps133 rfl rfl rfl rfl rfl ?_
    simp -implicitDefEqProofs (disch := omega) only [go_sem, ↓reduceIte, Nat.reduceEqDiff, Nat.reduceAdd, Nat.reduceLeDiff, Nat.reduceSub, Nat.reduceMul, Nat.reduceBEq, Int.reduceEq, Int.reduceLT, Int.reduceLE, Int.reduceGT, Int.reduceGE, Int.reduceNeg, Int.reduceToNat]
    refine loop_at (ι := Nat × Nat) Try.checked.mixed rfl [1, 3, 4] (fun y => [.c (.ptr (0, 0) 0), .c (.d (.i .i64 y.2)), .c (.d (.i .i64 y.1))]) (fun y => [.box [.d (.i .i64 x.fKind), .d (.s x.fName), .d (.sl (x.fArgs.map MType.enc))]] :: S)
      (fun y => y.1 ≤ x.fArgs.length ∧ depthT x = max y.2 (depths (x.fArgs.drop y.1))) (fun y => x.fArgs.length - y.1) (0, 0) rfl rfl ⟨Nat.zero_le _, by simp [depthT_eq]⟩ ?_
    rintro ⟨i, c⟩ ⟨p1, p2⟩
    simp only at p1 p2
    simp -implicitDefEqProofs (disch := omega) only [go_sem, ↓reduceIte, Nat.reduceEqDiff, Nat.reduceAdd, Nat.reduceLeDiff, Nat.reduceSub, Nat.reduceMul, Nat.reduceBEq, Int.reduceEq, Int.reduceLT, Int.reduceLE, Int.reduceGT, Int.reduceGE, Int.reduceNeg, Int.reduceToNat]
    with_reducible refine split2 (fun hb => ?_) (fun hb => ?_) <;> have h := hb <;> (try simp only [decide_eq_true_eq, decide_eq_false_iff_not, Bool.not_eq_true, Bool.not_eq_false, Bool.not_eq_eq_eq_not, Bool.not_true, Bool.not_false, dec_eq_true, dec_eq_false, Classical.not_not] at h) <;> simp -implicitDefEqProofs (disch := omega) only [go_sem, hb, ↓reduceIte, Nat.reduceEqDiff, Nat.reduceAdd, Nat.reduceLeDiff, Nat.reduceSub, Nat.reduceMul, Nat.reduceBEq, Int.reduceEq, Int.reduceLT, Int.reduceLE, Int.reduceGT, Int.reduceGE, Int.reduceNeg, Int.reduceToNat] <;> (repeat ((with_reducible refine And.intro ?_ ?_); (focus (first | omega | rfl | assumption | exact ⟨_, rfl, rfl⟩ | (simp only [List.length_take, List.length_map, List.length_append, List.length_cons, List.length_nil]; omega) | (simp; done)))))
    · have hi : i < x.fArgs.length := by omega
      have hsz' := arg_sz hi hsz
      rw [depths_drop hi] at p2
      have hd3 := depthT_le x.fArgs[i]
      have hd4 := cnt_le x.fArgs[i]
      (repeat ((with_reducible refine And.intro ?_ ?_); (focus (first | omega | rfl | assumption | exact ⟨_, rfl, rfl⟩ | (simp only [List.length_take, List.length_map, List.length_append, List.length_cons, List.length_nil]; omega) | (simp; done)))))
      refine call_w (ih x.fArgs[i] (by have := List.sizeOf_lt_of_mem (List.getElem_mem hi); omega) (by omega)) ?_
      simp -implicitDefEqProofs (disch := omega) only [go_sem, ↓reduceIte, Nat.reduceEqDiff, Nat.reduceAdd, Nat.reduceLeDiff, Nat.reduceSub, Nat.reduceMul, Nat.reduceBEq, Int.reduceEq, Int.reduceLT, Int.reduceLE, Int.reduceGT, Int.reduceGE, Int.reduceNeg, Int.reduceToNat] <;> (repeat ((with_reducible refine And.intro ?_ ?_); (focus (first | omega | rfl | assumption | exact ⟨_, rfl, rfl⟩ | (simp only [List.length_take, List.length_map, List.length_append, List.length_cons, List.length_nil]; omega) | (simp; done)))))
      refine call_w (l1Max_ok _ _) ?_
      simp -implicitDefEqProofs (disch := omega) only [go_sem, ↓reduceIte, Nat.reduceEqDiff, Nat.reduceAdd, Nat.reduceLeDiff, Nat.reduceSub, Nat.reduceMul, Nat.reduceBEq, Int.reduceEq, Int.reduceLT, Int.reduceLE, Int.reduceGT, Int.reduceGE, Int.reduceNeg, Int.reduceToNat] <;> (repeat ((with_reducible refine And.intro ?_ ?_); (focus (first | omega | rfl | assumption | exact ⟨_, rfl, rfl⟩ | (simp only [List.length_take, List.length_map, List.length_append, List.length_cons, List.length_nil]; omega) | (simp; done)))))
      rw [show max (c : Int) (1 + (depthT x.fArgs[i] : Int)) = ((max c (1 + depthT x.fArgs[i]) : Nat) : Int) by omega]
      exact inv_at (i + 1, max c (1 + depthT x.fArgs[i])) (by simp only; omega) rfl rfl ⟨by simp only; omega, by simp only; omega⟩
    · have hi : i = x.fArgs.length := by omega
      rw [hi, List.drop_length, depths] at p2
      exact int_eq (by omega)
theorem specDepth_ok (x : MType) (hsz : x.sz ≤ 4194304) : PCall Try.prog 133 [x.v] (.c (.d (.i .i64 (depthT x)))) := specDepth_all _ x (Nat.lt_succ_self _) hsz
theorem implDepth_all : ∀ n : Nat, ∀ x : MType, SizeOf.sizeOf x < n → x.sz ≤ 4194304 → PCall Try.prog 155 [x.v] (.c (.d (.i .i64 (depthT x))))
  | 0 => fun x h => by omega
  | n + 1 => by
    have ih := implDepth_all n
    intro x hn hsz S
    have lArgs := MType.lt_Args x
    have hts := ty_sz hsz
    have hd1 := depthT_le x
    have hd2 := cnt_le x
    refine acall_cw (rs := [.tmp 2]) Try.checked.mixed Try.func155 Try.ntmps155 rfl rfl rfl rfl rfl ?_
    simp -implicitDefEqProofs (disch := omega) only [go_sem, ↓reduceIte, Nat.reduceEqDiff, Nat.reduceAdd, Nat.reduceLeDiff, Nat.reduceSub, Nat.reduceMul, Nat.reduceBEq, Int.reduceEq, Int.reduceLT, Int.reduceLE, Int.reduceGT, Int.reduceGE, Int.reduceNeg, Int.reduceToNat]
    refine loop_at (ι := Nat × Nat) Try.checked.mixed rfl [3, 7, 8, 9] (fun y => [.c (.d (.i .i64 y.2)), .c (.d (.sl (x.fArgs.map MType.enc))), .c (.d (.i .i64 x.fArgs.length)), .c (.d (.i .i64 y.1))]) (fun y => [.box [.d (.i .i64 x.fKind), .d (.s x.fName), .d (.sl (x.fArgs.map MType.enc))]] :: S)
      (fun y => y.1 ≤ x.fArgs.length ∧ depthT x = max y.2 (depths (x.fArgs.drop y.1))) (fun y => x.fArgs.length - y.1) (0, 0) rfl rfl ⟨Nat.zero_le _, by simp [depthT_eq]⟩ ?_
    rintro ⟨i, c⟩ ⟨p1, p2⟩
    simp only at p1 p2
    simp -implicitDefEqProofs (disch := omega) only [go_sem, ↓reduceIte, Nat.reduceEqDiff, Nat.reduceAdd, Nat.reduceLeDiff, Nat.reduceSub, Nat.reduceMul, Nat.reduceBEq, Int.reduceEq, Int.reduceLT, Int.reduceLE, Int.reduceGT, Int.reduceGE, Int.reduceNeg, Int.reduceToNat]
    with_reducible refine split2 (fun hb => ?_) (fun hb => ?_) <;> have h := hb <;> (try simp only [decide_eq_true_eq, decide_eq_false_iff_not, Bool.not_eq_true, Bool.not_eq_false, Bool.not_eq_eq_eq_not, Bool.not_true, Bool.not_false, dec_eq_true, dec_eq_false, Classical.not_not] at h) <;> simp -implicitDefEqProofs (disch := omega) only [go_sem, hb, ↓reduceIte, Nat.reduceEqDiff, Nat.reduceAdd, Nat.reduceLeDiff, Nat.reduceSub, Nat.reduceMul, Nat.reduceBEq, Int.reduceEq, Int.reduceLT, Int.reduceLE, Int.reduceGT, Int.reduceGE, Int.reduceNeg, Int.reduceToNat] <;> (repeat ((with_reducible refine And.intro ?_ ?_); (focus (first | omega | rfl | assumption | exact ⟨_, rfl, rfl⟩ | (simp only [List.length_take, List.length_map, List.length_append, List.length_cons, List.length_nil]; omega) | (simp; done)))))
    · have hi : i < x.fArgs.length := by omega
      have hsz' := arg_sz hi hsz
      rw [depths_drop hi] at p2
      have hd3 := depthT_le x.fArgs[i]
      have hd4 := cnt_le x.fArgs[i]
      (repeat ((with_reducible refine And.intro ?_ ?_); (focus (first | omega | rfl | assumption | exact ⟨_, rfl, rfl⟩ | (simp only [List.length_take, List.length_map, List.length_append, List.length_cons, List.length_nil]; omega) | (simp; done)))))
      refine call_w (ih x.fArgs[i] (by have := List.sizeOf_lt_of_mem (List.getElem_mem hi); omega) (by omega)) ?_
      simp -implicitDefEqProofs (disch := omega) only [go_sem, ↓reduceIte, Nat.reduceEqDiff, Nat.reduceAdd, Nat.reduceLeDiff, Nat.reduceSub, Nat.reduceMul, Nat.reduceBEq, Int.reduceEq, Int.reduceLT, Int.reduceLE, Int.reduceGT, Int.reduceGE, Int.reduceNeg, Int.reduceToNat] <;> (repeat ((with_reducible refine And.intro ?_ ?_); (focus (first | omega | rfl | assumption | exact ⟨_, rfl, rfl⟩ | (simp only [List.length_take, List.length_map, List.length_append, List.length_cons, List.length_nil]; omega) | (simp; done)))))
      rw [show max (c : Int) ((depthT x.fArgs[i] : Int) + 1) = ((max c (depthT x.fArgs[i] + 1) : Nat) : Int) by omega]
      exact inv_drop 1 (by decide) (i + 1, max c (depthT x.fArgs[i] + 1)) (by simp only; omega) rfl rfl rfl rfl ⟨by simp only; omega, by simp only; omega⟩
    · have hi : i = x.fArgs.length := by omega
      rw [hi, List.drop_length, depths] at p2
      exact int_eq (by omega)
theorem implDepth_ok (x : MType) (hsz : x.sz ≤ 4194304) : PCall Try.prog 155 [x.v] (.c (.d (.i .i64 (depthT x)))) := implDepth_all _ x (Nat.lt_succ_self _) hsz
theorem typeSize_all : ∀ n : Nat, ∀ x : MType, SizeOf.sizeOf x < n → x.sz ≤ 4194304 → PCall Try.prog 156 [x.v] (.c (.d (.i .i64 x.cnt)))
  | 0 => fun x h => by omega
  | n + 1 => by
    have ih := typeSize_all n
    intro x hn hsz S
    have lArgs := MType.lt_Args x
    have hts := ty_sz hsz
    have hd2 := cnt_le x
    refine acall_cw (rs := [.tmp 2]) Try.checked.mixed Try.func156 Try.ntmps156 rfl rfl rfl rfl rfl ?_
    simp -implicitDefEqProofs (disch := omega) only [go_sem, ↓reduceIte, Nat.reduceEqDiff, Nat.reduceAdd, Nat.reduceLeDiff, Nat.reduceSub, Nat.reduceMul, Nat.reduceBEq, Int.reduceEq, Int.reduceLT, Int.reduceLE, Int.reduceGT, Int.reduceGE, Int.reduceNeg, Int.reduceToNat]
    refine loop_at (ι := Nat × Nat) Try.checked.mixed rfl [3, 7, 8, 9] (fun y => [.c (.d (.i .i64 y.2)), .c (.d (.sl (x.fArgs.map MType.enc))), .c (.d (.i .i64 x.fArgs.length)), .c (.d (.i .i64 y.1))]) (fun y => [.box [.d (.i .i64 x.fKind), .d (.s x.fName), .d (.sl (x.fArgs.map MType.enc))]] :: S)
      (fun y => y.1 ≤ x.fArgs.length ∧ x.cnt = y.2 + MType.cnts (x.fArgs.drop y.1)) (fun y => x.fArgs.length - y.1) (0, 1) rfl rfl ⟨Nat.zero_le _, by simp [MType.cnt_eq]⟩ ?_
    rintro ⟨i, c⟩ ⟨p1, p2⟩
    simp only at p1 p2
    simp -implicitDefEqProofs (disch := omega) only [go_sem, ↓reduceIte, Nat.reduceEqDiff, Nat.reduceAdd, Nat.reduceLeDiff, Nat.reduceSub, Nat.reduceMul, Nat.reduceBEq, Int.reduceEq, Int.reduceLT, Int.reduceLE, Int.reduceGT, Int.reduceGE, Int.reduceNeg, Int.reduceToNat]
    with_reducible refine split2 (fun hb => ?_) (fun hb => ?_) <;> have h := hb <;> (try simp only [decide_eq_true_eq, decide_eq_false_iff_not, Bool.not_eq_true, Bool.not_eq_false, Bool.not_eq_eq_eq_not, Bool.not_true, Bool.not_false, dec_eq_true, dec_eq_false, Classical.not_not] at h) <;> simp -implicitDefEqProofs (disch := omega) only [go_sem, hb, ↓reduceIte, Nat.reduceEqDiff, Nat.reduceAdd, Nat.reduceLeDiff, Nat.reduceSub, Nat.reduceMul, Nat.reduceBEq, Int.reduceEq, Int.reduceLT, Int.reduceLE, Int.reduceGT, Int.reduceGE, Int.reduceNeg, Int.reduceToNat] <;> (repeat ((with_reducible refine And.intro ?_ ?_); (focus (first | omega | rfl | assumption | exact ⟨_, rfl, rfl⟩ | (simp only [List.length_take, List.length_map, List.length_append, List.length_cons, List.length_nil]; omega) | (simp; done)))))
    · have hi : i < x.fArgs.length := by omega
      have hsz' := arg_sz hi hsz
      rw [cnts_drop hi] at p2
      (repeat ((with_reducible refine And.intro ?_ ?_); (focus (first | omega | rfl | assumption | exact ⟨_, rfl, rfl⟩ | (simp only [List.length_take, List.length_map, List.length_append, List.length_cons, List.length_nil]; omega) | (simp; done)))))
      refine call_w (ih x.fArgs[i] (by have := List.sizeOf_lt_of_mem (List.getElem_mem hi); omega) (by omega)) ?_
      simp -implicitDefEqProofs (disch := omega) only [go_sem, ↓reduceIte, Nat.reduceEqDiff, Nat.reduceAdd, Nat.reduceLeDiff, Nat.reduceSub, Nat.reduceMul, Nat.reduceBEq, Int.reduceEq, Int.reduceLT, Int.reduceLE, Int.reduceGT, Int.reduceGE, Int.reduceNeg, Int.reduceToNat] <;> (repeat ((with_reducible refine And.intro ?_ ?_); (focus (first | omega | rfl | assumption | exact ⟨_, rfl, rfl⟩ | (simp only [List.length_take, List.length_map, List.length_append, List.length_cons, List.length_nil]; omega) | (simp; done)))))
      rw [show (c : Int) + (x.fArgs[i].cnt : Int) = ((c + x.fArgs[i].cnt : Nat) : Int) by omega]
      exact inv_drop 1 (by decide) (i + 1, c + x.fArgs[i].cnt) (by simp only; omega) rfl rfl rfl rfl ⟨by simp only; omega, by simp only; omega⟩
    · have hi : i = x.fArgs.length := by omega
      rw [hi, List.drop_length, MType.cnts] at p2
      exact int_eq (by omega)
theorem typeSize_ok (x : MType) (hsz : x.sz ≤ 4194304) : PCall Try.prog 156 [x.v] (.c (.d (.i .i64 x.cnt))) := typeSize_all _ x (Nat.lt_succ_self _) hsz
theorem isFormed_all : ∀ n : Nat, (∀ x : MType, SizeOf.sizeOf x < n → x.sz ≤ 4194304 → PCall Try.prog 154 [x.v] (.c (.d (.b (formed x))))) ∧
    (∀ xs : List MType, SizeOf.sizeOf xs < n → xs.length ≤ 4194304 → (∀ t ∈ xs, t.sz ≤ 4194304) → PCall Try.prog 99 [.c (.d (.sl (xs.map MType.enc))), .c (.fn 171 [])] (.c (.d (.b (!formeds xs)))))
  | 0 => ⟨fun x h => by omega, fun x h => by omega⟩
  | n + 1 => by
    obtain ⟨ih, ihS⟩ := isFormed_all n
    refine ⟨fun x hn hsz S => ?_, fun xs hn hlen hsz S => ?_⟩
    · have lArgs := MType.lt_Args x
      have hts := ty_sz hsz
      have fin : ∀ b, fineT x.fKind x.fName x.fArgs.length = b → formed x = (b && formeds x.fArgs) := fun b hb => by rw [← hb]; exact formed_eq x
      have hall : ∀ t ∈ x.fArgs, t.sz ≤ 4194304 := fun t ht => by
        obtain ⟨i, hi, e⟩ := List.getElem_of_mem ht
        rw [← e]; exact (arg_sz hi hsz).1
      have tail := ihS x.fArgs (by omega) hts.1 hall
      have yes : fineT x.fKind x.fName x.fArgs.length = true → formed x = !(!formeds x.fArgs) := fun h => by rw [fin _ h]; simp
      have no : fineT x.fKind x.fName x.fArgs.length = false → formed x = false := fun h => by rw [fin _ h]; simp
      have shut : ¬ ((x.fKind = 1 ∨ x.fKind = 4) ∧ validName x.fName = true ∧ x.fArgs.length = 0 ∨ x.fKind = 3 ∧ validName x.fName = true ∧ x.fArgs.length = 1 ∨ x.fKind = 2 ∧ (validName x.fName = true ∧ x.fArgs.length ≤ 3 ∨ builtInB x.fName = true ∧ x.fArgs.length = 0)) → V.c (.d (.b false)) = V.c (.d (.b (formed x))) := fun h => bool_eq (no (dec_false h)).symm
      have open_ : ((x.fKind = 1 ∨ x.fKind = 4) ∧ validName x.fName = true ∧ x.fArgs.length = 0 ∨ x.fKind = 3 ∧ validName x.fName = true ∧ x.fArgs.length = 1 ∨ x.fKind = 2 ∧ (validName x.fName = true ∧ x.fArgs.length ≤ 3 ∨ builtInB x.fName = true ∧ x.fArgs.length = 0)) → V.c (.d (.b (!(!formeds x.fArgs)))) = V.c (.d (.b (formed x))) := fun h => bool_eq (yes (dec_true h)).symm
      clear yes no fin
      refine acall_cw (rs := [.tmp 2]) Try.checked.mixed Try.func154 Try.ntmps154 rfl rfl rfl rfl rfl ?_
      simp -implicitDefEqProofs (disch := omega) only [go_sem, ↓reduceIte, Nat.reduceEqDiff, Nat.reduceAdd, Nat.reduceLeDiff, Nat.reduceSub, Nat.reduceMul, Nat.reduceBEq, Int.reduceEq, Int.reduceLT, Int.reduceLE, Int.reduceGT, Int.reduceGE, Int.reduceNeg, Int.reduceToNat]
      repeat' (first
        | (with_reducible refine split2 (fun hb => ?_) (fun hb => ?_) <;> have h := hb <;> (try simp only [decide_eq_true_eq, decide_eq_false_iff_not, Bool.not_eq_true, Bool.not_eq_false, Bool.not_eq_eq_eq_not, Bool.not_true, Bool.not_false, dec_eq_true, dec_eq_false, Classical.not_not] at h) <;> simp -implicitDefEqProofs (disch := omega) only [go_sem, hb, ↓reduceIte, Nat.reduceEqDiff, Nat.reduceAdd, Nat.reduceLeDiff, Nat.reduceSub, Nat.reduceMul, Nat.reduceBEq, Int.reduceEq, Int.reduceLT, Int.reduceLE, Int.reduceGT, Int.reduceGE, Int.reduceNeg, Int.reduceToNat] <;> (repeat ((with_reducible refine And.intro ?_ ?_); (focus (first | omega | rfl | assumption | exact ⟨_, rfl, rfl⟩ | (simp only [List.length_take, List.length_map, List.length_append, List.length_cons, List.length_nil]; omega) | (simp; done))))))
        | (refine call_w (implValidName_ok x.fName (by omega)) ?_; simp -implicitDefEqProofs (disch := omega) only [go_sem, ↓reduceIte, Nat.reduceEqDiff, Nat.reduceAdd, Nat.reduceLeDiff, Nat.reduceSub, Nat.reduceMul, Nat.reduceBEq, Int.reduceEq, Int.reduceLT, Int.reduceLE, Int.reduceGT, Int.reduceGE, Int.reduceNeg, Int.reduceToNat])
        | (refine call_w (isBuiltIn_ok x.fName) ?_; simp -implicitDefEqProofs (disch := omega) only [go_sem, ↓reduceIte, Nat.reduceEqDiff, Nat.reduceAdd, Nat.reduceLeDiff, Nat.reduceSub, Nat.reduceMul, Nat.reduceBEq, Int.reduceEq, Int.reduceLT, Int.reduceLE, Int.reduceGT, Int.reduceGE, Int.reduceNeg, Int.reduceToNat])
        | (refine call_w tail ?_; simp -implicitDefEqProofs (disch := omega) only [go_sem, ↓reduceIte, Nat.reduceEqDiff, Nat.reduceAdd, Nat.reduceLeDiff, Nat.reduceSub, Nat.reduceMul, Nat.reduceBEq, Int.reduceEq, Int.reduceLT, Int.reduceLE, Int.reduceGT, Int.reduceGE, Int.reduceNeg, Int.reduceToNat]))
      all_goals first
        | (refine shut (fun y => ?_); rcases y with ⟨_, _, _⟩ | ⟨_, _, _⟩ | ⟨_, ⟨_, _⟩ | ⟨_, _⟩⟩ <;> first | omega | (simp_all; done))
        | (refine open_ ?_; first
            | exact .inl ⟨by omega, by assumption, by omega⟩
            | exact .inr (.inl ⟨by omega, by assumption, by omega⟩)
            | exact .inr (.inr ⟨by omega, .inl ⟨by assumption, by omega⟩⟩)
            | exact .inr (.inr ⟨by omega, .inr ⟨by assumption, by omega⟩⟩))
    · have hcl : ∀ y ∈ xs, PCall Try.prog 171 [y.v] (.c (.d (.b (!formed y)))) := fun y hy S => by
        have hys := List.sizeOf_lt_of_mem hy
        refine acall_cw (rs := [.tmp 2]) Try.checked.mixed Try.func171 Try.ntmps171 rfl rfl rfl rfl rfl ?_
        simp -implicitDefEqProofs (disch := omega) only [go_sem, ↓reduceIte, Nat.reduceEqDiff, Nat.reduceAdd, Nat.reduceLeDiff, Nat.reduceSub, Nat.reduceMul, Nat.reduceBEq, Int.reduceEq, Int.reduceLT, Int.reduceLE, Int.reduceGT, Int.reduceGE, Int.reduceNeg, Int.reduceToNat]
        refine call_w (ih y (by omega) (hsz y hy)) ?_
        simp -implicitDefEqProofs (disch := omega) only [go_sem, ↓reduceIte, Nat.reduceEqDiff, Nat.reduceAdd, Nat.reduceLeDiff, Nat.reduceSub, Nat.reduceMul, Nat.reduceBEq, Int.reduceEq, Int.reduceLT, Int.reduceLE, Int.reduceGT, Int.reduceGE, Int.reduceNeg, Int.reduceToNat] <;> (repeat ((with_reducible refine And.intro ?_ ?_); (focus (first | omega | rfl | assumption | exact ⟨_, rfl, rfl⟩ | (simp only [List.length_take, List.length_map, List.length_append, List.length_cons, List.length_nil]; omega) | (simp; done)))))
      have hidx : PCall Try.prog 127 [.c (.d (.sl (xs.map MType.enc))), .c (.fn 171 [])] (.c (.d (.i .i64 (indexP (fun y => !formed y) xs)))) := fun S => by
        refine acall_cw (rs := [.tmp 4]) Try.checked.mixed Try.func127 Try.ntmps127 rfl rfl rfl rfl rfl ?_
        simp -implicitDefEqProofs (disch := omega) only [go_sem, ↓reduceIte, Nat.reduceEqDiff, Nat.reduceAdd, Nat.reduceLeDiff, Nat.reduceSub, Nat.reduceMul, Nat.reduceBEq, Int.reduceEq, Int.reduceLT, Int.reduceLE, Int.reduceGT, Int.reduceGE, Int.reduceNeg, Int.reduceToNat]
        refine loop_at (ι := Nat) Try.checked.mixed rfl [0, 1, 7, 8] (fun i => [.c (.d (.sl (xs.map MType.enc))), .c (.fn 171 []), .c (.d (.i .i64 xs.length)), .c (.d (.i .i64 i))]) (fun _ => [] :: S)
          (fun i => i ≤ xs.length ∧ ∀ j, ∀ hj : j < xs.length, j < i → formed xs[j] = true) (fun i => xs.length - i) 0 rfl rfl ⟨Nat.zero_le _, fun j _ h => by omega⟩ ?_
        rintro i ⟨p1, p2⟩
        simp -implicitDefEqProofs (disch := omega) only [go_sem, ↓reduceIte, Nat.reduceEqDiff, Nat.reduceAdd, Nat.reduceLeDiff, Nat.reduceSub, Nat.reduceMul, Nat.reduceBEq, Int.reduceEq, Int.reduceLT, Int.reduceLE, Int.reduceGT, Int.reduceGE, Int.reduceNeg, Int.reduceToNat]
        with_reducible refine split2 (fun hb => ?_) (fun hb => ?_) <;> have h := hb <;> (try simp only [decide_eq_true_eq, decide_eq_false_iff_not, Bool.not_eq_true, Bool.not_eq_false, Bool.not_eq_eq_eq_not, Bool.not_true, Bool.not_false, dec_eq_true, dec_eq_false, Classical.not_not] at h) <;> simp -implicitDefEqProofs (disch := omega) only [go_sem, hb, ↓reduceIte, Nat.reduceEqDiff, Nat.reduceAdd, Nat.reduceLeDiff, Nat.reduceSub, Nat.reduceMul, Nat.reduceBEq, Int.reduceEq, Int.reduceLT, Int.reduceLE, Int.reduceGT, Int.reduceGE, Int.reduceNeg, Int.reduceToNat] <;> (repeat ((with_reducible refine And.intro ?_ ?_); (focus (first | omega | rfl | assumption | exact ⟨_, rfl, rfl⟩ | (simp only [List.length_take, List.length_map, List.length_append, List.length_cons, List.length_nil]; omega) | (simp; done)))))
        · have hi : i < xs.length := by omega
          (repeat ((with_reducible refine And.intro ?_ ?_); (focus (first | omega | rfl | assumption | exact ⟨_, rfl, rfl⟩ | (simp only [List.length_take, List.length_map, List.length_append, List.length_cons, List.length_nil]; omega) | (simp; done)))))
          refine call_w (hcl xs[i] (List.getElem_mem hi)) ?_
          simp -implicitDefEqProofs (disch := omega) only [go_sem, ↓reduceIte, Nat.reduceEqDiff, Nat.reduceAdd, Nat.reduceLeDiff, Nat.reduceSub, Nat.reduceMul, Nat.reduceBEq, Int.reduceEq, Int.reduceLT, Int.reduceLE, Int.reduceGT, Int.reduceGE, Int.reduceNeg, Int.reduceToNat] <;> (repeat ((with_reducible refine And.intro ?_ ?_); (focus (first | omega | rfl | assumption | exact ⟨_, rfl, rfl⟩ | (simp only [List.length_take, List.length_map, List.length_append, List.length_cons, List.length_nil]; omega) | (simp; done)))))
          with_reducible refine split2 (fun hb => ?_) (fun hb => ?_) <;> have h := hb <;> (try simp only [decide_eq_true_eq, decide_eq_false_iff_not, Bool.not_eq_true, Bool.not_eq_false, Bool.not_eq_eq_eq_not, Bool.not_true, Bool.not_false, dec_eq_true, dec_eq_false, Classical.not_not] at h) <;> simp -implicitDefEqProofs (disch := omega) only [go_sem, hb, ↓reduceIte, Nat.reduceEqDiff, Nat.reduceAdd, Nat.reduceLeDiff, Nat.reduceSub, Nat.reduceMul, Nat.reduceBEq, Int.reduceEq, Int.reduceLT, Int.reduceLE, Int.reduceGT, Int.reduceGE, Int.reduceNeg, Int.reduceToNat] <;> (repeat ((with_reducible refine And.intro ?_ ?_); (focus (first | omega | rfl | assumption | exact ⟨_, rfl, rfl⟩ | (simp only [List.length_take, List.length_map, List.length_append, List.length_cons, List.length_nil]; omega) | (simp; done)))))
          · rw [indexP_here hi (fun j hj hji => by rw [p2 j hj hji]; rfl) (by rw [h]; rfl)]
          · refine inv_at (i + 1) (by omega) rfl rfl ⟨by omega, fun j hj hji => ?_⟩
            by_cases e : j = i
            · subst e; exact h
            · exact p2 j hj (by omega)
        · rw [indexP_no (fun j hj => by rw [p2 j hj (by omega)]; rfl)]
      refine acall_cw (rs := [.tmp 4]) Try.checked.mixed Try.func99 Try.ntmps99 rfl rfl rfl rfl rfl ?_
      simp -implicitDefEqProofs (disch := omega) only [go_sem, ↓reduceIte, Nat.reduceEqDiff, Nat.reduceAdd, Nat.reduceLeDiff, Nat.reduceSub, Nat.reduceMul, Nat.reduceBEq, Int.reduceEq, Int.reduceLT, Int.reduceLE, Int.reduceGT, Int.reduceGE, Int.reduceNeg, Int.reduceToNat]
      refine call_w (hidx) ?_
      simp -implicitDefEqProofs (disch := omega) only [go_sem, ↓reduceIte, Nat.reduceEqDiff, Nat.reduceAdd, Nat.reduceLeDiff, Nat.reduceSub, Nat.reduceMul, Nat.reduceBEq, Int.reduceEq, Int.reduceLT, Int.reduceLE, Int.reduceGT, Int.reduceGE, Int.reduceNeg, Int.reduceToNat] <;> (repeat ((with_reducible refine And.intro ?_ ?_); (focus (first | omega | rfl | assumption | exact ⟨_, rfl, rfl⟩ | (simp only [List.length_take, List.length_map, List.length_append, List.length_cons, List.length_nil]; omega) | (simp; done)))))
      rw [← formeds_any]
      exact bool_eq indexP_pos
theorem isFormed_ok (x : MType) (hsz : x.sz ≤ 4194304) : PCall Try.prog 154 [x.v] (.c (.d (.b (formed x)))) := (isFormed_all _).1 x (Nat.lt_succ_self _) hsz
theorem implValidType_ok (x : MType) (hsz : x.sz ≤ 4194304) : PCall Try.prog 128 [x.v] (.c (.d (.b (validType x)))) := fun S => by
  refine acall_cw (rs := [.tmp 2]) Try.checked.mixed Try.func128 Try.ntmps128 rfl rfl rfl rfl rfl ?_
  simp -implicitDefEqProofs (disch := omega) only [go_sem, ↓reduceIte, Nat.reduceEqDiff, Nat.reduceAdd, Nat.reduceLeDiff, Nat.reduceSub, Nat.reduceMul, Nat.reduceBEq, Int.reduceEq, Int.reduceLT, Int.reduceLE, Int.reduceGT, Int.reduceGE, Int.reduceNeg, Int.reduceToNat]
  refine call_w (isFormed_ok x hsz) ?_
  simp -implicitDefEqProofs (disch := omega) only [go_sem, ↓reduceIte, Nat.reduceEqDiff, Nat.reduceAdd, Nat.reduceLeDiff, Nat.reduceSub, Nat.reduceMul, Nat.reduceBEq, Int.reduceEq, Int.reduceLT, Int.reduceLE, Int.reduceGT, Int.reduceGE, Int.reduceNeg, Int.reduceToNat] <;> (repeat ((with_reducible refine And.intro ?_ ?_); (focus (first | omega | rfl | assumption | exact ⟨_, rfl, rfl⟩ | (simp only [List.length_take, List.length_map, List.length_append, List.length_cons, List.length_nil]; omega) | (simp; done)))))
  with_reducible refine split2 (fun hb => ?_) (fun hb => ?_) <;> have h := hb <;> (try simp only [decide_eq_true_eq, decide_eq_false_iff_not, Bool.not_eq_true, Bool.not_eq_false, Bool.not_eq_eq_eq_not, Bool.not_true, Bool.not_false, dec_eq_true, dec_eq_false, Classical.not_not] at h) <;> simp -implicitDefEqProofs (disch := omega) only [go_sem, hb, ↓reduceIte, Nat.reduceEqDiff, Nat.reduceAdd, Nat.reduceLeDiff, Nat.reduceSub, Nat.reduceMul, Nat.reduceBEq, Int.reduceEq, Int.reduceLT, Int.reduceLE, Int.reduceGT, Int.reduceGE, Int.reduceNeg, Int.reduceToNat] <;> (repeat ((with_reducible refine And.intro ?_ ?_); (focus (first | omega | rfl | assumption | exact ⟨_, rfl, rfl⟩ | (simp only [List.length_take, List.length_map, List.length_append, List.length_cons, List.length_nil]; omega) | (simp; done)))))
  · have h1 := h
    refine call_w (implDepth_ok x hsz) ?_
    simp -implicitDefEqProofs (disch := omega) only [go_sem, ↓reduceIte, Nat.reduceEqDiff, Nat.reduceAdd, Nat.reduceLeDiff, Nat.reduceSub, Nat.reduceMul, Nat.reduceBEq, Int.reduceEq, Int.reduceLT, Int.reduceLE, Int.reduceGT, Int.reduceGE, Int.reduceNeg, Int.reduceToNat] <;> (repeat ((with_reducible refine And.intro ?_ ?_); (focus (first | omega | rfl | assumption | exact ⟨_, rfl, rfl⟩ | (simp only [List.length_take, List.length_map, List.length_append, List.length_cons, List.length_nil]; omega) | (simp; done)))))
    with_reducible refine split2 (fun hb => ?_) (fun hb => ?_) <;> have h := hb <;> (try simp only [decide_eq_true_eq, decide_eq_false_iff_not, Bool.not_eq_true, Bool.not_eq_false, Bool.not_eq_eq_eq_not, Bool.not_true, Bool.not_false, dec_eq_true, dec_eq_false, Classical.not_not] at h) <;> simp -implicitDefEqProofs (disch := omega) only [go_sem, hb, ↓reduceIte, Nat.reduceEqDiff, Nat.reduceAdd, Nat.reduceLeDiff, Nat.reduceSub, Nat.reduceMul, Nat.reduceBEq, Int.reduceEq, Int.reduceLT, Int.reduceLE, Int.reduceGT, Int.reduceGE, Int.reduceNeg, Int.reduceToNat] <;> (repeat ((with_reducible refine And.intro ?_ ?_); (focus (first | omega | rfl | assumption | exact ⟨_, rfl, rfl⟩ | (simp only [List.length_take, List.length_map, List.length_append, List.length_cons, List.length_nil]; omega) | (simp; done)))))
    · refine call_w (typeSize_ok x hsz) ?_
      simp -implicitDefEqProofs (disch := omega) only [go_sem, ↓reduceIte, Nat.reduceEqDiff, Nat.reduceAdd, Nat.reduceLeDiff, Nat.reduceSub, Nat.reduceMul, Nat.reduceBEq, Int.reduceEq, Int.reduceLT, Int.reduceLE, Int.reduceGT, Int.reduceGE, Int.reduceNeg, Int.reduceToNat] <;> (repeat ((with_reducible refine And.intro ?_ ?_); (focus (first | omega | rfl | assumption | exact ⟨_, rfl, rfl⟩ | (simp only [List.length_take, List.length_map, List.length_append, List.length_cons, List.length_nil]; omega) | (simp; done)))))
      exact bool_eq (by rw [decide_dec]; exact dec_congr ⟨fun y => ⟨h1, by omega, by omega⟩, fun y => by have := y.2.2; omega⟩)
    · exact bool_eq (dec_false fun y => by have := y.2.1; omega).symm
  · exact bool_eq (dec_false fun y => by rw [y.1] at h; cases h).symm
set_option maxHeartbeats 1000000 in
theorem l4Form_all : ∀ n : Nat, ∀ x : MType, SizeOf.sizeOf x < n → x.sz ≤ 4194304 → PCall Try.prog 134 [x.v] (.c (.d (.b (formed x))))
  | 0 => fun x h => by omega
  | n + 1 => by
    have ih := l4Form_all n
    intro x hn hsz S
    have lArgs := MType.lt_Args x
    have hts := ty_sz hsz
    have shut : ¬ ((x.fKind = 1 ∨ x.fKind = 4) ∧ validName x.fName = true ∧ x.fArgs.length = 0 ∨ x.fKind = 3 ∧ validName x.fName = true ∧ x.fArgs.length = 1 ∨ x.fKind = 2 ∧ (validName x.fName = true ∧ x.fArgs.length ≤ 3 ∨ builtInB x.fName = true ∧ x.fArgs.length = 0)) → V.c (.d (.b false)) = V.c (.d (.b (formed x))) := fun h => bool_eq (by rw [formed_eq, show fineT x.fKind x.fName x.fArgs.length = false from dec_false h]; rfl)
    have fine0 : ∀ b : Bool, (b = true ↔ ((x.fKind = 1 ∨ x.fKind = 4) ∧ validName x.fName = true ∧ x.fArgs.length = 0 ∨ x.fKind = 3 ∧ validName x.fName = true ∧ x.fArgs.length = 1 ∨ x.fKind = 2 ∧ (validName x.fName = true ∧ x.fArgs.length ≤ 3 ∨ builtInB x.fName = true ∧ x.fArgs.length = 0))) → b = fineT x.fKind x.fName x.fArgs.length := fun b h => by
      rw [Bool.eq_iff_iff, h]
      unfold fineT
      rw [dec_eq_true]
    refine acall_cw (rs := [.tmp 2]) Try.checked.mixed Try.func134 Try.ntmps134 rfl rfl rfl rfl rfl ?_
    simp -implicitDefEqProofs (disch := omega) only [go_sem, ↓reduceIte, Nat.reduceEqDiff, Nat.reduceAdd, Nat.reduceLeDiff, Nat.reduceSub, Nat.reduceMul, Nat.reduceBEq, Int.reduceEq, Int.reduceLT, Int.reduceLE, Int.reduceGT, Int.reduceGE, Int.reduceNeg, Int.reduceToNat]
    refine call_w (specValidName_ok x.fName (by omega)) ?_
    simp -implicitDefEqProofs (disch := omega) only [go_sem, ↓reduceIte, Nat.reduceEqDiff, Nat.reduceAdd, Nat.reduceLeDiff, Nat.reduceSub, Nat.reduceMul, Nat.reduceBEq, Int.reduceEq, Int.reduceLT, Int.reduceLE, Int.reduceGT, Int.reduceGE, Int.reduceNeg, Int.reduceToNat] <;> (repeat ((with_reducible refine And.intro ?_ ?_); (focus (first | omega | rfl | assumption | exact ⟨_, rfl, rfl⟩ | (simp only [List.length_take, List.length_map, List.length_append, List.length_cons, List.length_nil]; omega) | (simp; done)))))
    repeat' (first
      | (with_reducible refine split2 (fun hb => ?_) (fun hb => ?_) <;> have h := hb <;> (try simp only [decide_eq_true_eq, decide_eq_false_iff_not, Bool.not_eq_true, Bool.not_eq_false, Bool.not_eq_eq_eq_not, Bool.not_true, Bool.not_false, dec_eq_true, dec_eq_false, Classical.not_not] at h) <;> simp -implicitDefEqProofs (disch := omega) only [go_sem, hb, ↓reduceIte, Nat.reduceEqDiff, Nat.reduceAdd, Nat.reduceLeDiff, Nat.reduceSub, Nat.reduceMul, Nat.reduceBEq, Int.reduceEq, Int.reduceLT, Int.reduceLE, Int.reduceGT, Int.reduceGE, Int.reduceNeg, Int.reduceToNat] <;> (repeat ((with_reducible refine And.intro ?_ ?_); (focus (first | omega | rfl | assumption | exact ⟨_, rfl, rfl⟩ | (simp only [List.length_take, List.length_map, List.length_append, List.length_cons, List.length_nil]; omega) | (simp; done))))))
      | (refine call_w (l4Base_ok x.fName) ?_; simp -implicitDefEqProofs (disch := omega) only [go_sem, ↓reduceIte, Nat.reduceEqDiff, Nat.reduceAdd, Nat.reduceLeDiff, Nat.reduceSub, Nat.reduceMul, Nat.reduceBEq, Int.reduceEq, Int.reduceLT, Int.reduceLE, Int.reduceGT, Int.reduceGE, Int.reduceNeg, Int.reduceToNat]))
    all_goals first
      | (refine shut (fun y => ?_); rcases y with ⟨_, _, _⟩ | ⟨_, _, _⟩ | ⟨_, ⟨_, _⟩ | ⟨_, _⟩⟩ <;> first | omega | (simp_all; done))
      | skip
    all_goals
      refine loop_at (ι := Nat × Bool) Try.checked.mixed rfl [1, 3, 4] (fun y => [.c (.ptr (0, 0) 0), .c (.d (.b y.2)), .c (.d (.i .i64 y.1))]) (fun y => [.box [.d (.i .i64 x.fKind), .d (.s x.fName), .d (.sl (x.fArgs.map MType.enc))]] :: S)
        (fun y => y.1 ≤ x.fArgs.length ∧ (y.2 && formeds (x.fArgs.drop y.1)) = formed x) (fun y => x.fArgs.length - y.1) (0, fineT x.fKind x.fName x.fArgs.length) ?_ rfl ⟨Nat.zero_le _, by rw [formed_eq]; rfl⟩ ?_
      · simp only [List.map_cons, List.map_nil]
        simp -implicitDefEqProofs (disch := omega) only [go_sem, List.cons.injEq, V.c.injEq, C.d.injEq, D.b.injEq, Int.natCast_zero, ↓reduceIte, Nat.reduceEqDiff, Nat.reduceAdd, Nat.reduceLeDiff, Nat.reduceSub, Nat.reduceMul, Nat.reduceBEq, Int.reduceEq, Int.reduceLT, Int.reduceLE, Int.reduceGT, Int.reduceGE, Int.reduceNeg, Int.reduceToNat]
        refine fine0 _ ⟨fun y => ?_, fun y => ?_⟩
        · (try simp only [decide_eq_true_eq, Bool.false_eq_true] at y) <;> first
            | exact .inl ⟨by omega, by assumption, by omega⟩
            | exact .inr (.inl ⟨by omega, by assumption, by omega⟩)
            | exact .inr (.inr ⟨by omega, .inl ⟨by assumption, by omega⟩⟩)
            | exact .inr (.inr ⟨by omega, .inr ⟨by assumption, by omega⟩⟩)
        · rcases y with ⟨_, _, _⟩ | ⟨_, _, _⟩ | ⟨_, ⟨_, _⟩ | ⟨_, _⟩⟩ <;> first | omega | (simp only [decide_eq_true_eq]; omega) | (simp_all; done)
      rintro ⟨i, c⟩ ⟨p1, p2⟩
      simp only at p1 p2
      simp -implicitDefEqProofs (disch := omega) only [go_sem, ↓reduceIte, Nat.reduceEqDiff, Nat.reduceAdd, Nat.reduceLeDiff, Nat.reduceSub, Nat.reduceMul, Nat.reduceBEq, Int.reduceEq, Int.reduceLT, Int.reduceLE, Int.reduceGT, Int.reduceGE, Int.reduceNeg, Int.reduceToNat]
      with_reducible refine split2 (fun hb => ?_) (fun hb => ?_) <;> have h := hb <;> (try simp only [decide_eq_true_eq, decide_eq_false_iff_not, Bool.not_eq_true, Bool.not_eq_false, Bool.not_eq_eq_eq_not, Bool.not_true, Bool.not_false, dec_eq_true, dec_eq_false, Classical.not_not] at h) <;> simp -implicitDefEqProofs (disch := omega) only [go_sem, hb, ↓reduceIte, Nat.reduceEqDiff, Nat.reduceAdd, Nat.reduceLeDiff, Nat.reduceSub, Nat.reduceMul, Nat.reduceBEq, Int.reduceEq, Int.reduceLT, Int.reduceLE, Int.reduceGT, Int.reduceGE, Int.reduceNeg, Int.reduceToNat] <;> (repeat ((with_reducible refine And.intro ?_ ?_); (focus (first | omega | rfl | assumption | exact ⟨_, rfl, rfl⟩ | (simp only [List.length_take, List.length_map, List.length_append, List.length_cons, List.length_nil]; omega) | (simp; done)))))
      · have hi : i < x.fArgs.length := by omega
        have hsz' := arg_sz hi hsz
        rw [formeds_drop hi] at p2
        with_reducible refine split2 (fun hb => ?_) (fun hb => ?_) <;> have h := hb <;> (try simp only [decide_eq_true_eq, decide_eq_false_iff_not, Bool.not_eq_true, Bool.not_eq_false, Bool.not_eq_eq_eq_not, Bool.not_true, Bool.not_false, dec_eq_true, dec_eq_false, Classical.not_not] at h) <;> simp -implicitDefEqProofs (disch := omega) only [go_sem, hb, ↓reduceIte, Nat.reduceEqDiff, Nat.reduceAdd, Nat.reduceLeDiff, Nat.reduceSub, Nat.reduceMul, Nat.reduceBEq, Int.reduceEq, Int.reduceLT, Int.reduceLE, Int.reduceGT, Int.reduceGE, Int.reduceNeg, Int.reduceToNat] <;> (repeat ((with_reducible refine And.intro ?_ ?_); (focus (first | omega | rfl | assumption | exact ⟨_, rfl, rfl⟩ | (simp only [List.length_take, List.length_map, List.length_append, List.length_cons, List.length_nil]; omega) | (simp; done)))))
        · refine call_w (ih x.fArgs[i] (by have := List.sizeOf_lt_of_mem (List.getElem_mem hi); omega) (by omega)) ?_
          simp -implicitDefEqProofs (disch := omega) only [go_sem, ↓reduceIte, Nat.reduceEqDiff, Nat.reduceAdd, Nat.reduceLeDiff, Nat.reduceSub, Nat.reduceMul, Nat.reduceBEq, Int.reduceEq, Int.reduceLT, Int.reduceLE, Int.reduceGT, Int.reduceGE, Int.reduceNeg, Int.reduceToNat]
          exact inv_at (i + 1, formed x.fArgs[i]) (by simp only; omega) rfl rfl ⟨by simp only; omega, by rw [← p2, h]; rfl⟩
        · exact inv_at (i + 1, false) (by simp only; omega) rfl rfl ⟨by simp only; omega, by rw [← p2, h]; rfl⟩
      · have hi : i = x.fArgs.length := by omega
        rw [hi, List.drop_length, formeds, Bool.and_true] at p2
        rw [p2]
theorem l4Form_ok (x : MType) (hsz : x.sz ≤ 4194304) : PCall Try.prog 134 [x.v] (.c (.d (.b (formed x)))) := l4Form_all _ x (Nat.lt_succ_self _) hsz
theorem specValidType_ok (x : MType) (hsz : x.sz ≤ 4194304) : PCall Try.prog 112 [x.v] (.c (.d (.b (validType x)))) := fun S => by
  refine acall_cw (rs := [.tmp 2]) Try.checked.mixed Try.func112 Try.ntmps112 rfl rfl rfl rfl rfl ?_
  simp -implicitDefEqProofs (disch := omega) only [go_sem, ↓reduceIte, Nat.reduceEqDiff, Nat.reduceAdd, Nat.reduceLeDiff, Nat.reduceSub, Nat.reduceMul, Nat.reduceBEq, Int.reduceEq, Int.reduceLT, Int.reduceLE, Int.reduceGT, Int.reduceGE, Int.reduceNeg, Int.reduceToNat]
  refine call_w (l4Left_ok x 60 (by omega) (by omega) hsz) ?_
  simp -implicitDefEqProofs (disch := omega) only [go_sem, ↓reduceIte, Nat.reduceEqDiff, Nat.reduceAdd, Nat.reduceLeDiff, Nat.reduceSub, Nat.reduceMul, Nat.reduceBEq, Int.reduceEq, Int.reduceLT, Int.reduceLE, Int.reduceGT, Int.reduceGE, Int.reduceNeg, Int.reduceToNat] <;> (repeat ((with_reducible refine And.intro ?_ ?_); (focus (first | omega | rfl | assumption | exact ⟨_, rfl, rfl⟩ | (simp only [List.length_take, List.length_map, List.length_append, List.length_cons, List.length_nil]; omega) | (simp; done)))))
  with_reducible refine split2 (fun hb => ?_) (fun hb => ?_) <;> have h := hb <;> (try simp only [decide_eq_true_eq, decide_eq_false_iff_not, Bool.not_eq_true, Bool.not_eq_false, Bool.not_eq_eq_eq_not, Bool.not_true, Bool.not_false, dec_eq_true, dec_eq_false, Classical.not_not] at h) <;> simp -implicitDefEqProofs (disch := omega) only [go_sem, hb, ↓reduceIte, Nat.reduceEqDiff, Nat.reduceAdd, Nat.reduceLeDiff, Nat.reduceSub, Nat.reduceMul, Nat.reduceBEq, Int.reduceEq, Int.reduceLT, Int.reduceLE, Int.reduceGT, Int.reduceGE, Int.reduceNeg, Int.reduceToNat] <;> (repeat ((with_reducible refine And.intro ?_ ?_); (focus (first | omega | rfl | assumption | exact ⟨_, rfl, rfl⟩ | (simp only [List.length_take, List.length_map, List.length_append, List.length_cons, List.length_nil]; omega) | (simp; done)))))
  · have h1 := (sub1_nn (l := 60) (a := x.cnt) (by omega)).2
    refine call_w (specDepth_ok x hsz) ?_
    simp -implicitDefEqProofs (disch := omega) only [go_sem, ↓reduceIte, Nat.reduceEqDiff, Nat.reduceAdd, Nat.reduceLeDiff, Nat.reduceSub, Nat.reduceMul, Nat.reduceBEq, Int.reduceEq, Int.reduceLT, Int.reduceLE, Int.reduceGT, Int.reduceGE, Int.reduceNeg, Int.reduceToNat] <;> (repeat ((with_reducible refine And.intro ?_ ?_); (focus (first | omega | rfl | assumption | exact ⟨_, rfl, rfl⟩ | (simp only [List.length_take, List.length_map, List.length_append, List.length_cons, List.length_nil]; omega) | (simp; done)))))
    with_reducible refine split2 (fun hb => ?_) (fun hb => ?_) <;> have h := hb <;> (try simp only [decide_eq_true_eq, decide_eq_false_iff_not, Bool.not_eq_true, Bool.not_eq_false, Bool.not_eq_eq_eq_not, Bool.not_true, Bool.not_false, dec_eq_true, dec_eq_false, Classical.not_not] at h) <;> simp -implicitDefEqProofs (disch := omega) only [go_sem, hb, ↓reduceIte, Nat.reduceEqDiff, Nat.reduceAdd, Nat.reduceLeDiff, Nat.reduceSub, Nat.reduceMul, Nat.reduceBEq, Int.reduceEq, Int.reduceLT, Int.reduceLE, Int.reduceGT, Int.reduceGE, Int.reduceNeg, Int.reduceToNat] <;> (repeat ((with_reducible refine And.intro ?_ ?_); (focus (first | omega | rfl | assumption | exact ⟨_, rfl, rfl⟩ | (simp only [List.length_take, List.length_map, List.length_append, List.length_cons, List.length_nil]; omega) | (simp; done)))))
    · refine call_w (l4Form_ok x hsz) ?_
      simp -implicitDefEqProofs (disch := omega) only [go_sem, ↓reduceIte, Nat.reduceEqDiff, Nat.reduceAdd, Nat.reduceLeDiff, Nat.reduceSub, Nat.reduceMul, Nat.reduceBEq, Int.reduceEq, Int.reduceLT, Int.reduceLE, Int.reduceGT, Int.reduceGE, Int.reduceNeg, Int.reduceToNat] <;> (repeat ((with_reducible refine And.intro ?_ ?_); (focus (first | omega | rfl | assumption | exact ⟨_, rfl, rfl⟩ | (simp only [List.length_take, List.length_map, List.length_append, List.length_cons, List.length_nil]; omega) | (simp; done)))))
      refine bool_eq ?_
      cases hf : formed x with
      | false => exact (dec_false fun y => by rw [hf] at y; cases y.1).symm
      | true => exact (dec_true ⟨hf, by omega, by omega⟩).symm
    · exact bool_eq (dec_false fun y => by have := y.2.1; omega).symm
  · have h1 := sub1_neg (l := 60) (a := x.cnt) (by omega)
    exact bool_eq (dec_false fun y => by have := y.2.2; omega).symm
end Go.Proofs.Ytjfhgcnoielpfaa
