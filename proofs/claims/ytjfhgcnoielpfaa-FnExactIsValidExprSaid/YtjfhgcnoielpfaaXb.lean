/-
  CONTRACTS: a byte in a string, by the library; operators; zero types; the program's rule of an expression's own fields.
-/
import Derived.Test.YtjfhgcnoielpfaaXa
set_option linter.unusedSimpArgs false
set_option linter.unusedVariables false
set_option maxRecDepth 4000
namespace Go.Ab
theorem ops_idx (b : UInt8) : decide (firstIdx ⟨[43, 45, 42, 60, 61].toArray⟩ b ≥ 0) = dec ([b] ∈ ops) := by
  have h : ∀ n : Nat, n < 256 → decide (firstIdx ⟨[43, 45, 42, 60, 61].toArray⟩ (UInt8.ofNat n) ≥ 0) = decide ([UInt8.ofNat n] ∈ ops) := by decide +kernel
  have h1 := h b.toNat (UInt8.toNat_lt b)
  rw [UInt8.ofNat_toNat] at h1
  rw [h1]
  by_cases h2 : [b] ∈ ops
  · rw [dec_true h2]; simp [h2]
  · rw [dec_false h2]; simp [h2]
def argLo (k : Int) : Int := if k = 5 ∨ k = 7 ∨ k = 11 ∨ k = 12 then 1 else if k = 8 ∨ k = 10 then 2 else if k = 9 then 3 else 0
def argHi (k : Int) : Int := if k = 4 ∨ k = 6 ∨ k = 5 then 300 else if k = 7 ∨ k = 11 ∨ k = 12 then 1 else if k = 8 ∨ k = 10 then 2 else if k = 9 then 3 else 0
end Go.Ab
namespace Go.Proofs.Ytjfhgcnoielpfaa
open Go Go.Ab

theorem indexByteString_x (l : List UInt8) (b : UInt8) : XCall Try.prog 197 [.c (.d (.s l)), .c (.d (.i .u8 b.toNat))] (.c (.d (.i .i64 (firstIdx ⟨l.toArray⟩ b)))) := by
  refine ⟨_, Extern.BytealgIndexByte.indexByte, Try.func197, by kernel_rfl, by kernel_rfl, by kernel_rfl, by kernel_rfl, fun w σ S β vs hS hv => ?_⟩
  obtain ⟨hl, h⟩ := hv
  obtain ⟨v0, e0, h0, _⟩ := h 0 _ rfl
  obtain ⟨v1, e1, h1, _⟩ := h 1 _ rfl
  cases h0
  cases h1
  have hvs : vs = [.string ⟨l.toArray⟩, .int .u8 b.toNat] := by
    match vs, hl, e0, e1 with
    | [x, y], _, e0, e1 => simp at e0 e1; rw [e0, e1]
  subst hvs
  refine ⟨_, run_indexByte_string _ _ w, ?_, rfl⟩
  have hb : (b.toNat : Int).toNat.toUInt8 = b := by simp
  rw [hb]
  exact .i _ _
theorem indexByte_ok (l : List UInt8) (b : UInt8) : PCall Try.prog 193 [.c (.d (.s l)), .c (.d (.i .u8 b.toNat))] (.c (.d (.i .i64 (firstIdx ⟨l.toArray⟩ b)))) := fun S => by
  refine acall_cw (rs := [.tmp 4]) Try.checked.mixed Try.func193 Try.ntmps193 rfl rfl rfl rfl rfl ?_
  simp -implicitDefEqProofs (disch := omega) only [go_sem, ↓reduceIte, Nat.reduceEqDiff, Nat.reduceAdd, Nat.reduceLeDiff, Nat.reduceSub, Nat.reduceMul, Nat.reduceBEq, Int.reduceEq, Int.reduceLT, Int.reduceLE, Int.reduceGT, Int.reduceGE, Int.reduceNeg, Int.reduceToNat]
  refine call_x (indexByteString_x l b) ?_
  simp -implicitDefEqProofs (disch := omega) only [go_sem, ↓reduceIte, Nat.reduceEqDiff, Nat.reduceAdd, Nat.reduceLeDiff, Nat.reduceSub, Nat.reduceMul, Nat.reduceBEq, Int.reduceEq, Int.reduceLT, Int.reduceLE, Int.reduceGT, Int.reduceGE, Int.reduceNeg, Int.reduceToNat]
theorem slIndex1_ok (l : List UInt8) (b : UInt8) (hl : [b] ≠ l) : PCall Try.prog 183 [.c (.d (.s l)), .c (.d (.s [b]))] (.c (.d (.i .i64 (firstIdx ⟨l.toArray⟩ b)))) := fun S => by
  have c1 : decide (((1 : Nat) : Int) = 0) = false := rfl
  have c2 : decide (((1 : Nat) : Int) = 1) = true := rfl
  refine acall_cw (rs := [.tmp 4]) Try.checked.mixed Try.func183 Try.ntmps183 rfl rfl rfl rfl rfl ?_
  simp -implicitDefEqProofs (disch := omega) only [go_sem, c1, c2, ↓reduceIte, Nat.reduceEqDiff, Nat.reduceAdd, Nat.reduceLeDiff, Nat.reduceSub, Nat.reduceMul, Nat.reduceBEq, Int.reduceEq, Int.reduceLT, Int.reduceLE, Int.reduceGT, Int.reduceGE, Int.reduceNeg, Int.reduceToNat]
  with_reducible refine split2 (fun hb => ?_) (fun hb => ?_) <;> have h := hb <;> (try simp only [decide_eq_true_eq, decide_eq_false_iff_not, Bool.not_eq_true, Bool.not_eq_false, Bool.not_eq_eq_eq_not, Bool.not_true, Bool.not_false, dec_eq_true, dec_eq_false, Classical.not_not] at h) <;> simp -implicitDefEqProofs (disch := omega) only [go_sem, hb, c1, c2, ↓reduceIte, Nat.reduceEqDiff, Nat.reduceAdd, Nat.reduceLeDiff, Nat.reduceSub, Nat.reduceMul, Nat.reduceBEq, Int.reduceEq, Int.reduceLT, Int.reduceLE, Int.reduceGT, Int.reduceGE, Int.reduceNeg, Int.reduceToNat] <;> (repeat ((with_reducible refine And.intro ?_ ?_); (focus (first | omega | rfl | assumption | exact ⟨_, rfl, rfl⟩ | (simp only [List.length_take, List.length_map, List.length_append, List.length_cons, List.length_nil]; omega) | (simp; done)))))
  · exact absurd h hl
  refine call_w (indexByte_ok l b) ?_
  simp -implicitDefEqProofs (disch := omega) only [go_sem, ↓reduceIte, Nat.reduceEqDiff, Nat.reduceAdd, Nat.reduceLeDiff, Nat.reduceSub, Nat.reduceMul, Nat.reduceBEq, Int.reduceEq, Int.reduceLT, Int.reduceLE, Int.reduceGT, Int.reduceGE, Int.reduceNeg, Int.reduceToNat] <;> (repeat ((with_reducible refine And.intro ?_ ?_); (focus (first | omega | rfl | assumption | exact ⟨_, rfl, rfl⟩ | (simp only [List.length_take, List.length_map, List.length_append, List.length_cons, List.length_nil]; omega) | (simp; done)))))
theorem index1_ok (l : List UInt8) (b : UInt8) (hl : [b] ≠ l) : PCall Try.prog 173 [.c (.d (.s l)), .c (.d (.s [b]))] (.c (.d (.i .i64 (firstIdx ⟨l.toArray⟩ b)))) := fun S => by
  refine acall_cw (rs := [.tmp 4]) Try.checked.mixed Try.func173 Try.ntmps173 rfl rfl rfl rfl rfl ?_
  simp -implicitDefEqProofs (disch := omega) only [go_sem, ↓reduceIte, Nat.reduceEqDiff, Nat.reduceAdd, Nat.reduceLeDiff, Nat.reduceSub, Nat.reduceMul, Nat.reduceBEq, Int.reduceEq, Int.reduceLT, Int.reduceLE, Int.reduceGT, Int.reduceGE, Int.reduceNeg, Int.reduceToNat]
  refine call_w (slIndex1_ok l b hl) ?_
  simp -implicitDefEqProofs (disch := omega) only [go_sem, ↓reduceIte, Nat.reduceEqDiff, Nat.reduceAdd, Nat.reduceLeDiff, Nat.reduceSub, Nat.reduceMul, Nat.reduceBEq, Int.reduceEq, Int.reduceLT, Int.reduceLE, Int.reduceGT, Int.reduceGE, Int.reduceNeg, Int.reduceToNat] <;> (repeat ((with_reducible refine And.intro ?_ ?_); (focus (first | omega | rfl | assumption | exact ⟨_, rfl, rfl⟩ | (simp only [List.length_take, List.length_map, List.length_append, List.length_cons, List.length_nil]; omega) | (simp; done)))))
theorem contains1_ok (l : List UInt8) (b : UInt8) (hl : [b] ≠ l) : PCall Try.prog 163 [.c (.d (.s l)), .c (.d (.s [b]))] (.c (.d (.b (decide (firstIdx ⟨l.toArray⟩ b ≥ 0))))) := fun S => by
  refine acall_cw (rs := [.tmp 4]) Try.checked.mixed Try.func163 Try.ntmps163 rfl rfl rfl rfl rfl ?_
  simp -implicitDefEqProofs (disch := omega) only [go_sem, ↓reduceIte, Nat.reduceEqDiff, Nat.reduceAdd, Nat.reduceLeDiff, Nat.reduceSub, Nat.reduceMul, Nat.reduceBEq, Int.reduceEq, Int.reduceLT, Int.reduceLE, Int.reduceGT, Int.reduceGE, Int.reduceNeg, Int.reduceToNat]
  refine call_w (index1_ok l b hl) ?_
  simp -implicitDefEqProofs (disch := omega) only [go_sem, ↓reduceIte, Nat.reduceEqDiff, Nat.reduceAdd, Nat.reduceLeDiff, Nat.reduceSub, Nat.reduceMul, Nat.reduceBEq, Int.reduceEq, Int.reduceLT, Int.reduceLE, Int.reduceGT, Int.reduceGE, Int.reduceNeg, Int.reduceToNat] <;> (repeat ((with_reducible refine And.intro ?_ ?_); (focus (first | omega | rfl | assumption | exact ⟨_, rfl, rfl⟩ | (simp only [List.length_take, List.length_map, List.length_append, List.length_cons, List.length_nil]; omega) | (simp; done)))))
theorem isOperator_ok (s : List UInt8) : PCall Try.prog 136 [.c (.d (.s s))] (.c (.d (.b (dec (s ∈ ops))))) := fun S => by
  refine acall_cw (rs := [.tmp 2]) Try.checked.mixed Try.func136 Try.ntmps136 rfl rfl rfl rfl rfl ?_
  simp -implicitDefEqProofs (disch := omega) only [go_sem, ↓reduceIte, Nat.reduceEqDiff, Nat.reduceAdd, Nat.reduceLeDiff, Nat.reduceSub, Nat.reduceMul, Nat.reduceBEq, Int.reduceEq, Int.reduceLT, Int.reduceLE, Int.reduceGT, Int.reduceGE, Int.reduceNeg, Int.reduceToNat]
  with_reducible refine split2 (fun hb => ?_) (fun hb => ?_) <;> have h := hb <;> (try simp only [decide_eq_true_eq, decide_eq_false_iff_not, Bool.not_eq_true, Bool.not_eq_false, Bool.not_eq_eq_eq_not, Bool.not_true, Bool.not_false, dec_eq_true, dec_eq_false, Classical.not_not] at h) <;> simp -implicitDefEqProofs (disch := omega) only [go_sem, hb, ↓reduceIte, Nat.reduceEqDiff, Nat.reduceAdd, Nat.reduceLeDiff, Nat.reduceSub, Nat.reduceMul, Nat.reduceBEq, Int.reduceEq, Int.reduceLT, Int.reduceLE, Int.reduceGT, Int.reduceGE, Int.reduceNeg, Int.reduceToNat] <;> (repeat ((with_reducible refine And.intro ?_ ?_); (focus (first | omega | rfl | assumption | exact ⟨_, rfl, rfl⟩ | (simp only [List.length_take, List.length_map, List.length_append, List.length_cons, List.length_nil]; omega) | (simp; done)))))
  · obtain ⟨b, rfl⟩ := List.length_eq_one_iff.1 (show s.length = 1 by omega)
    refine call_w (contains1_ok [43, 45, 42, 60, 61] b (by intro x; cases x)) ?_
    simp -implicitDefEqProofs (disch := omega) only [go_sem, ↓reduceIte, Nat.reduceEqDiff, Nat.reduceAdd, Nat.reduceLeDiff, Nat.reduceSub, Nat.reduceMul, Nat.reduceBEq, Int.reduceEq, Int.reduceLT, Int.reduceLE, Int.reduceGT, Int.reduceGE, Int.reduceNeg, Int.reduceToNat] <;> (repeat ((with_reducible refine And.intro ?_ ?_); (focus (first | omega | rfl | assumption | exact ⟨_, rfl, rfl⟩ | (simp only [List.length_take, List.length_map, List.length_append, List.length_cons, List.length_nil]; omega) | (simp; done)))))
    exact bool_eq (ops_idx b)
  · exact bool_eq (dec_false fun x => h (by rw [op_len x]; rfl)).symm
theorem isZeroType_ok (t : MType) : PCall Try.prog 137 [t.v] (.c (.d (.b (dec (zeroT t))))) := fun S => by
  refine acall_cw (rs := [.tmp 2]) Try.checked.mixed Try.func137 Try.ntmps137 rfl rfl rfl rfl rfl ?_
  simp -implicitDefEqProofs (disch := omega) only [go_sem, ↓reduceIte, Nat.reduceEqDiff, Nat.reduceAdd, Nat.reduceLeDiff, Nat.reduceSub, Nat.reduceMul, Nat.reduceBEq, Int.reduceEq, Int.reduceLT, Int.reduceLE, Int.reduceGT, Int.reduceGE, Int.reduceNeg, Int.reduceToNat]
  repeat' (first
    | with_reducible refine split2 (fun hb => ?_) (fun hb => ?_) <;> have h := hb <;> (try simp only [decide_eq_true_eq, decide_eq_false_iff_not, Bool.not_eq_true, Bool.not_eq_false, Bool.not_eq_eq_eq_not, Bool.not_true, Bool.not_false, dec_eq_true, dec_eq_false, Classical.not_not] at h) <;> simp -implicitDefEqProofs (disch := omega) only [go_sem, hb, ↓reduceIte, Nat.reduceEqDiff, Nat.reduceAdd, Nat.reduceLeDiff, Nat.reduceSub, Nat.reduceMul, Nat.reduceBEq, Int.reduceEq, Int.reduceLT, Int.reduceLE, Int.reduceGT, Int.reduceGE, Int.reduceNeg, Int.reduceToNat] <;> (repeat ((with_reducible refine And.intro ?_ ?_); (focus (first | omega | rfl | assumption | exact ⟨_, rfl, rfl⟩ | (simp only [List.length_take, List.length_map, List.length_append, List.length_cons, List.length_nil]; omega) | (simp; done)))))
    | (refine bool_eq ?_; unfold zeroT; grind [dec_true, dec_false, of_dec, of_dec_false]))
theorem argCount_ok (k : Int) : PCall Try.prog 135 [.c (.d (.i .i64 k))] (.tup [(false, [.d (.i .i64 (argLo k))]), (false, [.d (.i .i64 (argHi k))])]) := fun S => by
  refine acall_cw (rs := [.tmp 2, .tmp 3]) Try.checked.mixed Try.func135 Try.ntmps135 rfl rfl rfl rfl rfl ?_
  simp -implicitDefEqProofs (disch := omega) only [go_sem, ↓reduceIte, Nat.reduceEqDiff, Nat.reduceAdd, Nat.reduceLeDiff, Nat.reduceSub, Nat.reduceMul, Nat.reduceBEq, Int.reduceEq, Int.reduceLT, Int.reduceLE, Int.reduceGT, Int.reduceGE, Int.reduceNeg, Int.reduceToNat]
  repeat' (first
    | with_reducible refine split2 (fun hb => ?_) (fun hb => ?_) <;> have h := hb <;> (try simp only [decide_eq_true_eq, decide_eq_false_iff_not, Bool.not_eq_true, Bool.not_eq_false, Bool.not_eq_eq_eq_not, Bool.not_true, Bool.not_false, dec_eq_true, dec_eq_false, Classical.not_not] at h) <;> simp -implicitDefEqProofs (disch := omega) only [go_sem, hb, ↓reduceIte, Nat.reduceEqDiff, Nat.reduceAdd, Nat.reduceLeDiff, Nat.reduceSub, Nat.reduceMul, Nat.reduceBEq, Int.reduceEq, Int.reduceLT, Int.reduceLE, Int.reduceGT, Int.reduceGE, Int.reduceNeg, Int.reduceToNat] <;> (repeat ((with_reducible refine And.intro ?_ ?_); (focus (first | omega | rfl | assumption | exact ⟨_, rfl, rfl⟩ | (simp only [List.length_take, List.length_map, List.length_append, List.length_cons, List.length_nil]; omega) | (simp; done)))))
    | (unfold argLo argHi; grind))
end Go.Proofs.Ytjfhgcnoielpfaa
