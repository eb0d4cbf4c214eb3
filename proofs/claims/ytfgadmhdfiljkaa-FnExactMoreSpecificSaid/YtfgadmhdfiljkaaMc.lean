/-
  CONTRACTS: looking up a variable in a list of bindings, the program's and the reference's.
-/
import Derived.Test.YtfgadmhdfiljkaaMb
set_option linter.unusedSimpArgs false
set_option linter.unusedVariables false
set_option maxRecDepth 4000
namespace Go.Proofs.Ytfgadmhdfiljkaa
open Go Go.Ab

/-- What a lookup answers. -/
def lookR : Option MType → V
  | some u => .tup [(true, [.d (.i .i64 u.fKind), .d (.s u.fName), .d (.sl (u.fArgs.map MType.enc))]), (false, [.d (.b true)])]
  | none => .tup [(true, [.d (.i .i64 0), .d (.s []), .fsl []]), (false, [.d (.b false)])]

theorem lookR_some {u : MType} : lookR (some u) = .tup [(true, [.d (.i .i64 u.fKind), .d (.s u.fName), .d (.sl (u.fArgs.map MType.enc))]), (false, [.d (.b true)])] := rfl
theorem lookR_none : lookR none = .tup [(true, [.d (.i .i64 0), .d (.s []), .fsl []]), (false, [.d (.b false)])] := rfl

theorem lookup_here {bs : List MBinding} {v : List UInt8} {i : Nat} (hi : i < bs.length) (hj : ∀ j, j < i → ∀ h : j < bs.length, bs[j].fVar ≠ v) (h : bs[i].fVar = v) : lookupB bs v = some bs[i].fType := by
  induction bs generalizing i with
  | nil => simp at hi
  | cons b bs ih =>
    rw [lookupB]
    cases i with
    | zero => simp at h; simp [h]
    | succ i =>
      have := hj 0 (by omega) (by simp)
      simp at this
      rw [if_neg this]
      simpa using ih (by simpa using hi) (fun j h1 h2 => by
        have := hj (j + 1) (by omega) (by simpa using h2)
        rwa [List.getElem_cons_succ] at this) (by simpa using h)
theorem lookup_no {bs : List MBinding} {v : List UInt8} (hj : ∀ j, ∀ h : j < bs.length, bs[j].fVar ≠ v) : lookupB bs v = none := by
  induction bs with
  | nil => rfl
  | cons b bs ih =>
    rw [lookupB]
    have := hj 0 (by simp)
    simp at this
    rw [if_neg this]
    exact ih (fun j h => by
      have := hj (j + 1) (by simpa using h)
      rwa [List.getElem_cons_succ] at this)

theorem specLookup_ok (bs : List MBinding) (v : List UInt8) (hsz : ∀ b ∈ bs, b.fType.sz ≤ 4194304) (hlen : bs.length ≤ 1073741824) : PCall Try.prog 103 [.c (.d (.sl (bs.map MBinding.enc))), .c (.d (.s v))] (lookR (lookupB bs v)) := fun S => by
  refine acall_cw (rs := [.cell 4 31, .tmp 5]) Try.checked.mixed Try.func103 Try.ntmps103 rfl rfl rfl rfl rfl ?_
  simp -implicitDefEqProofs (disch := omega) only [go_sem, ↓reduceIte, Nat.reduceEqDiff, Nat.reduceAdd, Nat.reduceLeDiff, Nat.reduceSub, Nat.reduceMul, Nat.reduceBEq]
  (repeat ((with_reducible refine And.intro ?_ ?_); (focus (first | omega | rfl | assumption | exact ⟨_, rfl, rfl⟩ | (simp only [List.length_take, List.length_map, List.length_append, List.length_cons, List.length_nil]; omega) | (simp; done)))))
  refine loop_at (ι := Nat) Try.checked.mixed rfl [0, 1, 4, 6] (fun i => [.c (.d (.sl (bs.map MBinding.enc))), .c (.d (.s v)), .c (.ptr (0, 0) 0), .c (.d (.i .i64 i))]) (fun _ => [.box [.d (.i .i64 0), .d (.s []), .fsl []]] :: S)
    (fun i => i ≤ bs.length ∧ ∀ j, j < i → ∀ h : j < bs.length, bs[j].fVar ≠ v) (fun i => bs.length - i) 0 rfl rfl ⟨Nat.zero_le _, fun j h => by omega⟩ ?_
  rintro i ⟨p1, p2⟩
  simp -implicitDefEqProofs (disch := omega) only [go_sem, ↓reduceIte, Nat.reduceEqDiff, Nat.reduceAdd, Nat.reduceLeDiff, Nat.reduceSub, Nat.reduceMul, Nat.reduceBEq]
  refine split2 (fun hb => ?_) (fun hb => ?_) <;> have h := hb <;> simp only [decide_eq_true_eq, decide_eq_false_iff_not, Bool.not_eq_true, Bool.not_eq_false, Bool.not_eq_eq_eq_not, Bool.not_true, Bool.not_false, dec_eq_true, dec_eq_false, Classical.not_not] at h <;> simp -implicitDefEqProofs (disch := omega) only [go_sem, hb, ↓reduceIte, Nat.reduceEqDiff, Nat.reduceAdd, Nat.reduceLeDiff, Nat.reduceSub, Nat.reduceMul, Nat.reduceBEq] <;> (repeat ((with_reducible refine And.intro ?_ ?_); (focus (first | omega | rfl | assumption | exact ⟨_, rfl, rfl⟩ | (simp only [List.length_take, List.length_map, List.length_append, List.length_cons, List.length_nil]; omega) | (simp; done)))))
  · have hi : i < bs.length := by omega
    have ht := hsz bs[i] (List.getElem_mem hi)
    refine split2 (fun hb => ?_) (fun hb => ?_) <;> have h := hb <;> simp only [decide_eq_true_eq, decide_eq_false_iff_not, Bool.not_eq_true, Bool.not_eq_false, Bool.not_eq_eq_eq_not, Bool.not_true, Bool.not_false, dec_eq_true, dec_eq_false, Classical.not_not] at h <;> simp -implicitDefEqProofs (disch := omega) only [go_sem, hb, ↓reduceIte, Nat.reduceEqDiff, Nat.reduceAdd, Nat.reduceLeDiff, Nat.reduceSub, Nat.reduceMul, Nat.reduceBEq] <;> (repeat ((with_reducible refine And.intro ?_ ?_); (focus (first | omega | rfl | assumption | exact ⟨_, rfl, rfl⟩ | (simp only [List.length_take, List.length_map, List.length_append, List.length_cons, List.length_nil]; omega) | (simp; done)))))
    · refine call_w (l4Copy_ok bs[i].fType (by omega)) ?_
      simp -implicitDefEqProofs (disch := omega) only [go_sem, ↓reduceIte, Nat.reduceEqDiff, Nat.reduceAdd, Nat.reduceLeDiff, Nat.reduceSub, Nat.reduceMul, Nat.reduceBEq] <;> (repeat ((with_reducible refine And.intro ?_ ?_); (focus (first | omega | rfl | assumption | exact ⟨_, rfl, rfl⟩ | (simp only [List.length_take, List.length_map, List.length_append, List.length_cons, List.length_nil]; omega) | (simp; done)))))
      rw [lookup_here hi p2 h]
      rfl
    · refine inv_at (i + 1) (by omega) rfl rfl ⟨by omega, fun j hj hl => ?_⟩
      by_cases e : j = i
      · subst e; exact h
      · exact p2 j (by omega) hl
  · (repeat ((with_reducible refine And.intro ?_ ?_); (focus (first | omega | rfl | assumption | exact ⟨_, rfl, rfl⟩ | (simp only [List.length_take, List.length_map, List.length_append, List.length_cons, List.length_nil]; omega) | (simp; done)))))
    rw [lookup_no (fun j hl => p2 j (by omega) hl)]
    rfl
theorem implLookup_ok (bs : List MBinding) (v : List UInt8) (hsz : ∀ b ∈ bs, b.fType.sz ≤ 4194304) (hlen : bs.length ≤ 1073741824) : PCall Try.prog 115 [.c (.d (.sl (bs.map MBinding.enc))), .c (.d (.s v))] (lookR (lookupB bs v)) := fun S => by
  refine acall_cw (rs := [.cell 4 31, .tmp 5]) Try.checked.mixed Try.func115 Try.ntmps115 rfl rfl rfl rfl rfl ?_
  simp -implicitDefEqProofs (disch := omega) only [go_sem, ↓reduceIte, Nat.reduceEqDiff, Nat.reduceAdd, Nat.reduceLeDiff, Nat.reduceSub, Nat.reduceMul, Nat.reduceBEq]
  (repeat ((with_reducible refine And.intro ?_ ?_); (focus (first | omega | rfl | assumption | exact ⟨_, rfl, rfl⟩ | (simp only [List.length_take, List.length_map, List.length_append, List.length_cons, List.length_nil]; omega) | (simp; done)))))
  refine loop_at (ι := Nat) Try.checked.mixed rfl [1, 4, 8, 9, 10] (fun i => [.c (.d (.s v)), .c (.ptr (0, 0) 0), .c (.d (.sl (bs.map MBinding.enc))), .c (.d (.i .i64 bs.length)), .c (.d (.i .i64 i))]) (fun _ => [.box [.d (.i .i64 0), .d (.s []), .fsl []]] :: S)
    (fun i => i ≤ bs.length ∧ ∀ j, j < i → ∀ h : j < bs.length, bs[j].fVar ≠ v) (fun i => bs.length - i) 0 rfl rfl ⟨Nat.zero_le _, fun j h => by omega⟩ ?_
  rintro i ⟨p1, p2⟩
  simp -implicitDefEqProofs (disch := omega) only [go_sem, ↓reduceIte, Nat.reduceEqDiff, Nat.reduceAdd, Nat.reduceLeDiff, Nat.reduceSub, Nat.reduceMul, Nat.reduceBEq]
  refine split2 (fun hb => ?_) (fun hb => ?_) <;> have h := hb <;> simp only [decide_eq_true_eq, decide_eq_false_iff_not, Bool.not_eq_true, Bool.not_eq_false, Bool.not_eq_eq_eq_not, Bool.not_true, Bool.not_false, dec_eq_true, dec_eq_false, Classical.not_not] at h <;> simp -implicitDefEqProofs (disch := omega) only [go_sem, hb, ↓reduceIte, Nat.reduceEqDiff, Nat.reduceAdd, Nat.reduceLeDiff, Nat.reduceSub, Nat.reduceMul, Nat.reduceBEq] <;> (repeat ((with_reducible refine And.intro ?_ ?_); (focus (first | omega | rfl | assumption | exact ⟨_, rfl, rfl⟩ | (simp only [List.length_take, List.length_map, List.length_append, List.length_cons, List.length_nil]; omega) | (simp; done)))))
  · have hi : i < bs.length := by omega
    have ht := hsz bs[i] (List.getElem_mem hi)
    refine split2 (fun hb => ?_) (fun hb => ?_) <;> have h := hb <;> simp only [decide_eq_true_eq, decide_eq_false_iff_not, Bool.not_eq_true, Bool.not_eq_false, Bool.not_eq_eq_eq_not, Bool.not_true, Bool.not_false, dec_eq_true, dec_eq_false, Classical.not_not] at h <;> simp -implicitDefEqProofs (disch := omega) only [go_sem, hb, ↓reduceIte, Nat.reduceEqDiff, Nat.reduceAdd, Nat.reduceLeDiff, Nat.reduceSub, Nat.reduceMul, Nat.reduceBEq] <;> (repeat ((with_reducible refine And.intro ?_ ?_); (focus (first | omega | rfl | assumption | exact ⟨_, rfl, rfl⟩ | (simp only [List.length_take, List.length_map, List.length_append, List.length_cons, List.length_nil]; omega) | (simp; done)))))
    · refine call_w (copyType_ok bs[i].fType (by omega)) ?_
      simp -implicitDefEqProofs (disch := omega) only [go_sem, ↓reduceIte, Nat.reduceEqDiff, Nat.reduceAdd, Nat.reduceLeDiff, Nat.reduceSub, Nat.reduceMul, Nat.reduceBEq] <;> (repeat ((with_reducible refine And.intro ?_ ?_); (focus (first | omega | rfl | assumption | exact ⟨_, rfl, rfl⟩ | (simp only [List.length_take, List.length_map, List.length_append, List.length_cons, List.length_nil]; omega) | (simp; done)))))
      rw [lookup_here hi p2 h]
      rfl
    · refine inv_drop 1 (by decide) (i + 1) (by omega) rfl rfl rfl rfl ⟨by omega, fun j hj hl => ?_⟩
      by_cases e : j = i
      · subst e; exact h
      · exact p2 j (by omega) hl
  · rw [lookup_no (fun j hl => p2 j (by omega) hl)]
    rfl
end Go.Proofs.Ytfgadmhdfiljkaa
