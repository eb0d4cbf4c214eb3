/-
  CONTRACTS: the place of a package by its name, the program's and the reference's.
-/
import Derived.Test.YtjfhgcnoielpfaaSl
import Derived.Test.YtjfhgcnoielpfaaLhProgram
set_option linter.unusedSimpArgs false
set_option linter.unusedVariables false
set_option maxRecDepth 4000
namespace Go.Ab
theorem MProgram.bounds {x : MProgram} (h : x.sz ≤ 4194304) : x.fPackages.length ≤ 4194304 := by
  simp only [MProgram.sz, MProgram.enc_eq, szRow, szRow_append, D.sz, List.length_map] at h
  omega
def pkgIndex (w : MProgram) (name : List UInt8) : Int := indexP (fun p : MPackage => decide (p.fName = name)) w.fPackages
end Go.Ab
namespace Go.Proofs.Ytjfhgcnoielpfaa
open Go Go.Ab

theorem specPkgIndex_ok (w : MProgram) (name : List UInt8) (hsz : w.sz ≤ 4194304) : PCall Try.prog 27 [w.v, .c (.d (.s name))] (.c (.d (.i .i64 (pkgIndex w name)))) := fun S => by
  have hb0 := MProgram.bounds hsz
  refine acall_cw (rs := [.tmp 4]) Try.checked.mixed Try.func27 Try.ntmps27 rfl rfl rfl rfl rfl ?_
  simp -implicitDefEqProofs (disch := omega) only [go_sem, ↓reduceIte, Nat.reduceEqDiff, Nat.reduceAdd, Nat.reduceLeDiff, Nat.reduceSub, Nat.reduceMul, Nat.reduceBEq, Int.reduceEq, Int.reduceLT, Int.reduceLE, Int.reduceGT, Int.reduceGE, Int.reduceNeg]
  refine loop_at (ι := Nat) Try.checked.mixed rfl [1, 2, 5] (fun i => [.c (.d (.s name)), .c (.ptr (0, 0) 0), .c (.d (.i .i64 i))]) (fun _ => [.box (w.enc.map .d)] :: S)
    (fun i => i ≤ w.fPackages.length ∧ ∀ j, ∀ hj : j < w.fPackages.length, j < i → (fun p : MPackage => decide (p.fName = name)) w.fPackages[j] = false) (fun i => w.fPackages.length - i) 0 rfl ?_ ⟨Nat.zero_le _, fun j _ h => by omega⟩ ?_
  · simp -implicitDefEqProofs (disch := omega) only [go_sem, ↓reduceIte, Nat.reduceEqDiff, Nat.reduceAdd, Nat.reduceLeDiff, Nat.reduceSub, Nat.reduceMul, Nat.reduceBEq, Int.reduceEq, Int.reduceLT, Int.reduceLE, Int.reduceGT, Int.reduceGE, Int.reduceNeg]
  rintro i ⟨p1, p2⟩
  simp -implicitDefEqProofs (disch := omega) only [go_sem, ↓reduceIte, Nat.reduceEqDiff, Nat.reduceAdd, Nat.reduceLeDiff, Nat.reduceSub, Nat.reduceMul, Nat.reduceBEq, Int.reduceEq, Int.reduceLT, Int.reduceLE, Int.reduceGT, Int.reduceGE, Int.reduceNeg]
  refine split2 (fun hb => ?_) (fun hb => ?_) <;> have h := hb <;> (try simp only [decide_eq_true_eq, decide_eq_false_iff_not, Bool.not_eq_true, Bool.not_eq_false, Bool.not_eq_eq_eq_not, Bool.not_true, Bool.not_false, dec_eq_true, dec_eq_false, Classical.not_not] at h) <;> simp -implicitDefEqProofs (disch := omega) only [go_sem, hb, ↓reduceIte, Nat.reduceEqDiff, Nat.reduceAdd, Nat.reduceLeDiff, Nat.reduceSub, Nat.reduceMul, Nat.reduceBEq, Int.reduceEq, Int.reduceLT, Int.reduceLE, Int.reduceGT, Int.reduceGE, Int.reduceNeg] <;> (repeat ((with_reducible refine And.intro ?_ ?_); (focus (first | omega | rfl | assumption | exact ⟨_, rfl, rfl⟩ | (simp only [List.length_take, List.length_map, List.length_append, List.length_cons, List.length_nil]; omega) | (simp; done)))))
  · have hi : i < w.fPackages.length := by omega
    (repeat ((with_reducible refine And.intro ?_ ?_); (focus (first | omega | rfl | assumption | exact ⟨_, rfl, rfl⟩ | (simp only [List.length_take, List.length_map, List.length_append, List.length_cons, List.length_nil]; omega) | (simp; done)))))
    refine split2 (fun hb => ?_) (fun hb => ?_) <;> have h := hb <;> (try simp only [decide_eq_true_eq, decide_eq_false_iff_not, Bool.not_eq_true, Bool.not_eq_false, Bool.not_eq_eq_eq_not, Bool.not_true, Bool.not_false, dec_eq_true, dec_eq_false, Classical.not_not] at h) <;> simp -implicitDefEqProofs (disch := omega) only [go_sem, hb, ↓reduceIte, Nat.reduceEqDiff, Nat.reduceAdd, Nat.reduceLeDiff, Nat.reduceSub, Nat.reduceMul, Nat.reduceBEq, Int.reduceEq, Int.reduceLT, Int.reduceLE, Int.reduceGT, Int.reduceGE, Int.reduceNeg] <;> (repeat ((with_reducible refine And.intro ?_ ?_); (focus (first | omega | rfl | assumption | exact ⟨_, rfl, rfl⟩ | (simp only [List.length_take, List.length_map, List.length_append, List.length_cons, List.length_nil]; omega) | (simp; done)))))
    · unfold pkgIndex
      rw [indexP_here (p := fun p : MPackage => decide (p.fName = name)) hi p2 hb]
    · refine inv_at (i + 1) (by omega) rfl rfl ⟨by omega, fun j hj hji => ?_⟩
      by_cases e : j = i
      · subst e; exact hb
      · exact p2 j hj (by omega)
  · unfold pkgIndex
    rw [indexP_no (p := fun p : MPackage => decide (p.fName = name)) (fun j hj => p2 j hj (by omega))]
theorem pkgIndex1_pure (name : List UInt8) (cs : List C) (rest : List Ab.Obj) (S : Store) (p : MPackage) : FPure Try.prog 74 [((0, 1), 0)] ((.box cs :: .box [.d (.s name)] :: rest) :: S) [p.v] (.c (.d (.b (decide (p.fName = name))))) := fun F => by
  refine acall_cw (rs := [.tmp 3]) Try.checked.mixed Try.func74 Try.ntmps74 rfl rfl rfl rfl rfl ?_
  simp -implicitDefEqProofs (disch := omega) only [go_sem, ↓reduceIte, Nat.reduceEqDiff, Nat.reduceAdd, Nat.reduceLeDiff, Nat.reduceSub, Nat.reduceMul, Nat.reduceBEq, Int.reduceEq, Int.reduceLT, Int.reduceLE, Int.reduceGT, Int.reduceGE, Int.reduceNeg]
theorem implPkgIndex_ok (w : MProgram) (name : List UInt8) (hsz : w.sz ≤ 4194304) : PCall Try.prog 29 [w.v, .c (.d (.s name))] (.c (.d (.i .i64 (pkgIndex w name)))) := fun S => by
  have hb0 := MProgram.bounds hsz
  refine acall_cw (rs := [.tmp 4]) Try.checked.mixed Try.func29 Try.ntmps29 rfl rfl rfl rfl rfl ?_
  simp -implicitDefEqProofs (disch := omega) only [go_sem, ↓reduceIte, Nat.reduceEqDiff, Nat.reduceAdd, Nat.reduceLeDiff, Nat.reduceSub, Nat.reduceMul, Nat.reduceBEq, Int.reduceEq, Int.reduceLT, Int.reduceLE, Int.reduceGT, Int.reduceGE, Int.reduceNeg]
  refine call_d rfl (indexFuncPackage_ok 74 [((0, 1), 0)] _ w.fPackages (fun p => decide (p.fName = name)) (by omega) fun p hp => pkgIndex1_pure name _ [] S p) ?_
  simp -implicitDefEqProofs (disch := omega) only [go_sem, ↓reduceIte, Nat.reduceEqDiff, Nat.reduceAdd, Nat.reduceLeDiff, Nat.reduceSub, Nat.reduceMul, Nat.reduceBEq, Int.reduceEq, Int.reduceLT, Int.reduceLE, Int.reduceGT, Int.reduceGE, Int.reduceNeg]
  rfl
end Go.Proofs.Ytjfhgcnoielpfaa
