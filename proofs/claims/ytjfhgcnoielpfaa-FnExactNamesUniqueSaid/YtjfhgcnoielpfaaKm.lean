/-
  SEVERAL TEXTS IN ONE (merged by program): contracts and models, each with its own heading.
-/
import Derived.Test.YtjfhgcnoielpfaaSl
import Derived.Test.YtjfhgcnoielpfaaLhProgram
import Derived.Test.YtjfhgcnoielpfaaDa
import Derived.Test.YtjfhgcnoielpfaaIa
set_option linter.unusedSimpArgs false
set_option linter.unusedVariables false
set_option maxRecDepth 4000
/- CONTRACTS: the place of a package by its name, the program's and the reference's. -/
namespace Go.Ab
theorem MProgram.bounds {x : MProgram} (h : x.sz ≤ 4194304) : x.fPackages.length ≤ 4194304 := by
  simp only [MProgram.sz, MProgram.enc_eq, szRow, szRow_append, D.sz, List.length_map] at h
  omega
def pkgIndex (w : MProgram) (name : List UInt8) : Int := indexP (fun p : MPackage => decide (p.fName = name)) w.fPackages
end Go.Ab
namespace Go.Proofs.Ytjfhgcnoielpfaa
open Go Go.Ab

theorem specPkgIndex_ok (w : MProgram) (name : List UInt8) (hsz : w.sz ≤ 4194304) : PCall Try.prog 27 [w.v, .c (.d (.s name))] (.c (.d (.i .i64 (pkgIndex w name)))) := fun S => by
  have hb0 := MProgram.bounds hsz
  refine acall_cw (rs := [.tmp 4]) Try.checked.mixed Try.func27 Try.ntmps27 rfl rfl rfl rfl rfl ?_
  simp -implicitDefEqProofs (disch := omega) only [go_sem, ↓reduceIte, Nat.reduceEqDiff, Nat.reduceAdd, Nat.reduceLeDiff, Nat.reduceSub, Nat.reduceMul, Nat.reduceBEq, Int.reduceEq, Int.reduceLT, Int.reduceLE, Int.reduceGT, Int.reduceGE, Int.reduceNeg, Int.reduceToNat]
  refine loop_at (ι := Nat) Try.checked.mixed rfl [1, 2, 5] (fun i => [.c (.d (.s name)), .c (.ptr (0, 0) 0), .c (.d (.i .i64 i))]) (fun _ => [.box (w.enc.map .d)] :: S)
    (fun i => i ≤ w.fPackages.length ∧ ∀ j, ∀ hj : j < w.fPackages.length, j < i → (fun p : MPackage => decide (p.fName = name)) w.fPackages[j] = false) (fun i => w.fPackages.length - i) 0 rfl ?_ ⟨Nat.zero_le _, fun j _ h => by omega⟩ ?_
  · simp -implicitDefEqProofs (disch := omega) only [go_sem, ↓reduceIte, Nat.reduceEqDiff, Nat.reduceAdd, Nat.reduceLeDiff, Nat.reduceSub, Nat.reduceMul, Nat.reduceBEq, Int.reduceEq, Int.reduceLT, Int.reduceLE, Int.reduceGT, Int.reduceGE, Int.reduceNeg, Int.reduceToNat]
  rintro i ⟨p1, p2⟩
  simp -implicitDefEqProofs (disch := omega) only [go_sem, ↓reduceIte, Nat.reduceEqDiff, Nat.reduceAdd, Nat.reduceLeDiff, Nat.reduceSub, Nat.reduceMul, Nat.reduceBEq, Int.reduceEq, Int.reduceLT, Int.reduceLE, Int.reduceGT, Int.reduceGE, Int.reduceNeg, Int.reduceToNat]
  refine split2 (fun hb => ?_) (fun hb => ?_) <;> have h := hb <;> (try simp only [decide_eq_true_eq, decide_eq_false_iff_not, Bool.not_eq_true, Bool.not_eq_false, Bool.not_eq_eq_eq_not, Bool.not_true, Bool.not_false, dec_eq_true, dec_eq_false, Classical.not_not] at h) <;> simp -implicitDefEqProofs (disch := omega) only [go_sem, hb, ↓reduceIte, Nat.reduceEqDiff, Nat.reduceAdd, Nat.reduceLeDiff, Nat.reduceSub, Nat.reduceMul, Nat.reduceBEq, Int.reduceEq, Int.reduceLT, Int.reduceLE, Int.reduceGT, Int.reduceGE, Int.reduceNeg, Int.reduceToNat] <;> (repeat ((with_reducible refine And.intro ?_ ?_); (focus (first | omega | rfl | assumption | exact ⟨_, rfl, rfl⟩ | (simp only [List.length_take, List.length_map, List.length_append, List.length_cons, List.length_nil]; omega) | (simp; done)))))
  · have hi : i < w.fPackages.length := by omega
    (repeat ((with_reducible refine And.intro ?_ ?_); (focus (first | omega | rfl | assumption | exact ⟨_, rfl, rfl⟩ | (simp only [List.length_take, List.length_map, List.length_append, List.length_cons, List.length_nil]; omega) | (simp; done)))))
    refine split2 (fun hb => ?_) (fun hb => ?_) <;> have h := hb <;> (try simp only [decide_eq_true_eq, decide_eq_false_iff_not, Bool.not_eq_true, Bool.not_eq_false, Bool.not_eq_eq_eq_not, Bool.not_true, Bool.not_false, dec_eq_true, dec_eq_false, Classical.not_not] at h) <;> simp -implicitDefEqProofs (disch := omega) only [go_sem, hb, ↓reduceIte, Nat.reduceEqDiff, Nat.reduceAdd, Nat.reduceLeDiff, Nat.reduceSub, Nat.reduceMul, Nat.reduceBEq, Int.reduceEq, Int.reduceLT, Int.reduceLE, Int.reduceGT, Int.reduceGE, Int.reduceNeg, Int.reduceToNat] <;> (repeat ((with_reducible refine And.intro ?_ ?_); (focus (first | omega | rfl | assumption | exact ⟨_, rfl, rfl⟩ | (simp only [List.length_take, List.length_map, List.length_append, List.length_cons, List.length_nil]; omega) | (simp; done)))))
    · unfold pkgIndex
      rw [indexP_here (p := fun p : MPackage => decide (p.fName = name)) hi p2 hb]
    · refine inv_at (i + 1) (by omega) rfl rfl ⟨by omega, fun j hj hji => ?_⟩
      by_cases e : j = i
      · subst e; exact hb
      · exact p2 j hj (by omega)
  · unfold pkgIndex
    rw [indexP_no (p := fun p : MPackage => decide (p.fName = name)) (fun j hj => p2 j hj (by omega))]
theorem pkgIndex1_pure (name : List UInt8) (cs : List C) (rest : List Ab.Obj) (S : Store) (p : MPackage) : FPure Try.prog 74 [((0, 1), 0)] ((.box cs :: .box [.d (.s name)] :: rest) :: S) [p.v] (.c (.d (.b (decide (p.fName = name))))) := fun F => by
  refine acall_cw (rs := [.tmp 3]) Try.checked.mixed Try.func74 Try.ntmps74 rfl rfl rfl rfl rfl ?_
  simp -implicitDefEqProofs (disch := omega) only [go_sem, ↓reduceIte, Nat.reduceEqDiff, Nat.reduceAdd, Nat.reduceLeDiff, Nat.reduceSub, Nat.reduceMul, Nat.reduceBEq, Int.reduceEq, Int.reduceLT, Int.reduceLE, Int.reduceGT, Int.reduceGE, Int.reduceNeg, Int.reduceToNat]
theorem implPkgIndex_ok (w : MProgram) (name : List UInt8) (hsz : w.sz ≤ 4194304) : PCall Try.prog 29 [w.v, .c (.d (.s name))] (.c (.d (.i .i64 (pkgIndex w name)))) := fun S => by
  have hb0 := MProgram.bounds hsz
  refine acall_cw (rs := [.tmp 4]) Try.checked.mixed Try.func29 Try.ntmps29 rfl rfl rfl rfl rfl ?_
  simp -implicitDefEqProofs (disch := omega) only [go_sem, ↓reduceIte, Nat.reduceEqDiff, Nat.reduceAdd, Nat.reduceLeDiff, Nat.reduceSub, Nat.reduceMul, Nat.reduceBEq, Int.reduceEq, Int.reduceLT, Int.reduceLE, Int.reduceGT, Int.reduceGE, Int.reduceNeg, Int.reduceToNat]
  refine call_d rfl (indexFuncPackage_ok 74 [((0, 1), 0)] _ w.fPackages (fun p => decide (p.fName = name)) (by omega) fun p hp => pkgIndex1_pure name _ [] S p) ?_
  simp -implicitDefEqProofs (disch := omega) only [go_sem, ↓reduceIte, Nat.reduceEqDiff, Nat.reduceAdd, Nat.reduceLeDiff, Nat.reduceSub, Nat.reduceMul, Nat.reduceBEq, Int.reduceEq, Int.reduceLT, Int.reduceLE, Int.reduceGT, Int.reduceGE, Int.reduceNeg, Int.reduceToNat]
  rfl
end Go.Proofs.Ytjfhgcnoielpfaa

/- MODELS: the names that packages declare. No program in sight. -/
namespace Go.Ab
def trNames (p : MPackage) : List (List UInt8) := p.fTraits.map MTrait.fName
def dtNames (p : MPackage) : List (List UInt8) := p.fDataTypes.map MDataType.fName
def ctNames (ds : List MDataType) : List (List UInt8) := ds.flatMap fun d => d.fConstructors.map MConstructor.fName
def fnNames (p : MPackage) : List (List UInt8) := p.fFunctions.map MFunction.fName
def allTr (ps : List MPackage) : List (List UInt8) := ps.flatMap trNames
def allDt (ps : List MPackage) : List (List UInt8) := ps.flatMap dtNames
def allCt (ps : List MPackage) : List (List UInt8) := ps.flatMap fun p => ctNames p.fDataTypes
def allFn (ps : List MPackage) : List (List UInt8) := ps.flatMap fnNames
noncomputable def namesUnique (ps : List MPackage) : Bool := dec (allTr ps).Nodup && (dec (allDt ps).Nodup && (dec (allCt ps).Nodup && dec (allFn ps).Nodup))

theorem flat_take {α β : Type} (f : α → List β) {xs : List α} {i : Nat} (hi : i < xs.length) : (xs.take (i + 1)).flatMap f = (xs.take i).flatMap f ++ f xs[i] := by
  rw [List.take_succ_eq_append_getElem hi, List.flatMap_append]
  simp
theorem flat_len_le {α β : Type} (f : α → List β) (g : α → List D) (h : ∀ x, (f x).length ≤ szRow (g x)) : ∀ xs : List α, (xs.flatMap f).length ≤ szRows (xs.map g)
  | [] => by simp [szRows]
  | x :: xs => by
    have h1 := h x
    have h2 := flat_len_le f g h xs
    rw [List.flatMap_cons, List.length_append, List.map_cons, szRows]
    omega
theorem ct_le (ds : List MDataType) : (ctNames ds).length ≤ szRows (ds.map MDataType.enc) := flat_len_le _ _ (fun d => by
  rw [List.length_map]
  simp only [MDataType.enc_eq, szRow, szRow_append, D.sz, List.length_map]
  omega) ds
theorem names_le (ps : List MPackage) : (allTr ps).length ≤ szRows (ps.map MPackage.enc) ∧ (allDt ps).length ≤ szRows (ps.map MPackage.enc) ∧ (allCt ps).length ≤ szRows (ps.map MPackage.enc) ∧ (allFn ps).length ≤ szRows (ps.map MPackage.enc) := by
  refine ⟨flat_len_le _ _ (fun p => ?_) ps, flat_len_le _ _ (fun p => ?_) ps, flat_len_le _ _ (fun p => ?_) ps, flat_len_le _ _ (fun p => ?_) ps⟩
  · simp only [trNames, MPackage.enc_eq, szRow, szRow_append, D.sz, List.length_map]; omega
  · simp only [dtNames, MPackage.enc_eq, szRow, szRow_append, D.sz, List.length_map]; omega
  · have := ct_le p.fDataTypes
    simp only [MPackage.enc_eq, szRow, szRow_append, D.sz, List.length_map]; omega
  · simp only [fnNames, MPackage.enc_eq, szRow, szRow_append, D.sz, List.length_map]; omega
theorem MPackage.bounds {x : MPackage} (h : x.sz ≤ 4194304) : x.fName.length ≤ 4194304 ∧ x.fDeps.length ≤ 4194304 ∧ x.fTraits.length ≤ 4194304 ∧ x.fDataTypes.length ≤ 4194304 ∧ x.fInstances.length ≤ 4194304 ∧ x.fFunctions.length ≤ 4194304 ∧ (ctNames x.fDataTypes).length ≤ 4194304 := by
  have := ct_le x.fDataTypes
  simp only [MPackage.sz, MPackage.enc_eq, szRow, szRow_append, D.sz, List.length_map] at h
  omega
end Go.Ab

/- CONTRACTS: are the declared names unique? the reference's. -/
namespace Go.Proofs.Ytjfhgcnoielpfaa
open Go Go.Ab

theorem snocS (xs : List (List UInt8)) (x : List UInt8) : xs.map encS ++ [[D.s x]] = (xs ++ [x]).map encS := by simp [encS]
theorem appS (xs ys : List (List UInt8)) : xs.map encS ++ ys.map encS = (xs ++ ys).map encS := by simp

theorem l15Names_ok (p : MPackage) (hsz : p.sz ≤ 4194304) : PCall Try.prog 76 [p.v] (.tup [(false, [.d (.sl ((trNames p).map encS))]), (false, [.d (.sl ((dtNames p).map encS))]), (false, [.d (.sl ((ctNames p.fDataTypes).map encS))]), (false, [.d (.sl ((fnNames p).map encS))])]) := fun S => by
  have hb0 := MPackage.bounds hsz
  refine acall_cw (rs := [.tmp 2, .tmp 3, .tmp 4, .tmp 5]) Try.checked.mixed Try.func76 Try.ntmps76 rfl rfl rfl rfl rfl ?_
  simp -implicitDefEqProofs (disch := omega) only [go_sem, ↓reduceIte, Nat.reduceEqDiff, Nat.reduceAdd, Nat.reduceLeDiff, Nat.reduceSub, Nat.reduceMul, Nat.reduceBEq, Int.reduceEq, Int.reduceLT, Int.reduceLE, Int.reduceGT, Int.reduceGE, Int.reduceNeg, Int.reduceToNat]
  (repeat ((with_reducible refine And.intro ?_ ?_); (focus (first | omega | rfl | assumption | exact ⟨_, rfl, rfl⟩ | (simp only [List.length_take, List.length_map, List.length_append, List.length_cons, List.length_nil]; omega) | (simp; done)))))
  refine aw_tok 6 1 [] rfl (by simp) ?_
  refine aw_tok 7 1 [] rfl (by simp) ?_
  refine aw_tok 8 1 [] rfl (by simp) ?_
  refine aw_tok 9 1 [] rfl (by simp) ?_
  refine loop_at (ι := Nat × List (List UInt8)) Try.checked.mixed rfl [1, 6, 7, 8, 9, 10] (fun y => [.c (.ptr (0, 0) 0), .c (.tsl (0, 1) (y.2.map encS)), .c (.tsl (0, 2) []), .c (.tsl (0, 3) []), .c (.tsl (0, 4) []), .c (.d (.i .i64 y.1))]) (fun y => [.box (p.enc.map .d), .tok 1 (y.2.map encS), .tok 1 [], .tok 1 [], .tok 1 []] :: S)
    (fun y => y.1 ≤ p.fTraits.length ∧ y.2 = (trNames p).take y.1) (fun y => p.fTraits.length - y.1) (0, []) rfl ?_ ⟨Nat.zero_le _, rfl⟩ ?_
  · simp -implicitDefEqProofs (disch := omega) only [go_sem, ↓reduceIte, Nat.reduceEqDiff, Nat.reduceAdd, Nat.reduceLeDiff, Nat.reduceSub, Nat.reduceMul, Nat.reduceBEq, Int.reduceEq, Int.reduceLT, Int.reduceLE, Int.reduceGT, Int.reduceGE, Int.reduceNeg, Int.reduceToNat]
  rintro ⟨i, a⟩ ⟨p1, p2⟩
  simp only at p1 p2
  have pl : a.length ≤ p.fTraits.length := by rw [p2]; simp [trNames]; omega
  simp -implicitDefEqProofs (disch := omega) only [go_sem, ↓reduceIte, Nat.reduceEqDiff, Nat.reduceAdd, Nat.reduceLeDiff, Nat.reduceSub, Nat.reduceMul, Nat.reduceBEq, Int.reduceEq, Int.reduceLT, Int.reduceLE, Int.reduceGT, Int.reduceGE, Int.reduceNeg, Int.reduceToNat]
  refine split2 (fun hb => ?_) (fun hb => ?_) <;> have h := hb <;> (try simp only [decide_eq_true_eq, decide_eq_false_iff_not, Bool.not_eq_true, Bool.not_eq_false, Bool.not_eq_eq_eq_not, Bool.not_true, Bool.not_false, dec_eq_true, dec_eq_false, Classical.not_not] at h) <;> simp -implicitDefEqProofs (disch := omega) only [go_sem, hb, ↓reduceIte, Nat.reduceEqDiff, Nat.reduceAdd, Nat.reduceLeDiff, Nat.reduceSub, Nat.reduceMul, Nat.reduceBEq, Int.reduceEq, Int.reduceLT, Int.reduceLE, Int.reduceGT, Int.reduceGE, Int.reduceNeg, Int.reduceToNat] <;> (repeat ((with_reducible refine And.intro ?_ ?_); (focus (first | omega | rfl | assumption | exact ⟨_, rfl, rfl⟩ | (simp only [List.length_take, List.length_map, List.length_append, List.length_cons, List.length_nil]; omega) | (simp; done)))))
  · have hi : i < p.fTraits.length := by omega
    (repeat ((with_reducible refine And.intro ?_ ?_); (focus (first | omega | rfl | assumption | exact ⟨_, rfl, rfl⟩ | (simp only [List.length_take, List.length_map, List.length_append, List.length_cons, List.length_nil]; omega) | (simp; done)))))
    rw [snocS]
    exact inv_at (i + 1, a ++ [p.fTraits[i].fName]) (by simp only; omega) rfl rfl ⟨by simp only; omega, by simp only; rw [p2, take_snoc (by simpa [trNames] using hi)]; simp [trNames]⟩
  have ha : a = trNames p := by rw [p2, List.take_of_length_le (by simp [trNames]; omega)]
  clear p1 p2 pl hb h
  subst ha
  refine loop_at (ι := Nat × List (List UInt8) × List (List UInt8)) Try.checked.mixed rfl [1, 6, 7, 8, 9, 11] (fun y => [.c (.ptr (0, 0) 0), .c (.tsl (0, 1) ((trNames p).map encS)), .c (.tsl (0, 2) (y.2.1.map encS)), .c (.tsl (0, 3) (y.2.2.map encS)), .c (.tsl (0, 4) []), .c (.d (.i .i64 y.1))]) (fun y => [.box (p.enc.map .d), .tok 1 ((trNames p).map encS), .tok 1 (y.2.1.map encS), .tok 1 (y.2.2.map encS), .tok 1 []] :: S)
    (fun y => y.1 ≤ p.fDataTypes.length ∧ y.2.1 = (dtNames p).take y.1 ∧ y.2.2 = ctNames (p.fDataTypes.take y.1)) (fun y => p.fDataTypes.length - y.1) (0, [], []) rfl ?_ ⟨Nat.zero_le _, rfl, rfl⟩ ?_
  · simp -implicitDefEqProofs (disch := omega) only [go_sem, ↓reduceIte, Nat.reduceEqDiff, Nat.reduceAdd, Nat.reduceLeDiff, Nat.reduceSub, Nat.reduceMul, Nat.reduceBEq, Int.reduceEq, Int.reduceLT, Int.reduceLE, Int.reduceGT, Int.reduceGE, Int.reduceNeg, Int.reduceToNat]
  rintro ⟨i, b, c⟩ ⟨p1, p2, p3⟩
  simp only at p1 p2 p3
  have pl : b.length ≤ p.fDataTypes.length := by rw [p2]; simp [dtNames]; omega
  simp -implicitDefEqProofs (disch := omega) only [go_sem, ↓reduceIte, Nat.reduceEqDiff, Nat.reduceAdd, Nat.reduceLeDiff, Nat.reduceSub, Nat.reduceMul, Nat.reduceBEq, Int.reduceEq, Int.reduceLT, Int.reduceLE, Int.reduceGT, Int.reduceGE, Int.reduceNeg, Int.reduceToNat]
  refine split2 (fun hb => ?_) (fun hb => ?_) <;> have h := hb <;> (try simp only [decide_eq_true_eq, decide_eq_false_iff_not, Bool.not_eq_true, Bool.not_eq_false, Bool.not_eq_eq_eq_not, Bool.not_true, Bool.not_false, dec_eq_true, dec_eq_false, Classical.not_not] at h) <;> simp -implicitDefEqProofs (disch := omega) only [go_sem, hb, ↓reduceIte, Nat.reduceEqDiff, Nat.reduceAdd, Nat.reduceLeDiff, Nat.reduceSub, Nat.reduceMul, Nat.reduceBEq, Int.reduceEq, Int.reduceLT, Int.reduceLE, Int.reduceGT, Int.reduceGE, Int.reduceNeg, Int.reduceToNat] <;> (repeat ((with_reducible refine And.intro ?_ ?_); (focus (first | omega | rfl | assumption | exact ⟨_, rfl, rfl⟩ | (simp only [List.length_take, List.length_map, List.length_append, List.length_cons, List.length_nil]; omega) | (simp; done)))))
  · have hi : i < p.fDataTypes.length := by omega
    have e3 : ctNames (p.fDataTypes.take (i + 1)) = c ++ p.fDataTypes[i].fConstructors.map MConstructor.fName := by rw [p3]; exact flat_take _ hi
    have hcl : (ctNames (p.fDataTypes.take (i + 1))).length ≤ 4194304 := by
      have h1 : (ctNames (p.fDataTypes.take (i + 1))).length ≤ (ctNames p.fDataTypes).length := by
        conv => rhs; rw [← List.take_append_drop (i + 1) p.fDataTypes]
        unfold ctNames
        rw [List.flatMap_append, List.length_append]
        omega
      omega
    rw [e3, List.length_append, List.length_map] at hcl
    (repeat ((with_reducible refine And.intro ?_ ?_); (focus (first | omega | rfl | assumption | exact ⟨_, rfl, rfl⟩ | (simp only [List.length_take, List.length_map, List.length_append, List.length_cons, List.length_nil]; omega) | (simp; done)))))
    rw [snocS]
    refine loop_at (ι := Nat × List (List UInt8)) Try.checked.mixed rfl [1, 6, 7, 8, 9, 11, 12] (fun y => [.c (.ptr (0, 0) 0), .c (.tsl (0, 1) ((trNames p).map encS)), .c (.tsl (0, 2) ((b ++ [p.fDataTypes[i].fName]).map encS)), .c (.tsl (0, 3) (y.2.map encS)), .c (.tsl (0, 4) []), .c (.d (.i .i64 i)), .c (.d (.i .i64 y.1))]) (fun y => [.box (p.enc.map .d), .tok 1 ((trNames p).map encS), .tok 1 ((b ++ [p.fDataTypes[i].fName]).map encS), .tok 1 (y.2.map encS), .tok 1 []] :: S)
      (fun y => y.1 ≤ p.fDataTypes[i].fConstructors.length ∧ y.2 = c ++ (p.fDataTypes[i].fConstructors.map MConstructor.fName).take y.1) (fun y => p.fDataTypes[i].fConstructors.length - y.1) (0, c) rfl ?_ ⟨Nat.zero_le _, by simp⟩ ?_
    · simp -implicitDefEqProofs (disch := omega) only [go_sem, ↓reduceIte, Nat.reduceEqDiff, Nat.reduceAdd, Nat.reduceLeDiff, Nat.reduceSub, Nat.reduceMul, Nat.reduceBEq, Int.reduceEq, Int.reduceLT, Int.reduceLE, Int.reduceGT, Int.reduceGE, Int.reduceNeg, Int.reduceToNat]
    rintro ⟨k, e⟩ ⟨q1, q2⟩
    simp only at q1 q2
    have pl2 : e.length ≤ 4194304 := by rw [q2]; simp; omega
    simp -implicitDefEqProofs (disch := omega) only [go_sem, ↓reduceIte, Nat.reduceEqDiff, Nat.reduceAdd, Nat.reduceLeDiff, Nat.reduceSub, Nat.reduceMul, Nat.reduceBEq, Int.reduceEq, Int.reduceLT, Int.reduceLE, Int.reduceGT, Int.reduceGE, Int.reduceNeg, Int.reduceToNat]
    (repeat ((with_reducible refine And.intro ?_ ?_); (focus (first | omega | rfl | assumption | exact ⟨_, rfl, rfl⟩ | (simp only [List.length_take, List.length_map, List.length_append, List.length_cons, List.length_nil]; omega) | (simp; done)))))
    refine split2 (fun hb => ?_) (fun hb => ?_) <;> have h := hb <;> (try simp only [decide_eq_true_eq, decide_eq_false_iff_not, Bool.not_eq_true, Bool.not_eq_false, Bool.not_eq_eq_eq_not, Bool.not_true, Bool.not_false, dec_eq_true, dec_eq_false, Classical.not_not] at h) <;> simp -implicitDefEqProofs (disch := omega) only [go_sem, hb, ↓reduceIte, Nat.reduceEqDiff, Nat.reduceAdd, Nat.reduceLeDiff, Nat.reduceSub, Nat.reduceMul, Nat.reduceBEq, Int.reduceEq, Int.reduceLT, Int.reduceLE, Int.reduceGT, Int.reduceGE, Int.reduceNeg, Int.reduceToNat] <;> (repeat ((with_reducible refine And.intro ?_ ?_); (focus (first | omega | rfl | assumption | exact ⟨_, rfl, rfl⟩ | (simp only [List.length_take, List.length_map, List.length_append, List.length_cons, List.length_nil]; omega) | (simp; done)))))
    · have hk : k < p.fDataTypes[i].fConstructors.length := by omega
      (repeat ((with_reducible refine And.intro ?_ ?_); (focus (first | omega | rfl | assumption | exact ⟨_, rfl, rfl⟩ | (simp only [List.length_take, List.length_map, List.length_append, List.length_cons, List.length_nil]; omega) | (simp; done)))))
      rw [snocS]
      exact inv_at (k + 1, e ++ [p.fDataTypes[i].fConstructors[k].fName]) (by simp only; omega) rfl rfl ⟨by simp only; omega, by simp only; rw [q2, take_snoc (by simpa using hk)]; simp⟩
    · have hk : k = p.fDataTypes[i].fConstructors.length := by omega
      have he : e = c ++ p.fDataTypes[i].fConstructors.map MConstructor.fName := by rw [q2, List.take_of_length_le (by simp; omega)]
      exact inv_at (i + 1, b ++ [p.fDataTypes[i].fName], e) (by simp only; omega) rfl rfl ⟨by simp only; omega, by simp only; rw [p2, take_snoc (by simpa [dtNames] using hi)]; simp [dtNames], by simp only; rw [e3, he]⟩
  have hb1 : b = dtNames p := by rw [p2, List.take_of_length_le (by simp [dtNames]; omega)]
  have hc1 : c = ctNames p.fDataTypes := by rw [p3, List.take_of_length_le (by omega)]
  clear p1 p2 p3 pl hb h
  subst hb1
  subst hc1
  refine loop_at (ι := Nat × List (List UInt8)) Try.checked.mixed rfl [1, 6, 7, 8, 9, 13] (fun y => [.c (.ptr (0, 0) 0), .c (.tsl (0, 1) ((trNames p).map encS)), .c (.tsl (0, 2) ((dtNames p).map encS)), .c (.tsl (0, 3) ((ctNames p.fDataTypes).map encS)), .c (.tsl (0, 4) (y.2.map encS)), .c (.d (.i .i64 y.1))]) (fun y => [.box (p.enc.map .d), .tok 1 ((trNames p).map encS), .tok 1 ((dtNames p).map encS), .tok 1 ((ctNames p.fDataTypes).map encS), .tok 1 (y.2.map encS)] :: S)
    (fun y => y.1 ≤ p.fFunctions.length ∧ y.2 = (fnNames p).take y.1) (fun y => p.fFunctions.length - y.1) (0, []) rfl ?_ ⟨Nat.zero_le _, rfl⟩ ?_
  · simp -implicitDefEqProofs (disch := omega) only [go_sem, ↓reduceIte, Nat.reduceEqDiff, Nat.reduceAdd, Nat.reduceLeDiff, Nat.reduceSub, Nat.reduceMul, Nat.reduceBEq, Int.reduceEq, Int.reduceLT, Int.reduceLE, Int.reduceGT, Int.reduceGE, Int.reduceNeg, Int.reduceToNat]
  rintro ⟨i, a⟩ ⟨p1, p2⟩
  simp only at p1 p2
  have pl : a.length ≤ p.fFunctions.length := by rw [p2]; simp [fnNames]; omega
  simp -implicitDefEqProofs (disch := omega) only [go_sem, ↓reduceIte, Nat.reduceEqDiff, Nat.reduceAdd, Nat.reduceLeDiff, Nat.reduceSub, Nat.reduceMul, Nat.reduceBEq, Int.reduceEq, Int.reduceLT, Int.reduceLE, Int.reduceGT, Int.reduceGE, Int.reduceNeg, Int.reduceToNat]
  refine split2 (fun hb => ?_) (fun hb => ?_) <;> have h := hb <;> (try simp only [decide_eq_true_eq, decide_eq_false_iff_not, Bool.not_eq_true, Bool.not_eq_false, Bool.not_eq_eq_eq_not, Bool.not_true, Bool.not_false, dec_eq_true, dec_eq_false, Classical.not_not] at h) <;> simp -implicitDefEqProofs (disch := omega) only [go_sem, hb, ↓reduceIte, Nat.reduceEqDiff, Nat.reduceAdd, Nat.reduceLeDiff, Nat.reduceSub, Nat.reduceMul, Nat.reduceBEq, Int.reduceEq, Int.reduceLT, Int.reduceLE, Int.reduceGT, Int.reduceGE, Int.reduceNeg, Int.reduceToNat] <;> (repeat ((with_reducible refine And.intro ?_ ?_); (focus (first | omega | rfl | assumption | exact ⟨_, rfl, rfl⟩ | (simp only [List.length_take, List.length_map, List.length_append, List.length_cons, List.length_nil]; omega) | (simp; done)))))
  · have hi : i < p.fFunctions.length := by omega
    (repeat ((with_reducible refine And.intro ?_ ?_); (focus (first | omega | rfl | assumption | exact ⟨_, rfl, rfl⟩ | (simp only [List.length_take, List.length_map, List.length_append, List.length_cons, List.length_nil]; omega) | (simp; done)))))
    rw [snocS]
    exact inv_at (i + 1, a ++ [p.fFunctions[i].fName]) (by simp only; omega) rfl rfl ⟨by simp only; omega, by simp only; rw [p2, take_snoc (by simpa [fnNames] using hi)]; simp [fnNames]⟩
  · have ha : a = fnNames p := by rw [p2, List.take_of_length_le (by simp [fnNames]; omega)]
    rw [ha]
theorem specNamesUnique_ok (w : MProgram) (hsz : w.sz ≤ 4194304) : PCall Try.prog 31 [w.v] (.c (.d (.b (namesUnique w.fPackages)))) := fun S => by
  have hb0 := MProgram.bounds hsz
  have hn := names_le w.fPackages
  have hz : szRows (w.fPackages.map MPackage.enc) ≤ 4194304 := by
    simp only [MProgram.sz, MProgram.enc_eq, szRow, szRow_append, D.sz, List.length_map] at hsz
    omega
  refine acall_cw (rs := [.tmp 2]) Try.checked.mixed Try.func31 Try.ntmps31 rfl rfl rfl rfl rfl ?_
  simp -implicitDefEqProofs (disch := omega) only [go_sem, ↓reduceIte, Nat.reduceEqDiff, Nat.reduceAdd, Nat.reduceLeDiff, Nat.reduceSub, Nat.reduceMul, Nat.reduceBEq, Int.reduceEq, Int.reduceLT, Int.reduceLE, Int.reduceGT, Int.reduceGE, Int.reduceNeg, Int.reduceToNat]
  refine aw_tok 3 1 [] rfl (by simp) ?_
  refine aw_tok 4 1 [] rfl (by simp) ?_
  refine aw_tok 5 1 [] rfl (by simp) ?_
  refine aw_tok 6 1 [] rfl (by simp) ?_
  refine loop_at (ι := Nat × List (List UInt8) × List (List UInt8) × List (List UInt8) × List (List UInt8)) Try.checked.mixed rfl [1, 3, 4, 5, 6, 7] (fun y => [.c (.ptr (0, 0) 0), .c (.tsl (0, 1) (y.2.1.map encS)), .c (.tsl (0, 2) (y.2.2.1.map encS)), .c (.tsl (0, 3) (y.2.2.2.1.map encS)), .c (.tsl (0, 4) (y.2.2.2.2.map encS)), .c (.d (.i .i64 y.1))]) (fun y => [.box (w.enc.map .d), .tok 1 (y.2.1.map encS), .tok 1 (y.2.2.1.map encS), .tok 1 (y.2.2.2.1.map encS), .tok 1 (y.2.2.2.2.map encS)] :: S)
    (fun y => y.1 ≤ w.fPackages.length ∧ y.2.1 = allTr (w.fPackages.take y.1) ∧ y.2.2.1 = allDt (w.fPackages.take y.1) ∧ y.2.2.2.1 = allCt (w.fPackages.take y.1) ∧ y.2.2.2.2 = allFn (w.fPackages.take y.1)) (fun y => w.fPackages.length - y.1) (0, [], [], [], []) rfl ?_ ⟨Nat.zero_le _, rfl, rfl, rfl, rfl⟩ ?_
  · simp -implicitDefEqProofs (disch := omega) only [go_sem, ↓reduceIte, Nat.reduceEqDiff, Nat.reduceAdd, Nat.reduceLeDiff, Nat.reduceSub, Nat.reduceMul, Nat.reduceBEq, Int.reduceEq, Int.reduceLT, Int.reduceLE, Int.reduceGT, Int.reduceGE, Int.reduceNeg, Int.reduceToNat]
  rintro ⟨i, a, b, c, d⟩ ⟨p1, p2, p3, p4, p5⟩
  simp only at p1 p2 p3 p4 p5
  simp -implicitDefEqProofs (disch := omega) only [go_sem, ↓reduceIte, Nat.reduceEqDiff, Nat.reduceAdd, Nat.reduceLeDiff, Nat.reduceSub, Nat.reduceMul, Nat.reduceBEq, Int.reduceEq, Int.reduceLT, Int.reduceLE, Int.reduceGT, Int.reduceGE, Int.reduceNeg, Int.reduceToNat]
  refine split2 (fun hb => ?_) (fun hb => ?_) <;> have h := hb <;> (try simp only [decide_eq_true_eq, decide_eq_false_iff_not, Bool.not_eq_true, Bool.not_eq_false, Bool.not_eq_eq_eq_not, Bool.not_true, Bool.not_false, dec_eq_true, dec_eq_false, Classical.not_not] at h) <;> simp -implicitDefEqProofs (disch := omega) only [go_sem, hb, ↓reduceIte, Nat.reduceEqDiff, Nat.reduceAdd, Nat.reduceLeDiff, Nat.reduceSub, Nat.reduceMul, Nat.reduceBEq, Int.reduceEq, Int.reduceLT, Int.reduceLE, Int.reduceGT, Int.reduceGE, Int.reduceNeg, Int.reduceToNat] <;> (repeat ((with_reducible refine And.intro ?_ ?_); (focus (first | omega | rfl | assumption | exact ⟨_, rfl, rfl⟩ | (simp only [List.length_take, List.length_map, List.length_append, List.length_cons, List.length_nil]; omega) | (simp; done)))))
  · have hi : i < w.fPackages.length := by omega
    have hp : w.fPackages[i].sz ≤ 4194304 := by
      have hx : w.fPackages[i].sz ≤ szRows (w.fPackages.map MPackage.enc) := szRows_mem (List.mem_map_of_mem (List.getElem_mem hi))
      omega
    have sub : ∀ (f : MPackage → List (List UInt8)), ((w.fPackages.take (i + 1)).flatMap f).length ≤ (w.fPackages.flatMap f).length := fun f => by
      conv => rhs; rw [← List.take_append_drop (i + 1) w.fPackages]
      rw [List.flatMap_append, List.length_append]
      omega
    have e2 : allTr (w.fPackages.take (i + 1)) = a ++ trNames w.fPackages[i] := by rw [p2]; exact flat_take _ hi
    have e3 : allDt (w.fPackages.take (i + 1)) = b ++ dtNames w.fPackages[i] := by rw [p3]; exact flat_take _ hi
    have e4 : allCt (w.fPackages.take (i + 1)) = c ++ ctNames w.fPackages[i].fDataTypes := by rw [p4]; exact flat_take _ hi
    have e5 : allFn (w.fPackages.take (i + 1)) = d ++ fnNames w.fPackages[i] := by rw [p5]; exact flat_take _ hi
    have l2 : (a ++ trNames w.fPackages[i]).length ≤ 4194304 := by rw [← e2]; have := sub trNames; unfold allTr at *; omega
    have l3 : (b ++ dtNames w.fPackages[i]).length ≤ 4194304 := by rw [← e3]; have := sub dtNames; unfold allDt at *; omega
    have l4 : (c ++ ctNames w.fPackages[i].fDataTypes).length ≤ 4194304 := by rw [← e4]; have := sub (fun p => ctNames p.fDataTypes); unfold allCt at *; omega
    have l5 : (d ++ fnNames w.fPackages[i]).length ≤ 4194304 := by rw [← e5]; have := sub fnNames; unfold allFn at *; omega
    rw [List.length_append] at l2 l3 l4 l5
    have hc : ∀ xs : List (List UInt8), ∀ y ∈ xs.map encS, y.length = 1 := fun xs y hy => by
      obtain ⟨s, _, rfl⟩ := List.mem_map.1 hy
      rfl
    (repeat ((with_reducible refine And.intro ?_ ?_); (focus (first | omega | rfl | assumption | exact ⟨_, rfl, rfl⟩ | (simp only [List.length_take, List.length_map, List.length_append, List.length_cons, List.length_nil]; omega) | (simp; done)))))
    refine call_w (l15Names_ok w.fPackages[i] hp) ?_
    simp -implicitDefEqProofs (disch := omega) only [go_sem, ↓reduceIte, Nat.reduceEqDiff, Nat.reduceAdd, Nat.reduceLeDiff, Nat.reduceSub, Nat.reduceMul, Nat.reduceBEq, Int.reduceEq, Int.reduceLT, Int.reduceLE, Int.reduceGT, Int.reduceGE, Int.reduceNeg, Int.reduceToNat] <;> (repeat ((with_reducible refine And.intro ?_ ?_); (focus (first | omega | rfl | assumption | exact ⟨_, rfl, rfl⟩ | (simp only [List.length_take, List.length_map, List.length_append, List.length_cons, List.length_nil]; omega) | (simp; done)))))
    refine ⟨hc _, ⟨_, rfl, rfl⟩, by omega, hc _, ⟨_, rfl, rfl⟩, by omega, hc _, ⟨_, rfl, rfl⟩, by omega, hc _, ⟨_, rfl, rfl⟩, by omega, ?_⟩
    rw [appS, appS, appS, appS]
    exact inv_at (i + 1, a ++ trNames w.fPackages[i], b ++ dtNames w.fPackages[i], c ++ ctNames w.fPackages[i].fDataTypes, d ++ fnNames w.fPackages[i]) (by simp only; omega) rfl rfl ⟨by simp only; omega, e2.symm, e3.symm, e4.symm, e5.symm⟩
  · have hi : i = w.fPackages.length := by omega
    rw [List.take_of_length_le (by omega)] at p2 p3 p4 p5
    subst p2
    subst p3
    subst p4
    subst p5
    unfold namesUnique
    refine call_w (specDistinct_ok (allTr w.fPackages) (by omega)) ?_
    simp -implicitDefEqProofs (disch := omega) only [go_sem, ↓reduceIte, Nat.reduceEqDiff, Nat.reduceAdd, Nat.reduceLeDiff, Nat.reduceSub, Nat.reduceMul, Nat.reduceBEq, Int.reduceEq, Int.reduceLT, Int.reduceLE, Int.reduceGT, Int.reduceGE, Int.reduceNeg, Int.reduceToNat] <;> (repeat ((with_reducible refine And.intro ?_ ?_); (focus (first | omega | rfl | assumption | exact ⟨_, rfl, rfl⟩ | (simp only [List.length_take, List.length_map, List.length_append, List.length_cons, List.length_nil]; omega) | (simp; done)))))
    refine split2 (fun hb => ?_) (fun hb => ?_) <;> have h := hb <;> (try simp only [decide_eq_true_eq, decide_eq_false_iff_not, Bool.not_eq_true, Bool.not_eq_false, Bool.not_eq_eq_eq_not, Bool.not_true, Bool.not_false, dec_eq_true, dec_eq_false, Classical.not_not] at h) <;> simp -implicitDefEqProofs (disch := omega) only [go_sem, hb, ↓reduceIte, Nat.reduceEqDiff, Nat.reduceAdd, Nat.reduceLeDiff, Nat.reduceSub, Nat.reduceMul, Nat.reduceBEq, Int.reduceEq, Int.reduceLT, Int.reduceLE, Int.reduceGT, Int.reduceGE, Int.reduceNeg, Int.reduceToNat] <;> (repeat ((with_reducible refine And.intro ?_ ?_); (focus (first | omega | rfl | assumption | exact ⟨_, rfl, rfl⟩ | (simp only [List.length_take, List.length_map, List.length_append, List.length_cons, List.length_nil]; omega) | (simp; done)))))
    · refine call_w (specDistinct_ok (allDt w.fPackages) (by omega)) ?_
      simp -implicitDefEqProofs (disch := omega) only [go_sem, ↓reduceIte, Nat.reduceEqDiff, Nat.reduceAdd, Nat.reduceLeDiff, Nat.reduceSub, Nat.reduceMul, Nat.reduceBEq, Int.reduceEq, Int.reduceLT, Int.reduceLE, Int.reduceGT, Int.reduceGE, Int.reduceNeg, Int.reduceToNat] <;> (repeat ((with_reducible refine And.intro ?_ ?_); (focus (first | omega | rfl | assumption | exact ⟨_, rfl, rfl⟩ | (simp only [List.length_take, List.length_map, List.length_append, List.length_cons, List.length_nil]; omega) | (simp; done)))))
      refine split2 (fun hb => ?_) (fun hb => ?_) <;> have h := hb <;> (try simp only [decide_eq_true_eq, decide_eq_false_iff_not, Bool.not_eq_true, Bool.not_eq_false, Bool.not_eq_eq_eq_not, Bool.not_true, Bool.not_false, dec_eq_true, dec_eq_false, Classical.not_not] at h) <;> simp -implicitDefEqProofs (disch := omega) only [go_sem, hb, ↓reduceIte, Nat.reduceEqDiff, Nat.reduceAdd, Nat.reduceLeDiff, Nat.reduceSub, Nat.reduceMul, Nat.reduceBEq, Int.reduceEq, Int.reduceLT, Int.reduceLE, Int.reduceGT, Int.reduceGE, Int.reduceNeg, Int.reduceToNat] <;> (repeat ((with_reducible refine And.intro ?_ ?_); (focus (first | omega | rfl | assumption | exact ⟨_, rfl, rfl⟩ | (simp only [List.length_take, List.length_map, List.length_append, List.length_cons, List.length_nil]; omega) | (simp; done)))))
      · refine call_w (specDistinct_ok (allCt w.fPackages) (by omega)) ?_
        simp -implicitDefEqProofs (disch := omega) only [go_sem, ↓reduceIte, Nat.reduceEqDiff, Nat.reduceAdd, Nat.reduceLeDiff, Nat.reduceSub, Nat.reduceMul, Nat.reduceBEq, Int.reduceEq, Int.reduceLT, Int.reduceLE, Int.reduceGT, Int.reduceGE, Int.reduceNeg, Int.reduceToNat] <;> (repeat ((with_reducible refine And.intro ?_ ?_); (focus (first | omega | rfl | assumption | exact ⟨_, rfl, rfl⟩ | (simp only [List.length_take, List.length_map, List.length_append, List.length_cons, List.length_nil]; omega) | (simp; done)))))
        refine split2 (fun hb => ?_) (fun hb => ?_) <;> have h := hb <;> (try simp only [decide_eq_true_eq, decide_eq_false_iff_not, Bool.not_eq_true, Bool.not_eq_false, Bool.not_eq_eq_eq_not, Bool.not_true, Bool.not_false, dec_eq_true, dec_eq_false, Classical.not_not] at h) <;> simp -implicitDefEqProofs (disch := omega) only [go_sem, hb, ↓reduceIte, Nat.reduceEqDiff, Nat.reduceAdd, Nat.reduceLeDiff, Nat.reduceSub, Nat.reduceMul, Nat.reduceBEq, Int.reduceEq, Int.reduceLT, Int.reduceLE, Int.reduceGT, Int.reduceGE, Int.reduceNeg, Int.reduceToNat] <;> (repeat ((with_reducible refine And.intro ?_ ?_); (focus (first | omega | rfl | assumption | exact ⟨_, rfl, rfl⟩ | (simp only [List.length_take, List.length_map, List.length_append, List.length_cons, List.length_nil]; omega) | (simp; done)))))
        · refine call_w (specDistinct_ok (allFn w.fPackages) (by omega)) ?_
          simp -implicitDefEqProofs (disch := omega) only [go_sem, ↓reduceIte, Nat.reduceEqDiff, Nat.reduceAdd, Nat.reduceLeDiff, Nat.reduceSub, Nat.reduceMul, Nat.reduceBEq, Int.reduceEq, Int.reduceLT, Int.reduceLE, Int.reduceGT, Int.reduceGE, Int.reduceNeg, Int.reduceToNat] <;> (repeat ((with_reducible refine And.intro ?_ ?_); (focus (first | omega | rfl | assumption | exact ⟨_, rfl, rfl⟩ | (simp only [List.length_take, List.length_map, List.length_append, List.length_cons, List.length_nil]; omega) | (simp; done)))))
          all_goals exact bool_eq (by simp only [dec_true ‹(allTr w.fPackages).Nodup›, dec_true ‹(allDt w.fPackages).Nodup›, dec_true ‹(allCt w.fPackages).Nodup›, Bool.true_and])
        · exact bool_eq (by simp only [dec_false h, Bool.false_and, Bool.and_false])
      · exact bool_eq (by simp only [dec_false h, Bool.false_and, Bool.and_false])
    · exact bool_eq (by simp only [dec_false h, Bool.false_and])
end Go.Proofs.Ytjfhgcnoielpfaa

/- CONTRACTS: are the declared names unique? the program's. -/
namespace Go.Proofs.Ytjfhgcnoielpfaa
open Go Go.Ab

/-- The objects of impl.declared. -/
def dclS (a b c d : List (List UInt8)) (rest : List Ab.Obj) (S : Store) : Store :=
  (.box [.fsl [], .fsl [], .fsl [], .fsl []] :: .box [.tsl (0, 2) (a.map encS), .tsl (0, 3) (b.map encS), .tsl (0, 4) (c.map encS), .tsl (0, 5) (d.map encS)] :: .tok 1 (a.map encS) :: .tok 1 (b.map encS) :: .tok 1 (c.map encS) :: .tok 1 (d.map encS) :: rest) :: S

theorem declared_ok (ps : List MPackage) (hl : ps.length ≤ 4194304) (hz : szRows (ps.map MPackage.enc) ≤ 4194304) : PCall Try.prog 123 [.c (.d (.sl (ps.map MPackage.enc)))] (.agg [.d (.sl ((allTr ps).map encS)), .d (.sl ((allDt ps).map encS)), .d (.sl ((allCt ps).map encS)), .d (.sl ((allFn ps).map encS))]) := fun S => by
  have hn := names_le ps
  refine acall_cw (rs := [.cell 2 173]) Try.checked.mixed Try.func123 Try.ntmps123 rfl rfl rfl rfl rfl ?_
  simp -implicitDefEqProofs (disch := omega) only [go_sem, ↓reduceIte, Nat.reduceEqDiff, Nat.reduceAdd, Nat.reduceLeDiff, Nat.reduceSub, Nat.reduceMul, Nat.reduceBEq, Int.reduceEq, Int.reduceLT, Int.reduceLE, Int.reduceGT, Int.reduceGE, Int.reduceNeg, Int.reduceToNat]
  (repeat ((with_reducible refine And.intro ?_ ?_); (focus (first | omega | rfl | assumption | exact ⟨_, rfl, rfl⟩ | (simp only [List.length_take, List.length_map, List.length_append, List.length_cons, List.length_nil]; omega) | (simp; done)))))
  refine aw_tokbox 1 0 1 [] [.fsl [], .fsl [], .fsl [], .fsl []] rfl rfl (by simp) ?_
  refine aw_tokbox 1 1 1 [] [.tsl (0, 2) [], .fsl [], .fsl [], .fsl []] rfl rfl (by simp) ?_
  refine aw_tokbox 1 2 1 [] [.tsl (0, 2) [], .tsl (0, 3) [], .fsl [], .fsl []] rfl rfl (by simp) ?_
  refine aw_tokbox 1 3 1 [] [.tsl (0, 2) [], .tsl (0, 3) [], .tsl (0, 4) [], .fsl []] rfl rfl (by simp) ?_
  refine loop_at (ι := Nat × List (List UInt8) × List (List UInt8) × List (List UInt8) × List (List UInt8)) Try.checked.mixed rfl [2, 3, 15, 16, 17] (fun y => [.c (.ptr (0, 0) 0), .c (.ptr (0, 1) 0), .c (.d (.sl (ps.map MPackage.enc))), .c (.d (.i .i64 ps.length)), .c (.d (.i .i64 y.1))])
    (fun y => [.box [.fsl [], .fsl [], .fsl [], .fsl []], .box [.tsl (0, 2) (y.2.1.map encS), .tsl (0, 3) (y.2.2.1.map encS), .tsl (0, 4) (y.2.2.2.1.map encS), .tsl (0, 5) (y.2.2.2.2.map encS)], .tok 1 (y.2.1.map encS), .tok 1 (y.2.2.1.map encS), .tok 1 (y.2.2.2.1.map encS), .tok 1 (y.2.2.2.2.map encS)] :: S)
    (fun y => y.1 ≤ ps.length ∧ y.2.1 = allTr (ps.take y.1) ∧ y.2.2.1 = allDt (ps.take y.1) ∧ y.2.2.2.1 = allCt (ps.take y.1) ∧ y.2.2.2.2 = allFn (ps.take y.1)) (fun y => ps.length - y.1) (0, [], [], [], []) rfl rfl ⟨Nat.zero_le _, rfl, rfl, rfl, rfl⟩ ?_
  rintro ⟨i, a, b, c, d⟩ ⟨p1, p2, p3, p4, p5⟩
  simp only at p1 p2 p3 p4 p5
  simp -implicitDefEqProofs (disch := omega) only [go_sem, ↓reduceIte, Nat.reduceEqDiff, Nat.reduceAdd, Nat.reduceLeDiff, Nat.reduceSub, Nat.reduceMul, Nat.reduceBEq, Int.reduceEq, Int.reduceLT, Int.reduceLE, Int.reduceGT, Int.reduceGE, Int.reduceNeg, Int.reduceToNat]
  refine split2 (fun hb => ?_) (fun hb => ?_) <;> have h := hb <;> (try simp only [decide_eq_true_eq, decide_eq_false_iff_not, Bool.not_eq_true, Bool.not_eq_false, Bool.not_eq_eq_eq_not, Bool.not_true, Bool.not_false, dec_eq_true, dec_eq_false, Classical.not_not] at h) <;> simp -implicitDefEqProofs (disch := omega) only [go_sem, hb, ↓reduceIte, Nat.reduceEqDiff, Nat.reduceAdd, Nat.reduceLeDiff, Nat.reduceSub, Nat.reduceMul, Nat.reduceBEq, Int.reduceEq, Int.reduceLT, Int.reduceLE, Int.reduceGT, Int.reduceGE, Int.reduceNeg, Int.reduceToNat] <;> (repeat ((with_reducible refine And.intro ?_ ?_); (focus (first | omega | rfl | assumption | exact ⟨_, rfl, rfl⟩ | (simp only [List.length_take, List.length_map, List.length_append, List.length_cons, List.length_nil]; omega) | (simp; done)))))
  · have hi : i < ps.length := by omega
    have hp : ps[i].sz ≤ 4194304 := by
      have hx : ps[i].sz ≤ szRows (ps.map MPackage.enc) := szRows_mem (List.mem_map_of_mem (List.getElem_mem hi))
      omega
    (repeat ((with_reducible refine And.intro ?_ ?_); (focus (first | omega | rfl | assumption | exact ⟨_, rfl, rfl⟩ | (simp only [List.length_take, List.length_map, List.length_append, List.length_cons, List.length_nil]; omega) | (simp; done)))))
    have sub : ∀ (f : MPackage → List (List UInt8)), ((ps.take (i + 1)).flatMap f).length ≤ (ps.flatMap f).length := fun f => by
      conv => rhs; rw [← List.take_append_drop (i + 1) ps]
      rw [List.flatMap_append, List.length_append]
      omega
    have e2 : allTr (ps.take (i + 1)) = a ++ trNames ps[i] := by rw [p2]; exact flat_take _ hi
    have e3 : allDt (ps.take (i + 1)) = b ++ dtNames ps[i] := by rw [p3]; exact flat_take _ hi
    have e4 : allCt (ps.take (i + 1)) = c ++ ctNames ps[i].fDataTypes := by rw [p4]; exact flat_take _ hi
    have e5 : allFn (ps.take (i + 1)) = d ++ fnNames ps[i] := by rw [p5]; exact flat_take _ hi
    have l2 : (a ++ trNames ps[i]).length ≤ 4194304 := by rw [← e2]; have := sub trNames; unfold allTr at *; omega
    have l3 : (b ++ dtNames ps[i]).length ≤ 4194304 := by rw [← e3]; have := sub dtNames; unfold allDt at *; omega
    have l4 : (c ++ ctNames ps[i].fDataTypes).length ≤ 4194304 := by rw [← e4]; have := sub (fun p => ctNames p.fDataTypes); unfold allCt at *; omega
    have l5 : (d ++ fnNames ps[i]).length ≤ 4194304 := by rw [← e5]; have := sub fnNames; unfold allFn at *; omega
    have hbp := MPackage.bounds hp
    rw [List.length_append] at l2 l3 l4 l5
    -- the traits
    refine loop_at (ι := Nat × List (List UInt8)) Try.checked.mixed rfl [2, 3, 5, 15, 16, 17, 22, 23, 24] (fun y => [.c (.ptr (0, 0) 0), .c (.ptr (0, 1) 0), .c (.ptr (0, 6) 0), .c (.d (.sl (ps.map MPackage.enc))), .c (.d (.i .i64 ps.length)), .c (.d (.i .i64 i)), .c (.d (.sl (ps[i].fTraits.map MTrait.enc))), .c (.d (.i .i64 ps[i].fTraits.length)), .c (.d (.i .i64 y.1))]) (fun y => dclS y.2 b c d [.box (ps[i].enc.map .d)] S)
      (fun y => y.1 ≤ ps[i].fTraits.length ∧ y.2 = a ++ (trNames ps[i]).take y.1) (fun y => ps[i].fTraits.length - y.1) (0, a) rfl ?_ ⟨Nat.zero_le _, by simp⟩ ?_
    · unfold dclS
      simp -implicitDefEqProofs (disch := omega) only [go_sem, ↓reduceIte, Nat.reduceEqDiff, Nat.reduceAdd, Nat.reduceLeDiff, Nat.reduceSub, Nat.reduceMul, Nat.reduceBEq, Int.reduceEq, Int.reduceLT, Int.reduceLE, Int.reduceGT, Int.reduceGE, Int.reduceNeg, Int.reduceToNat]
    rintro ⟨k, a'⟩ ⟨q1, q2⟩
    simp only at q1 q2
    have ql : a'.length ≤ 4194304 := by rw [q2]; simp [trNames] at *; omega
    unfold dclS
    simp -implicitDefEqProofs (disch := omega) only [go_sem, ↓reduceIte, Nat.reduceEqDiff, Nat.reduceAdd, Nat.reduceLeDiff, Nat.reduceSub, Nat.reduceMul, Nat.reduceBEq, Int.reduceEq, Int.reduceLT, Int.reduceLE, Int.reduceGT, Int.reduceGE, Int.reduceNeg, Int.reduceToNat]
    refine split2 (fun hb => ?_) (fun hb => ?_) <;> have h := hb <;> (try simp only [decide_eq_true_eq, decide_eq_false_iff_not, Bool.not_eq_true, Bool.not_eq_false, Bool.not_eq_eq_eq_not, Bool.not_true, Bool.not_false, dec_eq_true, dec_eq_false, Classical.not_not] at h) <;> simp -implicitDefEqProofs (disch := omega) only [go_sem, hb, ↓reduceIte, Nat.reduceEqDiff, Nat.reduceAdd, Nat.reduceLeDiff, Nat.reduceSub, Nat.reduceMul, Nat.reduceBEq, Int.reduceEq, Int.reduceLT, Int.reduceLE, Int.reduceGT, Int.reduceGE, Int.reduceNeg, Int.reduceToNat] <;> (repeat ((with_reducible refine And.intro ?_ ?_); (focus (first | omega | rfl | assumption | exact ⟨_, rfl, rfl⟩ | (simp only [List.length_take, List.length_map, List.length_append, List.length_cons, List.length_nil]; omega) | (simp; done)))))
    · have hk : k < ps[i].fTraits.length := by omega
      have ql' : a'.length + 1 ≤ 4194304 := by rw [q2]; simp [trNames] at *; omega
      (repeat ((with_reducible refine And.intro ?_ ?_); (focus (first | omega | rfl | assumption | exact ⟨_, rfl, rfl⟩ | (simp only [List.length_take, List.length_map, List.length_append, List.length_cons, List.length_nil]; omega) | (simp; done)))))
      rw [snocS]
      exact inv_drop 7 (by decide) (k + 1, a' ++ [ps[i].fTraits[k].fName]) (by simp only; omega) rfl rfl rfl rfl ⟨by simp only; omega, by simp only; rw [q2, take_snoc (by simpa [trNames] using hk)]; simp [trNames]⟩
    have ha : a' = a ++ trNames ps[i] := by rw [q2, List.take_of_length_le (by simp [trNames]; omega)]
    clear q1 q2 ql hb h
    subst ha
    -- the data types
    refine loop_at (ι := Nat × List (List UInt8) × List (List UInt8)) Try.checked.mixed rfl [2, 3, 5, 15, 16, 17, 37, 38, 39] (fun y => [.c (.ptr (0, 0) 0), .c (.ptr (0, 1) 0), .c (.ptr (0, 6) 0), .c (.d (.sl (ps.map MPackage.enc))), .c (.d (.i .i64 ps.length)), .c (.d (.i .i64 i)), .c (.d (.sl (ps[i].fDataTypes.map MDataType.enc))), .c (.d (.i .i64 ps[i].fDataTypes.length)), .c (.d (.i .i64 y.1))]) (fun y => dclS (a ++ trNames ps[i]) y.2.1 y.2.2 d [.box (ps[i].enc.map .d)] S)
      (fun y => y.1 ≤ ps[i].fDataTypes.length ∧ y.2.1 = b ++ (dtNames ps[i]).take y.1 ∧ y.2.2 = c ++ ctNames (ps[i].fDataTypes.take y.1)) (fun y => ps[i].fDataTypes.length - y.1) (0, b, c) rfl ?_ ⟨Nat.zero_le _, by simp, by simp [ctNames]⟩ ?_
    · unfold dclS
      simp -implicitDefEqProofs (disch := omega) only [go_sem, ↓reduceIte, Nat.reduceEqDiff, Nat.reduceAdd, Nat.reduceLeDiff, Nat.reduceSub, Nat.reduceMul, Nat.reduceBEq, Int.reduceEq, Int.reduceLT, Int.reduceLE, Int.reduceGT, Int.reduceGE, Int.reduceNeg, Int.reduceToNat]
    rintro ⟨k', b', c'⟩ ⟨q1, q2, q3⟩
    simp only at q1 q2 q3
    unfold dclS
    simp -implicitDefEqProofs (disch := omega) only [go_sem, ↓reduceIte, Nat.reduceEqDiff, Nat.reduceAdd, Nat.reduceLeDiff, Nat.reduceSub, Nat.reduceMul, Nat.reduceBEq, Int.reduceEq, Int.reduceLT, Int.reduceLE, Int.reduceGT, Int.reduceGE, Int.reduceNeg, Int.reduceToNat]
    refine split2 (fun hb => ?_) (fun hb => ?_) <;> have h := hb <;> (try simp only [decide_eq_true_eq, decide_eq_false_iff_not, Bool.not_eq_true, Bool.not_eq_false, Bool.not_eq_eq_eq_not, Bool.not_true, Bool.not_false, dec_eq_true, dec_eq_false, Classical.not_not] at h) <;> simp -implicitDefEqProofs (disch := omega) only [go_sem, hb, ↓reduceIte, Nat.reduceEqDiff, Nat.reduceAdd, Nat.reduceLeDiff, Nat.reduceSub, Nat.reduceMul, Nat.reduceBEq, Int.reduceEq, Int.reduceLT, Int.reduceLE, Int.reduceGT, Int.reduceGE, Int.reduceNeg, Int.reduceToNat] <;> (repeat ((with_reducible refine And.intro ?_ ?_); (focus (first | omega | rfl | assumption | exact ⟨_, rfl, rfl⟩ | (simp only [List.length_take, List.length_map, List.length_append, List.length_cons, List.length_nil]; omega) | (simp; done)))))
    · have hk : k' < ps[i].fDataTypes.length := by omega
      have e6 : ctNames (ps[i].fDataTypes.take (k' + 1)) = ctNames (ps[i].fDataTypes.take k') ++ ps[i].fDataTypes[k'].fConstructors.map MConstructor.fName := flat_take _ hk
      have hcl : (ctNames (ps[i].fDataTypes.take (k' + 1))).length ≤ (ctNames ps[i].fDataTypes).length := by
        conv => rhs; rw [← List.take_append_drop (k' + 1) ps[i].fDataTypes]
        unfold ctNames
        rw [List.flatMap_append, List.length_append]
        omega
      have ql' : b'.length + 1 ≤ 4194304 := by rw [q2]; simp [dtNames] at *; omega
      have qc : c'.length + ps[i].fDataTypes[k'].fConstructors.length ≤ 4194304 := by
        rw [e6, List.length_append, List.length_map] at hcl
        rw [q3, List.length_append]
        omega
      (repeat ((with_reducible refine And.intro ?_ ?_); (focus (first | omega | rfl | assumption | exact ⟨_, rfl, rfl⟩ | (simp only [List.length_take, List.length_map, List.length_append, List.length_cons, List.length_nil]; omega) | (simp; done)))))
      rw [snocS]
      refine loop_at (ι := Nat × List (List UInt8)) Try.checked.mixed rfl [2, 3, 5, 15, 16, 17, 37, 38, 39, 51, 52, 53] (fun y => [.c (.ptr (0, 0) 0), .c (.ptr (0, 1) 0), .c (.ptr (0, 6) 0), .c (.d (.sl (ps.map MPackage.enc))), .c (.d (.i .i64 ps.length)), .c (.d (.i .i64 i)), .c (.d (.sl (ps[i].fDataTypes.map MDataType.enc))), .c (.d (.i .i64 ps[i].fDataTypes.length)), .c (.d (.i .i64 k')), .c (.d (.sl (ps[i].fDataTypes[k'].fConstructors.map MConstructor.enc))), .c (.d (.i .i64 ps[i].fDataTypes[k'].fConstructors.length)), .c (.d (.i .i64 y.1))]) (fun y => dclS (a ++ trNames ps[i]) (b' ++ [ps[i].fDataTypes[k'].fName]) y.2 d [.box (ps[i].enc.map .d), .box (ps[i].fDataTypes[k'].enc.map .d)] S)
        (fun y => y.1 ≤ ps[i].fDataTypes[k'].fConstructors.length ∧ y.2 = c' ++ (ps[i].fDataTypes[k'].fConstructors.map MConstructor.fName).take y.1) (fun y => ps[i].fDataTypes[k'].fConstructors.length - y.1) (0, c') rfl ?_ ⟨Nat.zero_le _, by simp⟩ ?_
      · unfold dclS
        simp -implicitDefEqProofs (disch := omega) only [go_sem, ↓reduceIte, Nat.reduceEqDiff, Nat.reduceAdd, Nat.reduceLeDiff, Nat.reduceSub, Nat.reduceMul, Nat.reduceBEq, Int.reduceEq, Int.reduceLT, Int.reduceLE, Int.reduceGT, Int.reduceGE, Int.reduceNeg, Int.reduceToNat]
      rintro ⟨m, c''⟩ ⟨r1, r2⟩
      simp only at r1 r2
      have rl : c''.length ≤ 4194304 := by rw [r2]; simp; omega
      unfold dclS
      simp -implicitDefEqProofs (disch := omega) only [go_sem, ↓reduceIte, Nat.reduceEqDiff, Nat.reduceAdd, Nat.reduceLeDiff, Nat.reduceSub, Nat.reduceMul, Nat.reduceBEq, Int.reduceEq, Int.reduceLT, Int.reduceLE, Int.reduceGT, Int.reduceGE, Int.reduceNeg, Int.reduceToNat]
      refine split2 (fun hb => ?_) (fun hb => ?_) <;> have h := hb <;> (try simp only [decide_eq_true_eq, decide_eq_false_iff_not, Bool.not_eq_true, Bool.not_eq_false, Bool.not_eq_eq_eq_not, Bool.not_true, Bool.not_false, dec_eq_true, dec_eq_false, Classical.not_not] at h) <;> simp -implicitDefEqProofs (disch := omega) only [go_sem, hb, ↓reduceIte, Nat.reduceEqDiff, Nat.reduceAdd, Nat.reduceLeDiff, Nat.reduceSub, Nat.reduceMul, Nat.reduceBEq, Int.reduceEq, Int.reduceLT, Int.reduceLE, Int.reduceGT, Int.reduceGE, Int.reduceNeg, Int.reduceToNat] <;> (repeat ((with_reducible refine And.intro ?_ ?_); (focus (first | omega | rfl | assumption | exact ⟨_, rfl, rfl⟩ | (simp only [List.length_take, List.length_map, List.length_append, List.length_cons, List.length_nil]; omega) | (simp; done)))))
      · have hm : m < ps[i].fDataTypes[k'].fConstructors.length := by omega
        have rl' : c''.length + 1 ≤ 4194304 := by rw [r2]; simp; omega
        (repeat ((with_reducible refine And.intro ?_ ?_); (focus (first | omega | rfl | assumption | exact ⟨_, rfl, rfl⟩ | (simp only [List.length_take, List.length_map, List.length_append, List.length_cons, List.length_nil]; omega) | (simp; done)))))
        rw [snocS]
        exact inv_drop 8 (by decide) (m + 1, c'' ++ [ps[i].fDataTypes[k'].fConstructors[m].fName]) (by simp only; omega) rfl rfl rfl rfl ⟨by simp only; omega, by simp only; rw [r2, take_snoc (by simpa using hm)]; simp⟩
      · have hm : m = ps[i].fDataTypes[k'].fConstructors.length := by omega
        have hc : c'' = c' ++ ps[i].fDataTypes[k'].fConstructors.map MConstructor.fName := by rw [r2, List.take_of_length_le (by simp; omega)]
        exact inv_drop 7 (by decide) (k' + 1, b' ++ [ps[i].fDataTypes[k'].fName], c'') (by simp only; omega) rfl rfl rfl rfl ⟨by simp only; omega, by simp only; rw [q2, take_snoc (by simpa [dtNames] using hk)]; simp [dtNames], by simp only; rw [hc, e6, q3, List.append_assoc]⟩
    have hb' : b' = b ++ dtNames ps[i] := by rw [q2, List.take_of_length_le (by simp [dtNames]; omega)]
    have hc' : c' = c ++ ctNames ps[i].fDataTypes := by rw [q3, List.take_of_length_le (by omega)]
    clear q1 q2 q3 hb h
    subst hb'
    subst hc'
    -- the functions
    refine loop_at (ι := Nat × List (List UInt8)) Try.checked.mixed rfl [2, 3, 5, 15, 16, 17, 67, 68, 69] (fun y => [.c (.ptr (0, 0) 0), .c (.ptr (0, 1) 0), .c (.ptr (0, 6) 0), .c (.d (.sl (ps.map MPackage.enc))), .c (.d (.i .i64 ps.length)), .c (.d (.i .i64 i)), .c (.d (.sl (ps[i].fFunctions.map MFunction.enc))), .c (.d (.i .i64 ps[i].fFunctions.length)), .c (.d (.i .i64 y.1))]) (fun y => dclS (a ++ trNames ps[i]) (b ++ dtNames ps[i]) (c ++ ctNames ps[i].fDataTypes) y.2 [.box (ps[i].enc.map .d)] S)
      (fun y => y.1 ≤ ps[i].fFunctions.length ∧ y.2 = d ++ (fnNames ps[i]).take y.1) (fun y => ps[i].fFunctions.length - y.1) (0, d) rfl ?_ ⟨Nat.zero_le _, by simp⟩ ?_
    · unfold dclS
      simp -implicitDefEqProofs (disch := omega) only [go_sem, ↓reduceIte, Nat.reduceEqDiff, Nat.reduceAdd, Nat.reduceLeDiff, Nat.reduceSub, Nat.reduceMul, Nat.reduceBEq, Int.reduceEq, Int.reduceLT, Int.reduceLE, Int.reduceGT, Int.reduceGE, Int.reduceNeg, Int.reduceToNat]
    rintro ⟨k4, d'⟩ ⟨q1, q2⟩
    simp only at q1 q2
    have ql : d'.length ≤ 4194304 := by rw [q2]; simp [fnNames] at *; omega
    unfold dclS
    simp -implicitDefEqProofs (disch := omega) only [go_sem, ↓reduceIte, Nat.reduceEqDiff, Nat.reduceAdd, Nat.reduceLeDiff, Nat.reduceSub, Nat.reduceMul, Nat.reduceBEq, Int.reduceEq, Int.reduceLT, Int.reduceLE, Int.reduceGT, Int.reduceGE, Int.reduceNeg, Int.reduceToNat]
    refine split2 (fun hb => ?_) (fun hb => ?_) <;> have h := hb <;> (try simp only [decide_eq_true_eq, decide_eq_false_iff_not, Bool.not_eq_true, Bool.not_eq_false, Bool.not_eq_eq_eq_not, Bool.not_true, Bool.not_false, dec_eq_true, dec_eq_false, Classical.not_not] at h) <;> simp -implicitDefEqProofs (disch := omega) only [go_sem, hb, ↓reduceIte, Nat.reduceEqDiff, Nat.reduceAdd, Nat.reduceLeDiff, Nat.reduceSub, Nat.reduceMul, Nat.reduceBEq, Int.reduceEq, Int.reduceLT, Int.reduceLE, Int.reduceGT, Int.reduceGE, Int.reduceNeg, Int.reduceToNat] <;> (repeat ((with_reducible refine And.intro ?_ ?_); (focus (first | omega | rfl | assumption | exact ⟨_, rfl, rfl⟩ | (simp only [List.length_take, List.length_map, List.length_append, List.length_cons, List.length_nil]; omega) | (simp; done)))))
    · have hk : k4 < ps[i].fFunctions.length := by omega
      have ql' : d'.length + 1 ≤ 4194304 := by rw [q2]; simp [fnNames] at *; omega
      (repeat ((with_reducible refine And.intro ?_ ?_); (focus (first | omega | rfl | assumption | exact ⟨_, rfl, rfl⟩ | (simp only [List.length_take, List.length_map, List.length_append, List.length_cons, List.length_nil]; omega) | (simp; done)))))
      rw [snocS]
      exact inv_drop 7 (by decide) (k4 + 1, d' ++ [ps[i].fFunctions[k4].fName]) (by simp only; omega) rfl rfl rfl rfl ⟨by simp only; omega, by simp only; rw [q2, take_snoc (by simpa [fnNames] using hk)]; simp [fnNames]⟩
    · have hd : d' = d ++ fnNames ps[i] := by rw [q2, List.take_of_length_le (by simp [fnNames]; omega)]
      exact inv_drop 6 (by decide) (i + 1, a ++ trNames ps[i], b ++ dtNames ps[i], c ++ ctNames ps[i].fDataTypes, d') (by simp only; omega) rfl rfl rfl rfl ⟨by simp only; omega, e2.symm, e3.symm, e4.symm, by simp only; rw [hd, e5]⟩
  · have hi : i = ps.length := by omega
    rw [List.take_of_length_le (by omega)] at p2 p3 p4 p5
    rw [p2, p3, p4, p5]
theorem areUnique_ok (ps : List MPackage) (hl : ps.length ≤ 4194304) (hz : szRows (ps.map MPackage.enc) ≤ 4194304) : PCall Try.prog 78 [.c (.d (.sl (ps.map MPackage.enc)))] (.c (.d (.b (namesUnique ps)))) := fun S => by
  have hn := names_le ps
  refine acall_cw (rs := [.tmp 2]) Try.checked.mixed Try.func78 Try.ntmps78 rfl rfl rfl rfl rfl ?_
  simp -implicitDefEqProofs (disch := omega) only [go_sem, ↓reduceIte, Nat.reduceEqDiff, Nat.reduceAdd, Nat.reduceLeDiff, Nat.reduceSub, Nat.reduceMul, Nat.reduceBEq, Int.reduceEq, Int.reduceLT, Int.reduceLE, Int.reduceGT, Int.reduceGE, Int.reduceNeg, Int.reduceToNat]
  refine call_w (declared_ok ps hl hz) ?_
  simp -implicitDefEqProofs (disch := omega) only [go_sem, ↓reduceIte, Nat.reduceEqDiff, Nat.reduceAdd, Nat.reduceLeDiff, Nat.reduceSub, Nat.reduceMul, Nat.reduceBEq, Int.reduceEq, Int.reduceLT, Int.reduceLE, Int.reduceGT, Int.reduceGE, Int.reduceNeg, Int.reduceToNat] <;> (repeat ((with_reducible refine And.intro ?_ ?_); (focus (first | omega | rfl | assumption | exact ⟨_, rfl, rfl⟩ | (simp only [List.length_take, List.length_map, List.length_append, List.length_cons, List.length_nil]; omega) | (simp; done)))))
  refine loop_at (ι := Int) Try.checked.mixed rfl [6, 7] (fun i => [.agg [.d (.sl ((allTr ps).map encS)), .d (.sl ((allDt ps).map encS)), .d (.sl ((allCt ps).map encS)), .d (.sl ((allFn ps).map encS))], .c (.d (.i .i64 i))]) (fun _ => [] :: S)
    (fun i => (0 ≤ i ∧ i ≤ 4) ∧ (1 ≤ i → (allTr ps).Nodup) ∧ (2 ≤ i → (allDt ps).Nodup) ∧ (3 ≤ i → (allCt ps).Nodup) ∧ (4 ≤ i → (allFn ps).Nodup)) (fun i => (4 - i).toNat) 0 rfl rfl ⟨⟨by omega, by omega⟩, by omega, by omega, by omega, by omega⟩ ?_
  rintro i ⟨p0, p1, p2, p3, p4⟩
  have hi : i = 0 ∨ i = 1 ∨ i = 2 ∨ i = 3 ∨ i = 4 := by omega
  rcases hi with rfl | rfl | rfl | rfl | rfl
  · simp -implicitDefEqProofs (disch := omega) only [go_sem, ↓reduceIte, Nat.reduceEqDiff, Nat.reduceAdd, Nat.reduceLeDiff, Nat.reduceSub, Nat.reduceMul, Nat.reduceBEq, Int.reduceEq, Int.reduceLT, Int.reduceLE, Int.reduceGT, Int.reduceGE, Int.reduceNeg, Int.reduceToNat]
    (repeat ((with_reducible refine And.intro ?_ ?_); (focus (first | omega | rfl | assumption | exact ⟨_, rfl, rfl⟩ | (simp only [List.length_take, List.length_map, List.length_append, List.length_cons, List.length_nil]; omega) | (simp; done)))))
    refine call_w (implDistinct_ok (allTr ps) (by omega)) ?_
    simp -implicitDefEqProofs (disch := omega) only [go_sem, ↓reduceIte, Nat.reduceEqDiff, Nat.reduceAdd, Nat.reduceLeDiff, Nat.reduceSub, Nat.reduceMul, Nat.reduceBEq, Int.reduceEq, Int.reduceLT, Int.reduceLE, Int.reduceGT, Int.reduceGE, Int.reduceNeg, Int.reduceToNat] <;> (repeat ((with_reducible refine And.intro ?_ ?_); (focus (first | omega | rfl | assumption | exact ⟨_, rfl, rfl⟩ | (simp only [List.length_take, List.length_map, List.length_append, List.length_cons, List.length_nil]; omega) | (simp; done)))))
    refine split2 (fun hb => ?_) (fun hb => ?_) <;> have h := hb <;> (try simp only [decide_eq_true_eq, decide_eq_false_iff_not, Bool.not_eq_true, Bool.not_eq_false, Bool.not_eq_eq_eq_not, Bool.not_true, Bool.not_false, dec_eq_true, dec_eq_false, Classical.not_not] at h) <;> simp -implicitDefEqProofs (disch := omega) only [go_sem, hb, ↓reduceIte, Nat.reduceEqDiff, Nat.reduceAdd, Nat.reduceLeDiff, Nat.reduceSub, Nat.reduceMul, Nat.reduceBEq, Int.reduceEq, Int.reduceLT, Int.reduceLE, Int.reduceGT, Int.reduceGE, Int.reduceNeg, Int.reduceToNat] <;> (repeat ((with_reducible refine And.intro ?_ ?_); (focus (first | omega | rfl | assumption | exact ⟨_, rfl, rfl⟩ | (simp only [List.length_take, List.length_map, List.length_append, List.length_cons, List.length_nil]; omega) | (simp; done)))))
    · exact bool_eq (by unfold namesUnique; rw [dec_false h]; rfl)
    · exact inv_at 1 (by decide) rfl rfl ⟨⟨by omega, by omega⟩, fun _ => h, by omega, by omega, by omega⟩
  · simp -implicitDefEqProofs (disch := omega) only [go_sem, ↓reduceIte, Nat.reduceEqDiff, Nat.reduceAdd, Nat.reduceLeDiff, Nat.reduceSub, Nat.reduceMul, Nat.reduceBEq, Int.reduceEq, Int.reduceLT, Int.reduceLE, Int.reduceGT, Int.reduceGE, Int.reduceNeg, Int.reduceToNat]
    (repeat ((with_reducible refine And.intro ?_ ?_); (focus (first | omega | rfl | assumption | exact ⟨_, rfl, rfl⟩ | (simp only [List.length_take, List.length_map, List.length_append, List.length_cons, List.length_nil]; omega) | (simp; done)))))
    refine call_w (implDistinct_ok (allDt ps) (by omega)) ?_
    simp -implicitDefEqProofs (disch := omega) only [go_sem, ↓reduceIte, Nat.reduceEqDiff, Nat.reduceAdd, Nat.reduceLeDiff, Nat.reduceSub, Nat.reduceMul, Nat.reduceBEq, Int.reduceEq, Int.reduceLT, Int.reduceLE, Int.reduceGT, Int.reduceGE, Int.reduceNeg, Int.reduceToNat] <;> (repeat ((with_reducible refine And.intro ?_ ?_); (focus (first | omega | rfl | assumption | exact ⟨_, rfl, rfl⟩ | (simp only [List.length_take, List.length_map, List.length_append, List.length_cons, List.length_nil]; omega) | (simp; done)))))
    refine split2 (fun hb => ?_) (fun hb => ?_) <;> have h := hb <;> (try simp only [decide_eq_true_eq, decide_eq_false_iff_not, Bool.not_eq_true, Bool.not_eq_false, Bool.not_eq_eq_eq_not, Bool.not_true, Bool.not_false, dec_eq_true, dec_eq_false, Classical.not_not] at h) <;> simp -implicitDefEqProofs (disch := omega) only [go_sem, hb, ↓reduceIte, Nat.reduceEqDiff, Nat.reduceAdd, Nat.reduceLeDiff, Nat.reduceSub, Nat.reduceMul, Nat.reduceBEq, Int.reduceEq, Int.reduceLT, Int.reduceLE, Int.reduceGT, Int.reduceGE, Int.reduceNeg, Int.reduceToNat] <;> (repeat ((with_reducible refine And.intro ?_ ?_); (focus (first | omega | rfl | assumption | exact ⟨_, rfl, rfl⟩ | (simp only [List.length_take, List.length_map, List.length_append, List.length_cons, List.length_nil]; omega) | (simp; done)))))
    · exact bool_eq (by unfold namesUnique; rw [dec_false h]; simp)
    · exact inv_at 2 (by decide) rfl rfl ⟨⟨by omega, by omega⟩, fun _ => p1 (by omega), fun _ => h, by omega, by omega⟩
  · simp -implicitDefEqProofs (disch := omega) only [go_sem, ↓reduceIte, Nat.reduceEqDiff, Nat.reduceAdd, Nat.reduceLeDiff, Nat.reduceSub, Nat.reduceMul, Nat.reduceBEq, Int.reduceEq, Int.reduceLT, Int.reduceLE, Int.reduceGT, Int.reduceGE, Int.reduceNeg, Int.reduceToNat]
    (repeat ((with_reducible refine And.intro ?_ ?_); (focus (first | omega | rfl | assumption | exact ⟨_, rfl, rfl⟩ | (simp only [List.length_take, List.length_map, List.length_append, List.length_cons, List.length_nil]; omega) | (simp; done)))))
    refine call_w (implDistinct_ok (allCt ps) (by omega)) ?_
    simp -implicitDefEqProofs (disch := omega) only [go_sem, ↓reduceIte, Nat.reduceEqDiff, Nat.reduceAdd, Nat.reduceLeDiff, Nat.reduceSub, Nat.reduceMul, Nat.reduceBEq, Int.reduceEq, Int.reduceLT, Int.reduceLE, Int.reduceGT, Int.reduceGE, Int.reduceNeg, Int.reduceToNat] <;> (repeat ((with_reducible refine And.intro ?_ ?_); (focus (first | omega | rfl | assumption | exact ⟨_, rfl, rfl⟩ | (simp only [List.length_take, List.length_map, List.length_append, List.length_cons, List.length_nil]; omega) | (simp; done)))))
    refine split2 (fun hb => ?_) (fun hb => ?_) <;> have h := hb <;> (try simp only [decide_eq_true_eq, decide_eq_false_iff_not, Bool.not_eq_true, Bool.not_eq_false, Bool.not_eq_eq_eq_not, Bool.not_true, Bool.not_false, dec_eq_true, dec_eq_false, Classical.not_not] at h) <;> simp -implicitDefEqProofs (disch := omega) only [go_sem, hb, ↓reduceIte, Nat.reduceEqDiff, Nat.reduceAdd, Nat.reduceLeDiff, Nat.reduceSub, Nat.reduceMul, Nat.reduceBEq, Int.reduceEq, Int.reduceLT, Int.reduceLE, Int.reduceGT, Int.reduceGE, Int.reduceNeg, Int.reduceToNat] <;> (repeat ((with_reducible refine And.intro ?_ ?_); (focus (first | omega | rfl | assumption | exact ⟨_, rfl, rfl⟩ | (simp only [List.length_take, List.length_map, List.length_append, List.length_cons, List.length_nil]; omega) | (simp; done)))))
    · exact bool_eq (by unfold namesUnique; rw [dec_false h]; simp)
    · exact inv_at 3 (by decide) rfl rfl ⟨⟨by omega, by omega⟩, fun _ => p1 (by omega), fun _ => p2 (by omega), fun _ => h, by omega⟩
  · simp -implicitDefEqProofs (disch := omega) only [go_sem, ↓reduceIte, Nat.reduceEqDiff, Nat.reduceAdd, Nat.reduceLeDiff, Nat.reduceSub, Nat.reduceMul, Nat.reduceBEq, Int.reduceEq, Int.reduceLT, Int.reduceLE, Int.reduceGT, Int.reduceGE, Int.reduceNeg, Int.reduceToNat]
    (repeat ((with_reducible refine And.intro ?_ ?_); (focus (first | omega | rfl | assumption | exact ⟨_, rfl, rfl⟩ | (simp only [List.length_take, List.length_map, List.length_append, List.length_cons, List.length_nil]; omega) | (simp; done)))))
    refine call_w (implDistinct_ok (allFn ps) (by omega)) ?_
    simp -implicitDefEqProofs (disch := omega) only [go_sem, ↓reduceIte, Nat.reduceEqDiff, Nat.reduceAdd, Nat.reduceLeDiff, Nat.reduceSub, Nat.reduceMul, Nat.reduceBEq, Int.reduceEq, Int.reduceLT, Int.reduceLE, Int.reduceGT, Int.reduceGE, Int.reduceNeg, Int.reduceToNat] <;> (repeat ((with_reducible refine And.intro ?_ ?_); (focus (first | omega | rfl | assumption | exact ⟨_, rfl, rfl⟩ | (simp only [List.length_take, List.length_map, List.length_append, List.length_cons, List.length_nil]; omega) | (simp; done)))))
    refine split2 (fun hb => ?_) (fun hb => ?_) <;> have h := hb <;> (try simp only [decide_eq_true_eq, decide_eq_false_iff_not, Bool.not_eq_true, Bool.not_eq_false, Bool.not_eq_eq_eq_not, Bool.not_true, Bool.not_false, dec_eq_true, dec_eq_false, Classical.not_not] at h) <;> simp -implicitDefEqProofs (disch := omega) only [go_sem, hb, ↓reduceIte, Nat.reduceEqDiff, Nat.reduceAdd, Nat.reduceLeDiff, Nat.reduceSub, Nat.reduceMul, Nat.reduceBEq, Int.reduceEq, Int.reduceLT, Int.reduceLE, Int.reduceGT, Int.reduceGE, Int.reduceNeg, Int.reduceToNat] <;> (repeat ((with_reducible refine And.intro ?_ ?_); (focus (first | omega | rfl | assumption | exact ⟨_, rfl, rfl⟩ | (simp only [List.length_take, List.length_map, List.length_append, List.length_cons, List.length_nil]; omega) | (simp; done)))))
    · exact bool_eq (by unfold namesUnique; rw [dec_false h]; simp)
    · exact inv_at 4 (by decide) rfl rfl ⟨⟨by omega, by omega⟩, fun _ => p1 (by omega), fun _ => p2 (by omega), fun _ => p3 (by omega), fun _ => h⟩
  · simp -implicitDefEqProofs (disch := omega) only [go_sem, ↓reduceIte, Nat.reduceEqDiff, Nat.reduceAdd, Nat.reduceLeDiff, Nat.reduceSub, Nat.reduceMul, Nat.reduceBEq, Int.reduceEq, Int.reduceLT, Int.reduceLE, Int.reduceGT, Int.reduceGE, Int.reduceNeg, Int.reduceToNat]
    exact bool_eq (by unfold namesUnique; rw [dec_true (p1 (by omega)), dec_true (p2 (by omega)), dec_true (p3 (by omega)), dec_true (p4 (by omega))]; rfl)
theorem implNamesUnique_ok (w : MProgram) (hsz : w.sz ≤ 4194304) : PCall Try.prog 32 [w.v] (.c (.d (.b (namesUnique w.fPackages)))) := fun S => by
  have hb0 := MProgram.bounds hsz
  have hz : szRows (w.fPackages.map MPackage.enc) ≤ 4194304 := by
    simp only [MProgram.sz, MProgram.enc_eq, szRow, szRow_append, D.sz, List.length_map] at hsz
    omega
  refine acall_cw (rs := [.tmp 2]) Try.checked.mixed Try.func32 Try.ntmps32 rfl rfl rfl rfl rfl ?_
  simp -implicitDefEqProofs (disch := omega) only [go_sem, ↓reduceIte, Nat.reduceEqDiff, Nat.reduceAdd, Nat.reduceLeDiff, Nat.reduceSub, Nat.reduceMul, Nat.reduceBEq, Int.reduceEq, Int.reduceLT, Int.reduceLE, Int.reduceGT, Int.reduceGE, Int.reduceNeg, Int.reduceToNat]
  refine call_w (areUnique_ok w.fPackages hb0 hz) ?_
  simp -implicitDefEqProofs (disch := omega) only [go_sem, ↓reduceIte, Nat.reduceEqDiff, Nat.reduceAdd, Nat.reduceLeDiff, Nat.reduceSub, Nat.reduceMul, Nat.reduceBEq, Int.reduceEq, Int.reduceLT, Int.reduceLE, Int.reduceGT, Int.reduceGE, Int.reduceNeg, Int.reduceToNat] <;> (repeat ((with_reducible refine And.intro ?_ ?_); (focus (first | omega | rfl | assumption | exact ⟨_, rfl, rfl⟩ | (simp only [List.length_take, List.length_map, List.length_append, List.length_cons, List.length_nil]; omega) | (simp; done)))))
end Go.Proofs.Ytjfhgcnoielpfaa

/- THE WALK of laws.FnExactNamesUnique: it answers true. -/
namespace Go.Proofs.Ytjfhgcnoielpfaa.fnExactNamesUnique
open Go Go.Ab

theorem law (x0 : MProgram) (f0 : FitL x0.enc) : ACall Try.prog 8 [x0.v] [] (fun r _ => r = .c (.d (.b true))) := by
  refine acall_cw (rs := [.tmp 2]) Try.checked.mixed Try.func8 Try.ntmps8 rfl rfl rfl rfl rfl ?_
  simp -implicitDefEqProofs (disch := omega) only [go_sem, ↓reduceIte, Nat.reduceEqDiff, Nat.reduceAdd, Nat.reduceLeDiff, Nat.reduceSub, Nat.reduceMul, Nat.reduceBEq, Int.reduceEq, Int.reduceLT, Int.reduceLE, Int.reduceGT, Int.reduceGE, Int.reduceNeg, Int.reduceToNat]
  refine call_w (szProgram_ok x0 _ (by omega) (by omega) f0) ?_
  simp -implicitDefEqProofs (disch := omega) only [go_sem, ↓reduceIte, Nat.reduceEqDiff, Nat.reduceAdd, Nat.reduceLeDiff, Nat.reduceSub, Nat.reduceMul, Nat.reduceBEq, Int.reduceEq, Int.reduceLT, Int.reduceLE, Int.reduceGT, Int.reduceGE, Int.reduceNeg, Int.reduceToNat] <;> (repeat ((with_reducible refine And.intro ?_ ?_); (focus (first | omega | rfl | assumption | exact ⟨_, rfl, rfl⟩ | (simp only [List.length_take, List.length_map, List.length_append, List.length_cons, List.length_nil]; omega) | (simp; done)))))
  refine split2 (fun hb => ?_) (fun hb => ?_) <;> have h := hb <;> (try simp only [decide_eq_true_eq, decide_eq_false_iff_not, Bool.not_eq_true, Bool.not_eq_false, Bool.not_eq_eq_eq_not, Bool.not_true, Bool.not_false, dec_eq_true, dec_eq_false, Classical.not_not] at h) <;> simp -implicitDefEqProofs (disch := omega) only [go_sem, hb, ↓reduceIte, Nat.reduceEqDiff, Nat.reduceAdd, Nat.reduceLeDiff, Nat.reduceSub, Nat.reduceMul, Nat.reduceBEq, Int.reduceEq, Int.reduceLT, Int.reduceLE, Int.reduceGT, Int.reduceGE, Int.reduceNeg, Int.reduceToNat] <;> (repeat ((with_reducible refine And.intro ?_ ?_); (focus (first | omega | rfl | assumption | exact ⟨_, rfl, rfl⟩ | (simp only [List.length_take, List.length_map, List.length_append, List.length_cons, List.length_nil]; omega) | (simp; done)))))
  have h0 := sub1_nn h
  refine call_w (toProgram_ok x0 (by omega)) ?_
  simp -implicitDefEqProofs (disch := omega) only [go_sem, ↓reduceIte, Nat.reduceEqDiff, Nat.reduceAdd, Nat.reduceLeDiff, Nat.reduceSub, Nat.reduceMul, Nat.reduceBEq, Int.reduceEq, Int.reduceLT, Int.reduceLE, Int.reduceGT, Int.reduceGE, Int.reduceNeg, Int.reduceToNat] <;> (repeat ((with_reducible refine And.intro ?_ ?_); (focus (first | omega | rfl | assumption | exact ⟨_, rfl, rfl⟩ | (simp only [List.length_take, List.length_map, List.length_append, List.length_cons, List.length_nil]; omega) | (simp; done)))))
  refine call_w (specNamesUnique_ok x0 (by omega)) ?_
  simp -implicitDefEqProofs (disch := omega) only [go_sem, ↓reduceIte, Nat.reduceEqDiff, Nat.reduceAdd, Nat.reduceLeDiff, Nat.reduceSub, Nat.reduceMul, Nat.reduceBEq, Int.reduceEq, Int.reduceLT, Int.reduceLE, Int.reduceGT, Int.reduceGE, Int.reduceNeg, Int.reduceToNat] <;> (repeat ((with_reducible refine And.intro ?_ ?_); (focus (first | omega | rfl | assumption | exact ⟨_, rfl, rfl⟩ | (simp only [List.length_take, List.length_map, List.length_append, List.length_cons, List.length_nil]; omega) | (simp; done)))))
  refine call_w (toProgram_ok x0 (by omega)) ?_
  simp -implicitDefEqProofs (disch := omega) only [go_sem, ↓reduceIte, Nat.reduceEqDiff, Nat.reduceAdd, Nat.reduceLeDiff, Nat.reduceSub, Nat.reduceMul, Nat.reduceBEq, Int.reduceEq, Int.reduceLT, Int.reduceLE, Int.reduceGT, Int.reduceGE, Int.reduceNeg, Int.reduceToNat] <;> (repeat ((with_reducible refine And.intro ?_ ?_); (focus (first | omega | rfl | assumption | exact ⟨_, rfl, rfl⟩ | (simp only [List.length_take, List.length_map, List.length_append, List.length_cons, List.length_nil]; omega) | (simp; done)))))
  refine call_w (implNamesUnique_ok x0 (by omega)) ?_
  simp -implicitDefEqProofs (disch := omega) only [go_sem, ↓reduceIte, Nat.reduceEqDiff, Nat.reduceAdd, Nat.reduceLeDiff, Nat.reduceSub, Nat.reduceMul, Nat.reduceBEq, Int.reduceEq, Int.reduceLT, Int.reduceLE, Int.reduceGT, Int.reduceGE, Int.reduceNeg, Int.reduceToNat] <;> (repeat ((with_reducible refine And.intro ?_ ?_); (focus (first | omega | rfl | assumption | exact ⟨_, rfl, rfl⟩ | (simp only [List.length_take, List.length_map, List.length_append, List.length_cons, List.length_nil]; omega) | (simp; done)))))
  refine call_w (toProgram_ok x0 (by omega)) ?_
  simp -implicitDefEqProofs (disch := omega) only [go_sem, ↓reduceIte, Nat.reduceEqDiff, Nat.reduceAdd, Nat.reduceLeDiff, Nat.reduceSub, Nat.reduceMul, Nat.reduceBEq, Int.reduceEq, Int.reduceLT, Int.reduceLE, Int.reduceGT, Int.reduceGE, Int.reduceNeg, Int.reduceToNat] <;> (repeat ((with_reducible refine And.intro ?_ ?_); (focus (first | omega | rfl | assumption | exact ⟨_, rfl, rfl⟩ | (simp only [List.length_take, List.length_map, List.length_append, List.length_cons, List.length_nil]; omega) | (simp; done)))))
  refine call_w (eqProgram_ok x0 x0 (by omega)) ?_
  simp -implicitDefEqProofs (disch := omega) only [go_sem, ↓reduceIte, Nat.reduceEqDiff, Nat.reduceAdd, Nat.reduceLeDiff, Nat.reduceSub, Nat.reduceMul, Nat.reduceBEq, Int.reduceEq, Int.reduceLT, Int.reduceLE, Int.reduceGT, Int.reduceGE, Int.reduceNeg, Int.reduceToNat] <;> (repeat ((with_reducible refine And.intro ?_ ?_); (focus (first | omega | rfl | assumption | exact ⟨_, rfl, rfl⟩ | (simp only [List.length_take, List.length_map, List.length_append, List.length_cons, List.length_nil]; omega) | (simp; done)))))
end Go.Proofs.Ytjfhgcnoielpfaa.fnExactNamesUnique

