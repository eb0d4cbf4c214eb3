/-
  CONTRACTS: valid data types, the program's and the reference's.
-/
import Derived.Test.YtjfhgcnoielpfaaIa
import Derived.Test.YtjfhgcnoielpfaaLhDataType
set_option linter.unusedSimpArgs false
set_option linter.unusedVariables false
set_option maxRecDepth 4000
namespace Go.Ab
theorem strs_b {s : List UInt8} {xs : List (List UInt8)} (h : s ∈ xs) : s.length ≤ szRows (xs.map encS) := by
  have := szRows_mem (List.mem_map_of_mem (f := encS) h)
  simpa [encS, szRow, D.sz] using this
theorem MDataType.bounds {x : MDataType} (h : x.sz ≤ 4194304) : x.fName.length ≤ 4194304 ∧ x.fVars.length ≤ 4194304 ∧ x.fConstructors.length ≤ 4194304 ∧ ∀ s ∈ x.fVars, s.length ≤ 4194304 := by
  simp only [MDataType.sz, MDataType.enc_eq, szRow, szRow_append, D.sz, List.length_map] at h
  refine ⟨by omega, by omega, by omega, fun s hs => ?_⟩
  have := strs_b hs
  omega
theorem MDataType.con_b {x : MDataType} {i : Nat} (hi : i < x.fConstructors.length) (h : x.sz ≤ 4194304) : x.fConstructors[i].sz ≤ 4194304 := by
  have hx : x.fConstructors[i].sz ≤ szRows (x.fConstructors.map MConstructor.enc) := szRows_mem (List.mem_map_of_mem (List.getElem_mem hi))
  simp only [MDataType.sz, MDataType.enc_eq, szRow, szRow_append, D.sz, List.length_map] at h
  omega
theorem MConstructor.bounds {x : MConstructor} (h : x.sz ≤ 4194304) : x.fName.length ≤ 4194304 ∧ x.fFields.length ≤ 4194304 ∧ ∀ t ∈ x.fFields, t.sz ≤ 4194304 := by
  simp only [MConstructor.sz, MConstructor.enc_eq, szRow, szRow_append, D.sz, List.length_map] at h
  refine ⟨by omega, by omega, fun t ht => ?_⟩
  have hx : t.sz ≤ szRows (x.fFields.map MType.enc) := szRows_mem (List.mem_map_of_mem ht)
  omega
noncomputable def consOk (vars : List (List UInt8)) (c : MConstructor) : Bool := dec (c.fFields.length ≤ 4) && typesOver vars c.fFields
noncomputable def consNames (d : MDataType) : List (List UInt8) := d.fConstructors.map MConstructor.fName
noncomputable def validData (d : MDataType) : Bool :=
  validName d.fName && (dec (d.fVars.length ≤ 3) && (namesOk d.fVars && (dec (1 ≤ d.fConstructors.length) && (dec (d.fConstructors.length ≤ 5) && (d.fConstructors.all (consOk d.fVars) && namesOk (consNames d))))))
end Go.Ab
namespace Go.Proofs.Ytjfhgcnoielpfaa
open Go Go.Ab

theorem specValidData_ok (d : MDataType) (hsz : d.sz ≤ 4194304) : PCall Try.prog 15 [d.v] (.c (.d (.b (validData d)))) := fun S => by
  have hb0 := MDataType.bounds hsz
  have bad : ∀ i, ∀ hi : i < d.fConstructors.length, consOk d.fVars d.fConstructors[i] = false → validData d = false := fun i hi h => by
    have : d.fConstructors.all (consOk d.fVars) = false := Bool.eq_false_iff.2 fun hx => by
      rw [List.all_eq_true.1 hx _ (List.getElem_mem hi)] at h; cases h
    unfold validData
    rw [this]; simp
  refine acall_cw (rs := [.tmp 2]) Try.checked.mixed Try.func15 Try.ntmps15 rfl rfl rfl rfl rfl ?_
  simp -implicitDefEqProofs (disch := omega) only [go_sem, ↓reduceIte, Nat.reduceEqDiff, Nat.reduceAdd, Nat.reduceLeDiff, Nat.reduceSub, Nat.reduceMul, Nat.reduceBEq, Int.reduceEq, Int.reduceLT, Int.reduceLE, Int.reduceGT, Int.reduceGE, Int.reduceNeg]
  (repeat ((with_reducible refine And.intro ?_ ?_); (focus (first | omega | rfl | assumption | exact ⟨_, rfl, rfl⟩ | (simp only [List.length_take, List.length_map, List.length_append, List.length_cons, List.length_nil]; omega) | (simp; done)))))
  refine aw_tok 3 1 [] rfl (by simp) ?_
  refine loop_at (ι := Nat × List (List UInt8)) Try.checked.mixed rfl [1, 3, 4] (fun y => [.c (.ptr (0, 0) 0), .c (.tsl (0, 1) (y.2.map encS)), .c (.d (.i .i64 y.1))]) (fun y => [.box (d.enc.map .d), .tok 1 (y.2.map encS)] :: S)
    (fun y => y.1 ≤ d.fConstructors.length ∧ y.2 = (consNames d).take y.1 ∧ ∀ j, ∀ hj : j < d.fConstructors.length, j < y.1 → consOk d.fVars d.fConstructors[j] = true) (fun y => d.fConstructors.length - y.1) (0, []) rfl ?_ ⟨Nat.zero_le _, rfl, fun j _ h => by simp only at h; omega⟩ ?_
  · simp -implicitDefEqProofs (disch := omega) only [go_sem, ↓reduceIte, Nat.reduceEqDiff, Nat.reduceAdd, Nat.reduceLeDiff, Nat.reduceSub, Nat.reduceMul, Nat.reduceBEq, Int.reduceEq, Int.reduceLT, Int.reduceLE, Int.reduceGT, Int.reduceGE, Int.reduceNeg]
  rintro ⟨i, names⟩ ⟨p1, p2, p3⟩
  simp only at p1 p2 p3
  have pl : names.length ≤ d.fConstructors.length := by rw [p2]; simp [consNames]; omega
  simp -implicitDefEqProofs (disch := omega) only [go_sem, ↓reduceIte, Nat.reduceEqDiff, Nat.reduceAdd, Nat.reduceLeDiff, Nat.reduceSub, Nat.reduceMul, Nat.reduceBEq, Int.reduceEq, Int.reduceLT, Int.reduceLE, Int.reduceGT, Int.reduceGE, Int.reduceNeg]
  refine split2 (fun hb => ?_) (fun hb => ?_) <;> have h := hb <;> (try simp only [decide_eq_true_eq, decide_eq_false_iff_not, Bool.not_eq_true, Bool.not_eq_false, Bool.not_eq_eq_eq_not, Bool.not_true, Bool.not_false, dec_eq_true, dec_eq_false, Classical.not_not] at h) <;> simp -implicitDefEqProofs (disch := omega) only [go_sem, hb, ↓reduceIte, Nat.reduceEqDiff, Nat.reduceAdd, Nat.reduceLeDiff, Nat.reduceSub, Nat.reduceMul, Nat.reduceBEq, Int.reduceEq, Int.reduceLT, Int.reduceLE, Int.reduceGT, Int.reduceGE, Int.reduceNeg] <;> (repeat ((with_reducible refine And.intro ?_ ?_); (focus (first | omega | rfl | assumption | exact ⟨_, rfl, rfl⟩ | (simp only [List.length_take, List.length_map, List.length_append, List.length_cons, List.length_nil]; omega) | (simp; done)))))
  · have hi : i < d.fConstructors.length := by omega
    have hc := MConstructor.bounds (MDataType.con_b hi hsz)
    (repeat ((with_reducible refine And.intro ?_ ?_); (focus (first | omega | rfl | assumption | exact ⟨_, rfl, rfl⟩ | (simp only [List.length_take, List.length_map, List.length_append, List.length_cons, List.length_nil]; omega) | (simp; done)))))
    refine split2 (fun hb => ?_) (fun hb => ?_) <;> have h := hb <;> (try simp only [decide_eq_true_eq, decide_eq_false_iff_not, Bool.not_eq_true, Bool.not_eq_false, Bool.not_eq_eq_eq_not, Bool.not_true, Bool.not_false, dec_eq_true, dec_eq_false, Classical.not_not] at h) <;> simp -implicitDefEqProofs (disch := omega) only [go_sem, hb, ↓reduceIte, Nat.reduceEqDiff, Nat.reduceAdd, Nat.reduceLeDiff, Nat.reduceSub, Nat.reduceMul, Nat.reduceBEq, Int.reduceEq, Int.reduceLT, Int.reduceLE, Int.reduceGT, Int.reduceGE, Int.reduceNeg] <;> (repeat ((with_reducible refine And.intro ?_ ?_); (focus (first | omega | rfl | assumption | exact ⟨_, rfl, rfl⟩ | (simp only [List.length_take, List.length_map, List.length_append, List.length_cons, List.length_nil]; omega) | (simp; done)))))
    · rw [bad i hi (by unfold consOk; rw [dec_false (by omega)]; rfl)]
    have h1 := h
    (repeat ((with_reducible refine And.intro ?_ ?_); (focus (first | omega | rfl | assumption | exact ⟨_, rfl, rfl⟩ | (simp only [List.length_take, List.length_map, List.length_append, List.length_cons, List.length_nil]; omega) | (simp; done)))))
    refine call_w (l13All_ok d.fConstructors[i].fFields d.fVars (by omega) hc.2.2 (by omega)) ?_
    simp -implicitDefEqProofs (disch := omega) only [go_sem, ↓reduceIte, Nat.reduceEqDiff, Nat.reduceAdd, Nat.reduceLeDiff, Nat.reduceSub, Nat.reduceMul, Nat.reduceBEq, Int.reduceEq, Int.reduceLT, Int.reduceLE, Int.reduceGT, Int.reduceGE, Int.reduceNeg] <;> (repeat ((with_reducible refine And.intro ?_ ?_); (focus (first | omega | rfl | assumption | exact ⟨_, rfl, rfl⟩ | (simp only [List.length_take, List.length_map, List.length_append, List.length_cons, List.length_nil]; omega) | (simp; done)))))
    refine split2 (fun hb => ?_) (fun hb => ?_) <;> have h := hb <;> (try simp only [decide_eq_true_eq, decide_eq_false_iff_not, Bool.not_eq_true, Bool.not_eq_false, Bool.not_eq_eq_eq_not, Bool.not_true, Bool.not_false, dec_eq_true, dec_eq_false, Classical.not_not] at h) <;> simp -implicitDefEqProofs (disch := omega) only [go_sem, hb, ↓reduceIte, Nat.reduceEqDiff, Nat.reduceAdd, Nat.reduceLeDiff, Nat.reduceSub, Nat.reduceMul, Nat.reduceBEq, Int.reduceEq, Int.reduceLT, Int.reduceLE, Int.reduceGT, Int.reduceGE, Int.reduceNeg] <;> (repeat ((with_reducible refine And.intro ?_ ?_); (focus (first | omega | rfl | assumption | exact ⟨_, rfl, rfl⟩ | (simp only [List.length_take, List.length_map, List.length_append, List.length_cons, List.length_nil]; omega) | (simp; done)))))
    · rw [bad i hi (by unfold consOk; rw [h]; simp)]
    have h2 := h
    (repeat ((with_reducible refine And.intro ?_ ?_); (focus (first | omega | rfl | assumption | exact ⟨_, rfl, rfl⟩ | (simp only [List.length_take, List.length_map, List.length_append, List.length_cons, List.length_nil]; omega) | (simp; done)))))
    rw [show List.map encS names ++ [[D.s d.fConstructors[i].fName]] = List.map encS (names ++ [d.fConstructors[i].fName]) by simp [encS]]
    exact inv_at (i + 1, names ++ [d.fConstructors[i].fName]) (by simp only; omega) rfl rfl ⟨by simp only; omega, by simp only; rw [p2, take_snoc (by simpa [consNames] using hi)]; simp [consNames], fun j hj hji => by
      simp only at hji
      by_cases e : j = i
      · subst e; unfold consOk; rw [h2, dec_true (by omega)]; rfl
      · exact p3 j hj (by omega)⟩
  have hi : i = d.fConstructors.length := by omega
  have hn : names = consNames d := by rw [p2, List.take_of_length_le (by simp [consNames]; omega)]
  have hall : d.fConstructors.all (consOk d.fVars) = true := List.all_eq_true.2 fun c hc => by
    obtain ⟨j, hj, e⟩ := List.getElem_of_mem hc
    rw [← e]; exact p3 j hj (by omega)
  have hnl : ∀ s ∈ names, s.length ≤ 4194304 := fun s hs => by
    rw [hn] at hs
    obtain ⟨c, hc, e⟩ := List.mem_map.1 hs
    obtain ⟨j, hj, e'⟩ := List.getElem_of_mem hc
    rw [← e, ← e']; exact (MConstructor.bounds (MDataType.con_b hj hsz)).1
  have hlen : names.length = d.fConstructors.length := by rw [hn]; simp [consNames]
  refine call_w (specValidName_ok d.fName (by omega)) ?_
  simp -implicitDefEqProofs (disch := omega) only [go_sem, ↓reduceIte, Nat.reduceEqDiff, Nat.reduceAdd, Nat.reduceLeDiff, Nat.reduceSub, Nat.reduceMul, Nat.reduceBEq, Int.reduceEq, Int.reduceLT, Int.reduceLE, Int.reduceGT, Int.reduceGE, Int.reduceNeg] <;> (repeat ((with_reducible refine And.intro ?_ ?_); (focus (first | omega | rfl | assumption | exact ⟨_, rfl, rfl⟩ | (simp only [List.length_take, List.length_map, List.length_append, List.length_cons, List.length_nil]; omega) | (simp; done)))))
  refine split2 (fun hb => ?_) (fun hb => ?_) <;> have h := hb <;> (try simp only [decide_eq_true_eq, decide_eq_false_iff_not, Bool.not_eq_true, Bool.not_eq_false, Bool.not_eq_eq_eq_not, Bool.not_true, Bool.not_false, dec_eq_true, dec_eq_false, Classical.not_not] at h) <;> simp -implicitDefEqProofs (disch := omega) only [go_sem, hb, ↓reduceIte, Nat.reduceEqDiff, Nat.reduceAdd, Nat.reduceLeDiff, Nat.reduceSub, Nat.reduceMul, Nat.reduceBEq, Int.reduceEq, Int.reduceLT, Int.reduceLE, Int.reduceGT, Int.reduceGE, Int.reduceNeg] <;> (repeat ((with_reducible refine And.intro ?_ ?_); (focus (first | omega | rfl | assumption | exact ⟨_, rfl, rfl⟩ | (simp only [List.length_take, List.length_map, List.length_append, List.length_cons, List.length_nil]; omega) | (simp; done)))))
  · have h1 := h
    refine call_w (l13Words_ok d.fVars 3 (by omega) hb0.2.2.2) ?_
    simp -implicitDefEqProofs (disch := omega) only [go_sem, ↓reduceIte, Nat.reduceEqDiff, Nat.reduceAdd, Nat.reduceLeDiff, Nat.reduceSub, Nat.reduceMul, Nat.reduceBEq, Int.reduceEq, Int.reduceLT, Int.reduceLE, Int.reduceGT, Int.reduceGE, Int.reduceNeg] <;> (repeat ((with_reducible refine And.intro ?_ ?_); (focus (first | omega | rfl | assumption | exact ⟨_, rfl, rfl⟩ | (simp only [List.length_take, List.length_map, List.length_append, List.length_cons, List.length_nil]; omega) | (simp; done)))))
    refine split2 (fun hb => ?_) (fun hb => ?_) <;> have h := hb <;> (try simp only [decide_eq_true_eq, decide_eq_false_iff_not, Bool.not_eq_true, Bool.not_eq_false, Bool.not_eq_eq_eq_not, Bool.not_true, Bool.not_false, dec_eq_true, dec_eq_false, Classical.not_not] at h) <;> simp -implicitDefEqProofs (disch := omega) only [go_sem, hb, ↓reduceIte, Nat.reduceEqDiff, Nat.reduceAdd, Nat.reduceLeDiff, Nat.reduceSub, Nat.reduceMul, Nat.reduceBEq, Int.reduceEq, Int.reduceLT, Int.reduceLE, Int.reduceGT, Int.reduceGE, Int.reduceNeg] <;> (repeat ((with_reducible refine And.intro ?_ ?_); (focus (first | omega | rfl | assumption | exact ⟨_, rfl, rfl⟩ | (simp only [List.length_take, List.length_map, List.length_append, List.length_cons, List.length_nil]; omega) | (simp; done)))))
    · have h2 := h
      refine split2 (fun hb => ?_) (fun hb => ?_) <;> have h := hb <;> (try simp only [decide_eq_true_eq, decide_eq_false_iff_not, Bool.not_eq_true, Bool.not_eq_false, Bool.not_eq_eq_eq_not, Bool.not_true, Bool.not_false, dec_eq_true, dec_eq_false, Classical.not_not] at h) <;> simp -implicitDefEqProofs (disch := omega) only [go_sem, hb, ↓reduceIte, Nat.reduceEqDiff, Nat.reduceAdd, Nat.reduceLeDiff, Nat.reduceSub, Nat.reduceMul, Nat.reduceBEq, Int.reduceEq, Int.reduceLT, Int.reduceLE, Int.reduceGT, Int.reduceGE, Int.reduceNeg] <;> (repeat ((with_reducible refine And.intro ?_ ?_); (focus (first | omega | rfl | assumption | exact ⟨_, rfl, rfl⟩ | (simp only [List.length_take, List.length_map, List.length_append, List.length_cons, List.length_nil]; omega) | (simp; done)))))
      · have h3 := h
        refine call_w (l13Words_ok names 5 (by omega) hnl) ?_
        simp -implicitDefEqProofs (disch := omega) only [go_sem, ↓reduceIte, Nat.reduceEqDiff, Nat.reduceAdd, Nat.reduceLeDiff, Nat.reduceSub, Nat.reduceMul, Nat.reduceBEq, Int.reduceEq, Int.reduceLT, Int.reduceLE, Int.reduceGT, Int.reduceGE, Int.reduceNeg] <;> (repeat ((with_reducible refine And.intro ?_ ?_); (focus (first | omega | rfl | assumption | exact ⟨_, rfl, rfl⟩ | (simp only [List.length_take, List.length_map, List.length_append, List.length_cons, List.length_nil]; omega) | (simp; done)))))
        refine bool_eq ?_
        rw [Bool.and_eq_true] at h2
        have h4 := of_dec h2.1
        unfold validData
        rw [h1, h2.2, hall, ← hn, dec_true (show d.fVars.length ≤ 3 by omega), dec_true (show 1 ≤ d.fConstructors.length by omega), hlen]
        simp only [Bool.true_and]
        congr 1
        exact dec_congr ⟨fun h => by omega, fun h => by omega⟩
      · refine bool_eq ?_
        unfold validData
        rw [dec_false (show ¬ 1 ≤ d.fConstructors.length by omega)]; simp
    · refine bool_eq ?_
      unfold validData
      have h2 : (dec (d.fVars.length ≤ 3) && namesOk d.fVars) = false := by
        rw [← h]; congr 1; exact dec_congr ⟨fun h => by omega, fun h => by omega⟩
      rw [← Bool.and_assoc (dec (d.fVars.length ≤ 3)), h2]; simp
  · exact bool_eq (by unfold validData; rw [h]; rfl)
theorem implValidData_ok (d : MDataType) (hsz : d.sz ≤ 4194304) : PCall Try.prog 17 [d.v] (.c (.d (.b (validData d)))) := fun S => by
  have hb0 := MDataType.bounds hsz
  have bad : ∀ i, ∀ hi : i < d.fConstructors.length, consOk d.fVars d.fConstructors[i] = false → validData d = false := fun i hi h => by
    have : d.fConstructors.all (consOk d.fVars) = false := Bool.eq_false_iff.2 fun hx => by
      rw [List.all_eq_true.1 hx _ (List.getElem_mem hi)] at h; cases h
    unfold validData
    rw [this]; simp
  refine acall_cw (rs := [.tmp 2]) Try.checked.mixed Try.func17 Try.ntmps17 rfl rfl rfl rfl rfl ?_
  simp -implicitDefEqProofs (disch := omega) only [go_sem, ↓reduceIte, Nat.reduceEqDiff, Nat.reduceAdd, Nat.reduceLeDiff, Nat.reduceSub, Nat.reduceMul, Nat.reduceBEq, Int.reduceEq, Int.reduceLT, Int.reduceLE, Int.reduceGT, Int.reduceGE, Int.reduceNeg]
  refine call_w (implValidName_ok d.fName (by omega)) ?_
  simp -implicitDefEqProofs (disch := omega) only [go_sem, ↓reduceIte, Nat.reduceEqDiff, Nat.reduceAdd, Nat.reduceLeDiff, Nat.reduceSub, Nat.reduceMul, Nat.reduceBEq, Int.reduceEq, Int.reduceLT, Int.reduceLE, Int.reduceGT, Int.reduceGE, Int.reduceNeg] <;> (repeat ((with_reducible refine And.intro ?_ ?_); (focus (first | omega | rfl | assumption | exact ⟨_, rfl, rfl⟩ | (simp only [List.length_take, List.length_map, List.length_append, List.length_cons, List.length_nil]; omega) | (simp; done)))))
  refine split2 (fun hb => ?_) (fun hb => ?_) <;> have h := hb <;> (try simp only [decide_eq_true_eq, decide_eq_false_iff_not, Bool.not_eq_true, Bool.not_eq_false, Bool.not_eq_eq_eq_not, Bool.not_true, Bool.not_false, dec_eq_true, dec_eq_false, Classical.not_not] at h) <;> simp -implicitDefEqProofs (disch := omega) only [go_sem, hb, ↓reduceIte, Nat.reduceEqDiff, Nat.reduceAdd, Nat.reduceLeDiff, Nat.reduceSub, Nat.reduceMul, Nat.reduceBEq, Int.reduceEq, Int.reduceLT, Int.reduceLE, Int.reduceGT, Int.reduceGE, Int.reduceNeg] <;> (repeat ((with_reducible refine And.intro ?_ ?_); (focus (first | omega | rfl | assumption | exact ⟨_, rfl, rfl⟩ | (simp only [List.length_take, List.length_map, List.length_append, List.length_cons, List.length_nil]; omega) | (simp; done)))))
  · exact bool_eq (by unfold validData; rw [h]; rfl)
  have h1 := h
  refine split2 (fun hb => ?_) (fun hb => ?_) <;> have h := hb <;> (try simp only [decide_eq_true_eq, decide_eq_false_iff_not, Bool.not_eq_true, Bool.not_eq_false, Bool.not_eq_eq_eq_not, Bool.not_true, Bool.not_false, dec_eq_true, dec_eq_false, Classical.not_not] at h) <;> simp -implicitDefEqProofs (disch := omega) only [go_sem, hb, ↓reduceIte, Nat.reduceEqDiff, Nat.reduceAdd, Nat.reduceLeDiff, Nat.reduceSub, Nat.reduceMul, Nat.reduceBEq, Int.reduceEq, Int.reduceLT, Int.reduceLE, Int.reduceGT, Int.reduceGE, Int.reduceNeg] <;> (repeat ((with_reducible refine And.intro ?_ ?_); (focus (first | omega | rfl | assumption | exact ⟨_, rfl, rfl⟩ | (simp only [List.length_take, List.length_map, List.length_append, List.length_cons, List.length_nil]; omega) | (simp; done)))))
  · exact bool_eq (by unfold validData; rw [dec_false (show ¬ d.fVars.length ≤ 3 by omega)]; simp)
  have h2 := h
  refine call_w (areNames_ok d.fVars (by omega) hb0.2.2.2) ?_
  simp -implicitDefEqProofs (disch := omega) only [go_sem, ↓reduceIte, Nat.reduceEqDiff, Nat.reduceAdd, Nat.reduceLeDiff, Nat.reduceSub, Nat.reduceMul, Nat.reduceBEq, Int.reduceEq, Int.reduceLT, Int.reduceLE, Int.reduceGT, Int.reduceGE, Int.reduceNeg] <;> (repeat ((with_reducible refine And.intro ?_ ?_); (focus (first | omega | rfl | assumption | exact ⟨_, rfl, rfl⟩ | (simp only [List.length_take, List.length_map, List.length_append, List.length_cons, List.length_nil]; omega) | (simp; done)))))
  refine split2 (fun hb => ?_) (fun hb => ?_) <;> have h := hb <;> (try simp only [decide_eq_true_eq, decide_eq_false_iff_not, Bool.not_eq_true, Bool.not_eq_false, Bool.not_eq_eq_eq_not, Bool.not_true, Bool.not_false, dec_eq_true, dec_eq_false, Classical.not_not] at h) <;> simp -implicitDefEqProofs (disch := omega) only [go_sem, hb, ↓reduceIte, Nat.reduceEqDiff, Nat.reduceAdd, Nat.reduceLeDiff, Nat.reduceSub, Nat.reduceMul, Nat.reduceBEq, Int.reduceEq, Int.reduceLT, Int.reduceLE, Int.reduceGT, Int.reduceGE, Int.reduceNeg] <;> (repeat ((with_reducible refine And.intro ?_ ?_); (focus (first | omega | rfl | assumption | exact ⟨_, rfl, rfl⟩ | (simp only [List.length_take, List.length_map, List.length_append, List.length_cons, List.length_nil]; omega) | (simp; done)))))
  · exact bool_eq (by unfold validData; rw [h]; simp)
  have h3 := h
  refine split2 (fun hb => ?_) (fun hb => ?_) <;> have h := hb <;> (try simp only [decide_eq_true_eq, decide_eq_false_iff_not, Bool.not_eq_true, Bool.not_eq_false, Bool.not_eq_eq_eq_not, Bool.not_true, Bool.not_false, dec_eq_true, dec_eq_false, Classical.not_not] at h) <;> simp -implicitDefEqProofs (disch := omega) only [go_sem, hb, ↓reduceIte, Nat.reduceEqDiff, Nat.reduceAdd, Nat.reduceLeDiff, Nat.reduceSub, Nat.reduceMul, Nat.reduceBEq, Int.reduceEq, Int.reduceLT, Int.reduceLE, Int.reduceGT, Int.reduceGE, Int.reduceNeg] <;> (repeat ((with_reducible refine And.intro ?_ ?_); (focus (first | omega | rfl | assumption | exact ⟨_, rfl, rfl⟩ | (simp only [List.length_take, List.length_map, List.length_append, List.length_cons, List.length_nil]; omega) | (simp; done)))))
  · exact bool_eq (by unfold validData; rw [dec_false (show ¬ 1 ≤ d.fConstructors.length by omega)]; simp)
  have h4 := h
  refine split2 (fun hb => ?_) (fun hb => ?_) <;> have h := hb <;> (try simp only [decide_eq_true_eq, decide_eq_false_iff_not, Bool.not_eq_true, Bool.not_eq_false, Bool.not_eq_eq_eq_not, Bool.not_true, Bool.not_false, dec_eq_true, dec_eq_false, Classical.not_not] at h) <;> simp -implicitDefEqProofs (disch := omega) only [go_sem, hb, ↓reduceIte, Nat.reduceEqDiff, Nat.reduceAdd, Nat.reduceLeDiff, Nat.reduceSub, Nat.reduceMul, Nat.reduceBEq, Int.reduceEq, Int.reduceLT, Int.reduceLE, Int.reduceGT, Int.reduceGE, Int.reduceNeg] <;> (repeat ((with_reducible refine And.intro ?_ ?_); (focus (first | omega | rfl | assumption | exact ⟨_, rfl, rfl⟩ | (simp only [List.length_take, List.length_map, List.length_append, List.length_cons, List.length_nil]; omega) | (simp; done)))))
  · exact bool_eq (by unfold validData; rw [dec_false (show ¬ d.fConstructors.length ≤ 5 by omega)]; simp)
  have h5 := h
  (repeat ((with_reducible refine And.intro ?_ ?_); (focus (first | omega | rfl | assumption | exact ⟨_, rfl, rfl⟩ | (simp only [List.length_take, List.length_map, List.length_append, List.length_cons, List.length_nil]; omega) | (simp; done)))))
  refine aw_tok 3 1 [] rfl (by simp) ?_
  refine loop_at (ι := Nat × List (List UInt8)) Try.checked.mixed rfl [1, 3, 36, 37, 38] (fun y => [.c (.ptr (0, 0) 0), .c (.tsl (0, 1) (y.2.map encS)), .c (.d (.sl (d.fConstructors.map MConstructor.enc))), .c (.d (.i .i64 d.fConstructors.length)), .c (.d (.i .i64 y.1))]) (fun y => [.box (d.enc.map .d), .tok 1 (y.2.map encS)] :: S)
    (fun y => y.1 ≤ d.fConstructors.length ∧ y.2 = (consNames d).take y.1 ∧ ∀ j, ∀ hj : j < d.fConstructors.length, j < y.1 → consOk d.fVars d.fConstructors[j] = true) (fun y => d.fConstructors.length - y.1) (0, []) rfl ?_ ⟨Nat.zero_le _, rfl, fun j _ h => by simp only at h; omega⟩ ?_
  · simp -implicitDefEqProofs (disch := omega) only [go_sem, ↓reduceIte, Nat.reduceEqDiff, Nat.reduceAdd, Nat.reduceLeDiff, Nat.reduceSub, Nat.reduceMul, Nat.reduceBEq, Int.reduceEq, Int.reduceLT, Int.reduceLE, Int.reduceGT, Int.reduceGE, Int.reduceNeg]
  rintro ⟨i, names⟩ ⟨p1, p2, p3⟩
  simp only at p1 p2 p3
  have pl : names.length ≤ d.fConstructors.length := by rw [p2]; simp [consNames]; omega
  simp -implicitDefEqProofs (disch := omega) only [go_sem, ↓reduceIte, Nat.reduceEqDiff, Nat.reduceAdd, Nat.reduceLeDiff, Nat.reduceSub, Nat.reduceMul, Nat.reduceBEq, Int.reduceEq, Int.reduceLT, Int.reduceLE, Int.reduceGT, Int.reduceGE, Int.reduceNeg]
  refine split2 (fun hb => ?_) (fun hb => ?_) <;> have h := hb <;> (try simp only [decide_eq_true_eq, decide_eq_false_iff_not, Bool.not_eq_true, Bool.not_eq_false, Bool.not_eq_eq_eq_not, Bool.not_true, Bool.not_false, dec_eq_true, dec_eq_false, Classical.not_not] at h) <;> simp -implicitDefEqProofs (disch := omega) only [go_sem, hb, ↓reduceIte, Nat.reduceEqDiff, Nat.reduceAdd, Nat.reduceLeDiff, Nat.reduceSub, Nat.reduceMul, Nat.reduceBEq, Int.reduceEq, Int.reduceLT, Int.reduceLE, Int.reduceGT, Int.reduceGE, Int.reduceNeg] <;> (repeat ((with_reducible refine And.intro ?_ ?_); (focus (first | omega | rfl | assumption | exact ⟨_, rfl, rfl⟩ | (simp only [List.length_take, List.length_map, List.length_append, List.length_cons, List.length_nil]; omega) | (simp; done)))))
  · have hi : i < d.fConstructors.length := by omega
    have hc := MConstructor.bounds (MDataType.con_b hi hsz)
    (repeat ((with_reducible refine And.intro ?_ ?_); (focus (first | omega | rfl | assumption | exact ⟨_, rfl, rfl⟩ | (simp only [List.length_take, List.length_map, List.length_append, List.length_cons, List.length_nil]; omega) | (simp; done)))))
    refine split2 (fun hb => ?_) (fun hb => ?_) <;> have h := hb <;> (try simp only [decide_eq_true_eq, decide_eq_false_iff_not, Bool.not_eq_true, Bool.not_eq_false, Bool.not_eq_eq_eq_not, Bool.not_true, Bool.not_false, dec_eq_true, dec_eq_false, Classical.not_not] at h) <;> simp -implicitDefEqProofs (disch := omega) only [go_sem, hb, ↓reduceIte, Nat.reduceEqDiff, Nat.reduceAdd, Nat.reduceLeDiff, Nat.reduceSub, Nat.reduceMul, Nat.reduceBEq, Int.reduceEq, Int.reduceLT, Int.reduceLE, Int.reduceGT, Int.reduceGE, Int.reduceNeg] <;> (repeat ((with_reducible refine And.intro ?_ ?_); (focus (first | omega | rfl | assumption | exact ⟨_, rfl, rfl⟩ | (simp only [List.length_take, List.length_map, List.length_append, List.length_cons, List.length_nil]; omega) | (simp; done)))))
    · rw [bad i hi (by unfold consOk; rw [dec_false (by omega)]; rfl)]
    have k1 := h
    (repeat ((with_reducible refine And.intro ?_ ?_); (focus (first | omega | rfl | assumption | exact ⟨_, rfl, rfl⟩ | (simp only [List.length_take, List.length_map, List.length_append, List.length_cons, List.length_nil]; omega) | (simp; done)))))
    refine call_w (areTypesOver_ok d.fConstructors[i].fFields d.fVars (by omega) hc.2.2 (by omega)) ?_
    simp -implicitDefEqProofs (disch := omega) only [go_sem, ↓reduceIte, Nat.reduceEqDiff, Nat.reduceAdd, Nat.reduceLeDiff, Nat.reduceSub, Nat.reduceMul, Nat.reduceBEq, Int.reduceEq, Int.reduceLT, Int.reduceLE, Int.reduceGT, Int.reduceGE, Int.reduceNeg] <;> (repeat ((with_reducible refine And.intro ?_ ?_); (focus (first | omega | rfl | assumption | exact ⟨_, rfl, rfl⟩ | (simp only [List.length_take, List.length_map, List.length_append, List.length_cons, List.length_nil]; omega) | (simp; done)))))
    refine split2 (fun hb => ?_) (fun hb => ?_) <;> have h := hb <;> (try simp only [decide_eq_true_eq, decide_eq_false_iff_not, Bool.not_eq_true, Bool.not_eq_false, Bool.not_eq_eq_eq_not, Bool.not_true, Bool.not_false, dec_eq_true, dec_eq_false, Classical.not_not] at h) <;> simp -implicitDefEqProofs (disch := omega) only [go_sem, hb, ↓reduceIte, Nat.reduceEqDiff, Nat.reduceAdd, Nat.reduceLeDiff, Nat.reduceSub, Nat.reduceMul, Nat.reduceBEq, Int.reduceEq, Int.reduceLT, Int.reduceLE, Int.reduceGT, Int.reduceGE, Int.reduceNeg] <;> (repeat ((with_reducible refine And.intro ?_ ?_); (focus (first | omega | rfl | assumption | exact ⟨_, rfl, rfl⟩ | (simp only [List.length_take, List.length_map, List.length_append, List.length_cons, List.length_nil]; omega) | (simp; done)))))
    · rw [bad i hi (by unfold consOk; rw [h]; simp)]
    have k2 := h
    (repeat ((with_reducible refine And.intro ?_ ?_); (focus (first | omega | rfl | assumption | exact ⟨_, rfl, rfl⟩ | (simp only [List.length_take, List.length_map, List.length_append, List.length_cons, List.length_nil]; omega) | (simp; done)))))
    rw [show List.map encS names ++ [[D.s d.fConstructors[i].fName]] = List.map encS (names ++ [d.fConstructors[i].fName]) by simp [encS]]
    exact inv_drop 2 (by decide) (i + 1, names ++ [d.fConstructors[i].fName]) (by simp only; omega) rfl rfl rfl rfl ⟨by simp only; omega, by simp only; rw [p2, take_snoc (by simpa [consNames] using hi)]; simp [consNames], fun j hj hji => by
      simp only at hji
      by_cases e : j = i
      · subst e; unfold consOk; rw [k2, dec_true (by omega)]; rfl
      · exact p3 j hj (by omega)⟩
  have hi : i = d.fConstructors.length := by omega
  have hn : names = consNames d := by rw [p2, List.take_of_length_le (by simp [consNames]; omega)]
  have hall : d.fConstructors.all (consOk d.fVars) = true := List.all_eq_true.2 fun c hc => by
    obtain ⟨j, hj, e⟩ := List.getElem_of_mem hc
    rw [← e]; exact p3 j hj (by omega)
  have hnl : ∀ s ∈ names, s.length ≤ 4194304 := fun s hs => by
    rw [hn] at hs
    obtain ⟨c, hc, e⟩ := List.mem_map.1 hs
    obtain ⟨j, hj, e'⟩ := List.getElem_of_mem hc
    rw [← e, ← e']; exact (MConstructor.bounds (MDataType.con_b hj hsz)).1
  refine call_w (areNames_ok names (by omega) hnl) ?_
  simp -implicitDefEqProofs (disch := omega) only [go_sem, ↓reduceIte, Nat.reduceEqDiff, Nat.reduceAdd, Nat.reduceLeDiff, Nat.reduceSub, Nat.reduceMul, Nat.reduceBEq, Int.reduceEq, Int.reduceLT, Int.reduceLE, Int.reduceGT, Int.reduceGE, Int.reduceNeg] <;> (repeat ((with_reducible refine And.intro ?_ ?_); (focus (first | omega | rfl | assumption | exact ⟨_, rfl, rfl⟩ | (simp only [List.length_take, List.length_map, List.length_append, List.length_cons, List.length_nil]; omega) | (simp; done)))))
  exact bool_eq (by unfold validData; rw [h1, h3, hall, ← hn, dec_true (show d.fVars.length ≤ 3 by omega), dec_true (show 1 ≤ d.fConstructors.length by omega), dec_true (show d.fConstructors.length ≤ 5 by omega)]; simp)
end Go.Proofs.Ytjfhgcnoielpfaa
