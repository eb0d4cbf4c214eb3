/-
  SEVERAL TEXTS IN ONE (merged by program): contracts and models, each with its own heading.
-/
import Derived.Test.YtjfhgcnoielpfaaGreatPartJfE
set_option linter.unusedSimpArgs false
set_option linter.unusedVariables false
set_option maxRecDepth 4000
/- MODELS AND CONTRACTS: bodies, bounds, signatures, the program's and the reference's. -/
namespace Go.Ab
def zeroE : MExpr := .mk 0 [] [] 0 (.mk 0 [] []) [] []
def selfL : List (List UInt8) := [[115, 101, 108, 102]]
noncomputable def freeOk (vars : List (List UInt8)) (e : MExpr) : Bool := validExpr e && among (freeE e [] []) vars
noncomputable def bodyOk (vars : List (List UInt8)) (e : MExpr) : Bool := namesOk vars && freeOk vars e
noncomputable def boundOk (vars : List (List UInt8)) (b : MBound) : Bool := (validName b.fTrait && validType b.fType) && (!hasProj b.fType && among (tvars [] b.fType) vars)
noncomputable def boundsOk (vars : List (List UInt8)) (bs : List MBound) : Bool := dec (bs.length ≤ 4) && bs.all (boundOk vars)
noncomputable def sigOk (g : MSignature) : Bool :=
  validName g.fName && (dec (g.fParams.length ≤ 4) && (typesOver selfL g.fParams && (typeOver selfL g.fResult &&
    (if g.fHasDefault = true then dec (g.fVars.length = g.fParams.length + 1) && bodyOk g.fVars g.fBody else dec (g.fVars.length = 0) && dec (g.fBody = zeroE)))))
theorem mem_szT {xs : List MType} {t : MType} (h : t ∈ xs) : t.sz ≤ szRows (xs.map MType.enc) := szRows_mem (List.mem_map_of_mem h)
theorem mem_szB {xs : List MBound} {t : MBound} (h : t ∈ xs) : t.sz ≤ szRows (xs.map MBound.enc) := szRows_mem (List.mem_map_of_mem h)
theorem MSignature.sum (x : MSignature) : x.fName.length + (x.fParams.length + szRows (x.fParams.map MType.enc)) + x.fResult.sz + (x.fVars.length + szRows (x.fVars.map encS)) + x.fBody.sz ≤ x.sz := by
  simp only [MSignature.sz, MSignature.enc_eq, szRow, szRow_append, D.sz, List.length_map, MType.sz_def, MExpr.sz_def]
  omega
theorem MBound.sum (x : MBound) : x.fTrait.length + x.fType.sz ≤ x.sz := by
  simp only [MBound.sz, MBound.enc_eq, szRow, szRow_append, D.sz, List.length_map, MType.sz_def]
  omega
theorem free_len (e : MExpr) (h : e.sz ≤ 4194304) : (freeE e [] []).length ≤ 1073741824 := by
  have h1 := freeE_len e [] []
  have h2 := MExpr.cnt_le e
  simp at h1
  omega
theorem tvars_len0 (t : MType) (h : t.sz ≤ 4194304) : (tvars [] t).length ≤ 1073741824 := by
  have h1 := tvars_len t []
  have h2 := _root_.Go.Ab.cnt_le t
  simp at h1
  omega
theorem typeOver_eq (vars : List (List UInt8)) (t : MType) : typeOver vars t = (validType t && among (tvars [] t) vars) := rfl
end Go.Ab
namespace Go.Proofs.YtjfhgcnoielpfaaGreat
open Go Go.Ab

theorem isBody_ok (vars : List (List UInt8)) (e : MExpr) (hv : vars.length ≤ 1073741824) (hs : ∀ s ∈ vars, s.length ≤ 4194304) (hsz : e.sz ≤ 4194304) : PCall Tryz.prog 58 [.c (.d (.sl (vars.map encS))), e.v] (.c (.d (.b (bodyOk vars e)))) := fun S => by
  refine acall_cw (rs := [.tmp 4]) Tryz.checked.mixed Tryz.func58 Tryz.ntmps58 rfl rfl rfl rfl rfl ?_
  simp -implicitDefEqProofs (disch := omega) only [go_sem, ↓reduceIte, Nat.reduceEqDiff, Nat.reduceAdd, Nat.reduceLeDiff, Nat.reduceSub, Nat.reduceMul, Nat.reduceBEq, Int.reduceEq, Int.reduceLT, Int.reduceLE, Int.reduceGT, Int.reduceGE, Int.reduceNeg, Int.reduceToNat]
  refine call_w (areNames_ok vars hv hs) ?_
  simp -implicitDefEqProofs (disch := omega) only [go_sem, ↓reduceIte, Nat.reduceEqDiff, Nat.reduceAdd, Nat.reduceLeDiff, Nat.reduceSub, Nat.reduceMul, Nat.reduceBEq, Int.reduceEq, Int.reduceLT, Int.reduceLE, Int.reduceGT, Int.reduceGE, Int.reduceNeg, Int.reduceToNat] <;> (repeat ((with_reducible refine And.intro ?_ ?_); (focus (first | omega | rfl | assumption | exact ⟨_, rfl, rfl⟩ | (simp only [List.length_take, List.length_map, List.length_append, List.length_cons, List.length_nil]; omega) | (simp; done)))))
  with_reducible refine split2 (fun hb => ?_) (fun hb => ?_) <;> have h := hb <;> (try simp only [decide_eq_true_eq, decide_eq_false_iff_not, Bool.not_eq_true, Bool.not_eq_false, Bool.not_eq_eq_eq_not, Bool.not_true, Bool.not_false, dec_eq_true, dec_eq_false, Classical.not_not] at h) <;> simp -implicitDefEqProofs (disch := omega) only [go_sem, hb, ↓reduceIte, Nat.reduceEqDiff, Nat.reduceAdd, Nat.reduceLeDiff, Nat.reduceSub, Nat.reduceMul, Nat.reduceBEq, Int.reduceEq, Int.reduceLT, Int.reduceLE, Int.reduceGT, Int.reduceGE, Int.reduceNeg, Int.reduceToNat] <;> (repeat ((with_reducible refine And.intro ?_ ?_); (focus (first | omega | rfl | assumption | exact ⟨_, rfl, rfl⟩ | (simp only [List.length_take, List.length_map, List.length_append, List.length_cons, List.length_nil]; omega) | (simp; done)))))
  · have h1 := h
    refine call_w (implValidExpr_ok e hsz) ?_
    simp -implicitDefEqProofs (disch := omega) only [go_sem, ↓reduceIte, Nat.reduceEqDiff, Nat.reduceAdd, Nat.reduceLeDiff, Nat.reduceSub, Nat.reduceMul, Nat.reduceBEq, Int.reduceEq, Int.reduceLT, Int.reduceLE, Int.reduceGT, Int.reduceGE, Int.reduceNeg, Int.reduceToNat] <;> (repeat ((with_reducible refine And.intro ?_ ?_); (focus (first | omega | rfl | assumption | exact ⟨_, rfl, rfl⟩ | (simp only [List.length_take, List.length_map, List.length_append, List.length_cons, List.length_nil]; omega) | (simp; done)))))
    with_reducible refine split2 (fun hb => ?_) (fun hb => ?_) <;> have h := hb <;> (try simp only [decide_eq_true_eq, decide_eq_false_iff_not, Bool.not_eq_true, Bool.not_eq_false, Bool.not_eq_eq_eq_not, Bool.not_true, Bool.not_false, dec_eq_true, dec_eq_false, Classical.not_not] at h) <;> simp -implicitDefEqProofs (disch := omega) only [go_sem, hb, ↓reduceIte, Nat.reduceEqDiff, Nat.reduceAdd, Nat.reduceLeDiff, Nat.reduceSub, Nat.reduceMul, Nat.reduceBEq, Int.reduceEq, Int.reduceLT, Int.reduceLE, Int.reduceGT, Int.reduceGE, Int.reduceNeg, Int.reduceToNat] <;> (repeat ((with_reducible refine And.intro ?_ ?_); (focus (first | omega | rfl | assumption | exact ⟨_, rfl, rfl⟩ | (simp only [List.length_take, List.length_map, List.length_append, List.length_cons, List.length_nil]; omega) | (simp; done)))))
    · have h2 := h
      refine call_w (implFreeVars_ok e hsz) ?_
      simp -implicitDefEqProofs (disch := omega) only [go_sem, ↓reduceIte, Nat.reduceEqDiff, Nat.reduceAdd, Nat.reduceLeDiff, Nat.reduceSub, Nat.reduceMul, Nat.reduceBEq, Int.reduceEq, Int.reduceLT, Int.reduceLE, Int.reduceGT, Int.reduceGE, Int.reduceNeg, Int.reduceToNat] <;> (repeat ((with_reducible refine And.intro ?_ ?_); (focus (first | omega | rfl | assumption | exact ⟨_, rfl, rfl⟩ | (simp only [List.length_take, List.length_map, List.length_append, List.length_cons, List.length_nil]; omega) | (simp; done)))))
      refine call_w (areAmong_ok _ vars (free_len e hsz) hv) ?_
      simp -implicitDefEqProofs (disch := omega) only [go_sem, ↓reduceIte, Nat.reduceEqDiff, Nat.reduceAdd, Nat.reduceLeDiff, Nat.reduceSub, Nat.reduceMul, Nat.reduceBEq, Int.reduceEq, Int.reduceLT, Int.reduceLE, Int.reduceGT, Int.reduceGE, Int.reduceNeg, Int.reduceToNat] <;> (repeat ((with_reducible refine And.intro ?_ ?_); (focus (first | omega | rfl | assumption | exact ⟨_, rfl, rfl⟩ | (simp only [List.length_take, List.length_map, List.length_append, List.length_cons, List.length_nil]; omega) | (simp; done)))))
      exact bool_eq (by unfold bodyOk freeOk; rw [h1, h2]; rfl)
    · exact bool_eq (by unfold bodyOk freeOk; rw [h]; simp)
  · exact bool_eq (by unfold bodyOk; rw [h]; rfl)
theorem l13Body_ok (vars : List (List UInt8)) (e : MExpr) (hv : vars.length ≤ 1073741824) (hsz : e.sz ≤ 4194304) : PCall Tryz.prog 47 [e.v, .c (.d (.sl (vars.map encS)))] (.c (.d (.b (freeOk vars e)))) := fun S => by
  have hlen := free_len e hsz
  refine acall_cw (rs := [.tmp 4]) Tryz.checked.mixed Tryz.func47 Tryz.ntmps47 rfl rfl rfl rfl rfl ?_
  simp -implicitDefEqProofs (disch := omega) only [go_sem, ↓reduceIte, Nat.reduceEqDiff, Nat.reduceAdd, Nat.reduceLeDiff, Nat.reduceSub, Nat.reduceMul, Nat.reduceBEq, Int.reduceEq, Int.reduceLT, Int.reduceLE, Int.reduceGT, Int.reduceGE, Int.reduceNeg, Int.reduceToNat]
  refine call_w (specFreeVars_ok e hsz) ?_
  simp -implicitDefEqProofs (disch := omega) only [go_sem, ↓reduceIte, Nat.reduceEqDiff, Nat.reduceAdd, Nat.reduceLeDiff, Nat.reduceSub, Nat.reduceMul, Nat.reduceBEq, Int.reduceEq, Int.reduceLT, Int.reduceLE, Int.reduceGT, Int.reduceGE, Int.reduceNeg, Int.reduceToNat] <;> (repeat ((with_reducible refine And.intro ?_ ?_); (focus (first | omega | rfl | assumption | exact ⟨_, rfl, rfl⟩ | (simp only [List.length_take, List.length_map, List.length_append, List.length_cons, List.length_nil]; omega) | (simp; done)))))
  unfold freeOk
  generalize freeE e [] [] = xs at hlen ⊢
  refine loop_at (ι := Nat) Tryz.checked.mixed rfl [1, 2, 5, 6] (fun i => [.c (.d (.sl (vars.map encS))), .c (.ptr (0, 0) 0), .c (.d (.sl (xs.map encS))), .c (.d (.i .i64 i))]) (fun _ => [.box (e.enc.map .d)] :: S)
    (fun i => i ≤ xs.length ∧ among (xs.drop i) vars = among xs vars) (fun i => xs.length - i) 0 rfl ?_ ⟨Nat.zero_le _, rfl⟩ ?_
  · simp -implicitDefEqProofs (disch := omega) only [go_sem, ↓reduceIte, Nat.reduceEqDiff, Nat.reduceAdd, Nat.reduceLeDiff, Nat.reduceSub, Nat.reduceMul, Nat.reduceBEq, Int.reduceEq, Int.reduceLT, Int.reduceLE, Int.reduceGT, Int.reduceGE, Int.reduceNeg, Int.reduceToNat]
  rintro i ⟨p1, p2⟩
  simp -implicitDefEqProofs (disch := omega) only [go_sem, encS, ↓reduceIte, Nat.reduceEqDiff, Nat.reduceAdd, Nat.reduceLeDiff, Nat.reduceSub, Nat.reduceMul, Nat.reduceBEq, Int.reduceEq, Int.reduceLT, Int.reduceLE, Int.reduceGT, Int.reduceGE, Int.reduceNeg, Int.reduceToNat]
  with_reducible refine split2 (fun hb => ?_) (fun hb => ?_) <;> have h := hb <;> (try simp only [decide_eq_true_eq, decide_eq_false_iff_not, Bool.not_eq_true, Bool.not_eq_false, Bool.not_eq_eq_eq_not, Bool.not_true, Bool.not_false, dec_eq_true, dec_eq_false, Classical.not_not] at h) <;> simp -implicitDefEqProofs (disch := omega) only [go_sem, hb, encS, ↓reduceIte, Nat.reduceEqDiff, Nat.reduceAdd, Nat.reduceLeDiff, Nat.reduceSub, Nat.reduceMul, Nat.reduceBEq, Int.reduceEq, Int.reduceLT, Int.reduceLE, Int.reduceGT, Int.reduceGE, Int.reduceNeg, Int.reduceToNat] <;> (repeat ((with_reducible refine And.intro ?_ ?_); (focus (first | omega | rfl | assumption | exact ⟨_, rfl, rfl⟩ | (simp only [List.length_take, List.length_map, List.length_append, List.length_cons, List.length_nil]; omega) | (simp; done)))))
  · have hi : i < xs.length := by omega
    rw [List.drop_eq_getElem_cons hi] at p2
    have p3 : among xs vars = (dec (xs[i] ∈ vars) && among (xs.drop (i + 1)) vars) := p2.symm
    (repeat ((with_reducible refine And.intro ?_ ?_); (focus (first | omega | rfl | assumption | exact ⟨_, rfl, rfl⟩ | (simp only [List.length_take, List.length_map, List.length_append, List.length_cons, List.length_nil]; omega) | (simp; done)))))
    refine call_w (l1Has_ok vars xs[i] hv) ?_
    simp -implicitDefEqProofs (disch := omega) only [go_sem, ↓reduceIte, Nat.reduceEqDiff, Nat.reduceAdd, Nat.reduceLeDiff, Nat.reduceSub, Nat.reduceMul, Nat.reduceBEq, Int.reduceEq, Int.reduceLT, Int.reduceLE, Int.reduceGT, Int.reduceGE, Int.reduceNeg, Int.reduceToNat] <;> (repeat ((with_reducible refine And.intro ?_ ?_); (focus (first | omega | rfl | assumption | exact ⟨_, rfl, rfl⟩ | (simp only [List.length_take, List.length_map, List.length_append, List.length_cons, List.length_nil]; omega) | (simp; done)))))
    with_reducible refine split2 (fun hb => ?_) (fun hb => ?_) <;> have h := hb <;> (try simp only [decide_eq_true_eq, decide_eq_false_iff_not, Bool.not_eq_true, Bool.not_eq_false, Bool.not_eq_eq_eq_not, Bool.not_true, Bool.not_false, dec_eq_true, dec_eq_false, Classical.not_not] at h) <;> simp -implicitDefEqProofs (disch := omega) only [go_sem, hb, ↓reduceIte, Nat.reduceEqDiff, Nat.reduceAdd, Nat.reduceLeDiff, Nat.reduceSub, Nat.reduceMul, Nat.reduceBEq, Int.reduceEq, Int.reduceLT, Int.reduceLE, Int.reduceGT, Int.reduceGE, Int.reduceNeg, Int.reduceToNat] <;> (repeat ((with_reducible refine And.intro ?_ ?_); (focus (first | omega | rfl | assumption | exact ⟨_, rfl, rfl⟩ | (simp only [List.length_take, List.length_map, List.length_append, List.length_cons, List.length_nil]; omega) | (simp; done)))))
    · exact bool_eq (by rw [p3, dec_false h]; simp)
    · exact inv_at (i + 1) (by omega) rfl rfl ⟨by omega, by rw [p3, dec_true h]; rfl⟩
  · rw [List.drop_of_length_le (by omega)] at p2
    have p3 : among xs vars = true := p2.symm
    (repeat ((with_reducible refine And.intro ?_ ?_); (focus (first | omega | rfl | assumption | exact ⟨_, rfl, rfl⟩ | (simp only [List.length_take, List.length_map, List.length_append, List.length_cons, List.length_nil]; omega) | (simp; done)))))
    refine call_w (specValidExpr_ok e hsz) ?_
    simp -implicitDefEqProofs (disch := omega) only [go_sem, ↓reduceIte, Nat.reduceEqDiff, Nat.reduceAdd, Nat.reduceLeDiff, Nat.reduceSub, Nat.reduceMul, Nat.reduceBEq, Int.reduceEq, Int.reduceLT, Int.reduceLE, Int.reduceGT, Int.reduceGE, Int.reduceNeg, Int.reduceToNat] <;> (repeat ((with_reducible refine And.intro ?_ ?_); (focus (first | omega | rfl | assumption | exact ⟨_, rfl, rfl⟩ | (simp only [List.length_take, List.length_map, List.length_append, List.length_cons, List.length_nil]; omega) | (simp; done)))))
    exact bool_eq (by rw [p3]; simp)
theorem areBounds1_pure (vars : List (List UInt8)) (hv : vars.length ≤ 1073741824) (rest : List Ab.Obj) (S : Store) (b : MBound) (hb : b.sz ≤ 4194304) : FPure Tryz.prog 117 [((0, 0), 0)] ((.box [.d (.sl (vars.map encS))] :: rest) :: S) [b.v] (.c (.d (.b (!boundOk vars b)))) := fun F => by
  have hs := MBound.sum b
  refine acall_cw (rs := [.tmp 3]) Tryz.checked.mixed Tryz.func117 Tryz.ntmps117 rfl rfl rfl rfl rfl ?_
  simp -implicitDefEqProofs (disch := omega) only [go_sem, ↓reduceIte, Nat.reduceEqDiff, Nat.reduceAdd, Nat.reduceLeDiff, Nat.reduceSub, Nat.reduceMul, Nat.reduceBEq, Int.reduceEq, Int.reduceLT, Int.reduceLE, Int.reduceGT, Int.reduceGE, Int.reduceNeg, Int.reduceToNat]
  refine call_w (implValidBound_ok b (by omega) (by omega)) ?_
  simp -implicitDefEqProofs (disch := omega) only [go_sem, ↓reduceIte, Nat.reduceEqDiff, Nat.reduceAdd, Nat.reduceLeDiff, Nat.reduceSub, Nat.reduceMul, Nat.reduceBEq, Int.reduceEq, Int.reduceLT, Int.reduceLE, Int.reduceGT, Int.reduceGE, Int.reduceNeg, Int.reduceToNat] <;> (repeat ((with_reducible refine And.intro ?_ ?_); (focus (first | omega | rfl | assumption | exact ⟨_, rfl, rfl⟩ | (simp only [List.length_take, List.length_map, List.length_append, List.length_cons, List.length_nil]; omega) | (simp; done)))))
  with_reducible refine split2 (fun hb => ?_) (fun hb => ?_) <;> have h := hb <;> (try simp only [decide_eq_true_eq, decide_eq_false_iff_not, Bool.not_eq_true, Bool.not_eq_false, Bool.not_eq_eq_eq_not, Bool.not_true, Bool.not_false, dec_eq_true, dec_eq_false, Classical.not_not] at h) <;> simp -implicitDefEqProofs (disch := omega) only [go_sem, hb, ↓reduceIte, Nat.reduceEqDiff, Nat.reduceAdd, Nat.reduceLeDiff, Nat.reduceSub, Nat.reduceMul, Nat.reduceBEq, Int.reduceEq, Int.reduceLT, Int.reduceLE, Int.reduceGT, Int.reduceGE, Int.reduceNeg, Int.reduceToNat] <;> (repeat ((with_reducible refine And.intro ?_ ?_); (focus (first | omega | rfl | assumption | exact ⟨_, rfl, rfl⟩ | (simp only [List.length_take, List.length_map, List.length_append, List.length_cons, List.length_nil]; omega) | (simp; done)))))
  · exact bool_eq (by unfold boundOk; rw [h]; rfl)
  have h1 := h
  (repeat ((with_reducible refine And.intro ?_ ?_); (focus (first | omega | rfl | assumption | exact ⟨_, rfl, rfl⟩ | (simp only [List.length_take, List.length_map, List.length_append, List.length_cons, List.length_nil]; omega) | (simp; done)))))
  refine call_w (implHasProj_ok b.fType (by omega)) ?_
  simp -implicitDefEqProofs (disch := omega) only [go_sem, ↓reduceIte, Nat.reduceEqDiff, Nat.reduceAdd, Nat.reduceLeDiff, Nat.reduceSub, Nat.reduceMul, Nat.reduceBEq, Int.reduceEq, Int.reduceLT, Int.reduceLE, Int.reduceGT, Int.reduceGE, Int.reduceNeg, Int.reduceToNat] <;> (repeat ((with_reducible refine And.intro ?_ ?_); (focus (first | omega | rfl | assumption | exact ⟨_, rfl, rfl⟩ | (simp only [List.length_take, List.length_map, List.length_append, List.length_cons, List.length_nil]; omega) | (simp; done)))))
  with_reducible refine split2 (fun hb => ?_) (fun hb => ?_) <;> have h := hb <;> (try simp only [decide_eq_true_eq, decide_eq_false_iff_not, Bool.not_eq_true, Bool.not_eq_false, Bool.not_eq_eq_eq_not, Bool.not_true, Bool.not_false, dec_eq_true, dec_eq_false, Classical.not_not] at h) <;> simp -implicitDefEqProofs (disch := omega) only [go_sem, hb, ↓reduceIte, Nat.reduceEqDiff, Nat.reduceAdd, Nat.reduceLeDiff, Nat.reduceSub, Nat.reduceMul, Nat.reduceBEq, Int.reduceEq, Int.reduceLT, Int.reduceLE, Int.reduceGT, Int.reduceGE, Int.reduceNeg, Int.reduceToNat] <;> (repeat ((with_reducible refine And.intro ?_ ?_); (focus (first | omega | rfl | assumption | exact ⟨_, rfl, rfl⟩ | (simp only [List.length_take, List.length_map, List.length_append, List.length_cons, List.length_nil]; omega) | (simp; done)))))
  · exact bool_eq (by unfold boundOk; rw [h]; simp)
  have h2 := h
  (repeat ((with_reducible refine And.intro ?_ ?_); (focus (first | omega | rfl | assumption | exact ⟨_, rfl, rfl⟩ | (simp only [List.length_take, List.length_map, List.length_append, List.length_cons, List.length_nil]; omega) | (simp; done)))))
  refine call_w (implTypeVars_ok b.fType (by omega)) ?_
  simp -implicitDefEqProofs (disch := omega) only [go_sem, ↓reduceIte, Nat.reduceEqDiff, Nat.reduceAdd, Nat.reduceLeDiff, Nat.reduceSub, Nat.reduceMul, Nat.reduceBEq, Int.reduceEq, Int.reduceLT, Int.reduceLE, Int.reduceGT, Int.reduceGE, Int.reduceNeg, Int.reduceToNat] <;> (repeat ((with_reducible refine And.intro ?_ ?_); (focus (first | omega | rfl | assumption | exact ⟨_, rfl, rfl⟩ | (simp only [List.length_take, List.length_map, List.length_append, List.length_cons, List.length_nil]; omega) | (simp; done)))))
  refine call_w (areAmong_ok _ vars (tvars_len0 _ (by omega)) hv) ?_
  simp -implicitDefEqProofs (disch := omega) only [go_sem, ↓reduceIte, Nat.reduceEqDiff, Nat.reduceAdd, Nat.reduceLeDiff, Nat.reduceSub, Nat.reduceMul, Nat.reduceBEq, Int.reduceEq, Int.reduceLT, Int.reduceLE, Int.reduceGT, Int.reduceGE, Int.reduceNeg, Int.reduceToNat] <;> (repeat ((with_reducible refine And.intro ?_ ?_); (focus (first | omega | rfl | assumption | exact ⟨_, rfl, rfl⟩ | (simp only [List.length_take, List.length_map, List.length_append, List.length_cons, List.length_nil]; omega) | (simp; done)))))
  exact bool_eq (by unfold boundOk; rw [h1, h2]; simp)
theorem areBounds_ok (bs : List MBound) (vars : List (List UInt8)) (hl : bs.length ≤ 1073741824) (hz : ∀ b ∈ bs, b.sz ≤ 4194304) (hv : vars.length ≤ 1073741824) : PCall Tryz.prog 54 [.c (.d (.sl (bs.map MBound.enc))), .c (.d (.sl (vars.map encS)))] (.c (.d (.b (boundsOk vars bs)))) := fun S => by
  have ha : (bs.any fun t => !boundOk vars t) = !bs.all (boundOk vars) := by rw [List.not_all_eq_any_not]
  refine acall_cw (rs := [.tmp 4]) Tryz.checked.mixed Tryz.func54 Tryz.ntmps54 rfl rfl rfl rfl rfl ?_
  simp -implicitDefEqProofs (disch := omega) only [go_sem, ↓reduceIte, Nat.reduceEqDiff, Nat.reduceAdd, Nat.reduceLeDiff, Nat.reduceSub, Nat.reduceMul, Nat.reduceBEq, Int.reduceEq, Int.reduceLT, Int.reduceLE, Int.reduceGT, Int.reduceGE, Int.reduceNeg, Int.reduceToNat]
  with_reducible refine split2 (fun hb => ?_) (fun hb => ?_) <;> have h := hb <;> (try simp only [decide_eq_true_eq, decide_eq_false_iff_not, Bool.not_eq_true, Bool.not_eq_false, Bool.not_eq_eq_eq_not, Bool.not_true, Bool.not_false, dec_eq_true, dec_eq_false, Classical.not_not] at h) <;> simp -implicitDefEqProofs (disch := omega) only [go_sem, hb, ↓reduceIte, Nat.reduceEqDiff, Nat.reduceAdd, Nat.reduceLeDiff, Nat.reduceSub, Nat.reduceMul, Nat.reduceBEq, Int.reduceEq, Int.reduceLT, Int.reduceLE, Int.reduceGT, Int.reduceGE, Int.reduceNeg, Int.reduceToNat] <;> (repeat ((with_reducible refine And.intro ?_ ?_); (focus (first | omega | rfl | assumption | exact ⟨_, rfl, rfl⟩ | (simp only [List.length_take, List.length_map, List.length_append, List.length_cons, List.length_nil]; omega) | (simp; done)))))
  · have h1 := h
    (repeat ((with_reducible refine And.intro ?_ ?_); (focus (first | omega | rfl | assumption | exact ⟨_, rfl, rfl⟩ | (simp only [List.length_take, List.length_map, List.length_append, List.length_cons, List.length_nil]; omega) | (simp; done)))))
    refine call_d rfl (containsFuncBound_ok 117 [((0, 0), 0)] _ bs (fun t => !boundOk vars t) hl fun t hx => areBounds1_pure vars hv [] S t (hz t hx)) ?_
    simp -implicitDefEqProofs (disch := omega) only [go_sem, ↓reduceIte, Nat.reduceEqDiff, Nat.reduceAdd, Nat.reduceLeDiff, Nat.reduceSub, Nat.reduceMul, Nat.reduceBEq, Int.reduceEq, Int.reduceLT, Int.reduceLE, Int.reduceGT, Int.reduceGE, Int.reduceNeg, Int.reduceToNat]
    rw [ha]
    exact bool_eq (by unfold boundsOk; rw [dec_true (by omega)]; simp)
  · exact bool_eq (by unfold boundsOk; rw [dec_false (by omega)]; rfl)
theorem l13Where_ok (bs : List MBound) (vars : List (List UInt8)) (hl : bs.length ≤ 1073741824) (hz : ∀ b ∈ bs, b.sz ≤ 4194304) (hv : vars.length ≤ 1073741824) : PCall Tryz.prog 46 [.c (.d (.sl (bs.map MBound.enc))), .c (.d (.sl (vars.map encS)))] (.c (.d (.b (boundsOk vars bs)))) := fun S => by
  refine acall_cw (rs := [.tmp 4]) Tryz.checked.mixed Tryz.func46 Tryz.ntmps46 rfl rfl rfl rfl rfl ?_
  simp -implicitDefEqProofs (disch := omega) only [go_sem, ↓reduceIte, Nat.reduceEqDiff, Nat.reduceAdd, Nat.reduceLeDiff, Nat.reduceSub, Nat.reduceMul, Nat.reduceBEq, Int.reduceEq, Int.reduceLT, Int.reduceLE, Int.reduceGT, Int.reduceGE, Int.reduceNeg, Int.reduceToNat]
  refine loop_at (ι := Nat) Tryz.checked.mixed rfl [0, 1, 5] (fun i => [.c (.d (.sl (bs.map MBound.enc))), .c (.d (.sl (vars.map encS))), .c (.d (.i .i64 i))]) (fun _ => [] :: S)
    (fun i => i ≤ bs.length ∧ (bs.drop i).all (boundOk vars) = bs.all (boundOk vars)) (fun i => bs.length - i) 0 rfl rfl ⟨Nat.zero_le _, rfl⟩ ?_
  rintro i ⟨p1, p2⟩
  simp -implicitDefEqProofs (disch := omega) only [go_sem, ↓reduceIte, Nat.reduceEqDiff, Nat.reduceAdd, Nat.reduceLeDiff, Nat.reduceSub, Nat.reduceMul, Nat.reduceBEq, Int.reduceEq, Int.reduceLT, Int.reduceLE, Int.reduceGT, Int.reduceGE, Int.reduceNeg, Int.reduceToNat]
  with_reducible refine split2 (fun hb => ?_) (fun hb => ?_) <;> have h := hb <;> (try simp only [decide_eq_true_eq, decide_eq_false_iff_not, Bool.not_eq_true, Bool.not_eq_false, Bool.not_eq_eq_eq_not, Bool.not_true, Bool.not_false, dec_eq_true, dec_eq_false, Classical.not_not] at h) <;> simp -implicitDefEqProofs (disch := omega) only [go_sem, hb, ↓reduceIte, Nat.reduceEqDiff, Nat.reduceAdd, Nat.reduceLeDiff, Nat.reduceSub, Nat.reduceMul, Nat.reduceBEq, Int.reduceEq, Int.reduceLT, Int.reduceLE, Int.reduceGT, Int.reduceGE, Int.reduceNeg, Int.reduceToNat] <;> (repeat ((with_reducible refine And.intro ?_ ?_); (focus (first | omega | rfl | assumption | exact ⟨_, rfl, rfl⟩ | (simp only [List.length_take, List.length_map, List.length_append, List.length_cons, List.length_nil]; omega) | (simp; done)))))
  · have hi : i < bs.length := by omega
    have hb := hz _ (List.getElem_mem hi)
    have hs := MBound.sum bs[i]
    rw [List.drop_eq_getElem_cons hi, List.all_cons] at p2
    have no : boundOk vars bs[i] = false → V.c (.d (.b false)) = V.c (.d (.b (boundsOk vars bs))) := fun h => bool_eq (by unfold boundsOk; rw [← p2, h]; simp)
    (repeat ((with_reducible refine And.intro ?_ ?_); (focus (first | omega | rfl | assumption | exact ⟨_, rfl, rfl⟩ | (simp only [List.length_take, List.length_map, List.length_append, List.length_cons, List.length_nil]; omega) | (simp; done)))))
    refine call_w (specValidBound_ok bs[i] (by omega) (by omega)) ?_
    simp -implicitDefEqProofs (disch := omega) only [go_sem, ↓reduceIte, Nat.reduceEqDiff, Nat.reduceAdd, Nat.reduceLeDiff, Nat.reduceSub, Nat.reduceMul, Nat.reduceBEq, Int.reduceEq, Int.reduceLT, Int.reduceLE, Int.reduceGT, Int.reduceGE, Int.reduceNeg, Int.reduceToNat] <;> (repeat ((with_reducible refine And.intro ?_ ?_); (focus (first | omega | rfl | assumption | exact ⟨_, rfl, rfl⟩ | (simp only [List.length_take, List.length_map, List.length_append, List.length_cons, List.length_nil]; omega) | (simp; done)))))
    with_reducible refine split2 (fun hb => ?_) (fun hb => ?_) <;> have h := hb <;> (try simp only [decide_eq_true_eq, decide_eq_false_iff_not, Bool.not_eq_true, Bool.not_eq_false, Bool.not_eq_eq_eq_not, Bool.not_true, Bool.not_false, dec_eq_true, dec_eq_false, Classical.not_not] at h) <;> simp -implicitDefEqProofs (disch := omega) only [go_sem, hb, ↓reduceIte, Nat.reduceEqDiff, Nat.reduceAdd, Nat.reduceLeDiff, Nat.reduceSub, Nat.reduceMul, Nat.reduceBEq, Int.reduceEq, Int.reduceLT, Int.reduceLE, Int.reduceGT, Int.reduceGE, Int.reduceNeg, Int.reduceToNat] <;> (repeat ((with_reducible refine And.intro ?_ ?_); (focus (first | omega | rfl | assumption | exact ⟨_, rfl, rfl⟩ | (simp only [List.length_take, List.length_map, List.length_append, List.length_cons, List.length_nil]; omega) | (simp; done)))))
    · exact no (by unfold boundOk; rw [h]; rfl)
    have h1 := h
    (repeat ((with_reducible refine And.intro ?_ ?_); (focus (first | omega | rfl | assumption | exact ⟨_, rfl, rfl⟩ | (simp only [List.length_take, List.length_map, List.length_append, List.length_cons, List.length_nil]; omega) | (simp; done)))))
    refine call_w (l13Vars_ok bs[i].fType vars (by omega) hv) ?_
    simp -implicitDefEqProofs (disch := omega) only [go_sem, ↓reduceIte, Nat.reduceEqDiff, Nat.reduceAdd, Nat.reduceLeDiff, Nat.reduceSub, Nat.reduceMul, Nat.reduceBEq, Int.reduceEq, Int.reduceLT, Int.reduceLE, Int.reduceGT, Int.reduceGE, Int.reduceNeg, Int.reduceToNat] <;> (repeat ((with_reducible refine And.intro ?_ ?_); (focus (first | omega | rfl | assumption | exact ⟨_, rfl, rfl⟩ | (simp only [List.length_take, List.length_map, List.length_append, List.length_cons, List.length_nil]; omega) | (simp; done)))))
    with_reducible refine split2 (fun hb => ?_) (fun hb => ?_) <;> have h := hb <;> (try simp only [decide_eq_true_eq, decide_eq_false_iff_not, Bool.not_eq_true, Bool.not_eq_false, Bool.not_eq_eq_eq_not, Bool.not_true, Bool.not_false, dec_eq_true, dec_eq_false, Classical.not_not] at h) <;> simp -implicitDefEqProofs (disch := omega) only [go_sem, hb, ↓reduceIte, Nat.reduceEqDiff, Nat.reduceAdd, Nat.reduceLeDiff, Nat.reduceSub, Nat.reduceMul, Nat.reduceBEq, Int.reduceEq, Int.reduceLT, Int.reduceLE, Int.reduceGT, Int.reduceGE, Int.reduceNeg, Int.reduceToNat] <;> (repeat ((with_reducible refine And.intro ?_ ?_); (focus (first | omega | rfl | assumption | exact ⟨_, rfl, rfl⟩ | (simp only [List.length_take, List.length_map, List.length_append, List.length_cons, List.length_nil]; omega) | (simp; done)))))
    · exact no (by unfold boundOk; rw [typeOver_eq] at h; rw [Bool.and_eq_true] at h1; rw [h1.2, Bool.true_and] at h; rw [h]; simp)
    have h2 := h
    (repeat ((with_reducible refine And.intro ?_ ?_); (focus (first | omega | rfl | assumption | exact ⟨_, rfl, rfl⟩ | (simp only [List.length_take, List.length_map, List.length_append, List.length_cons, List.length_nil]; omega) | (simp; done)))))
    refine call_w (specHasProj_ok bs[i].fType (by omega)) ?_
    simp -implicitDefEqProofs (disch := omega) only [go_sem, ↓reduceIte, Nat.reduceEqDiff, Nat.reduceAdd, Nat.reduceLeDiff, Nat.reduceSub, Nat.reduceMul, Nat.reduceBEq, Int.reduceEq, Int.reduceLT, Int.reduceLE, Int.reduceGT, Int.reduceGE, Int.reduceNeg, Int.reduceToNat] <;> (repeat ((with_reducible refine And.intro ?_ ?_); (focus (first | omega | rfl | assumption | exact ⟨_, rfl, rfl⟩ | (simp only [List.length_take, List.length_map, List.length_append, List.length_cons, List.length_nil]; omega) | (simp; done)))))
    with_reducible refine split2 (fun hb => ?_) (fun hb => ?_) <;> have h := hb <;> (try simp only [decide_eq_true_eq, decide_eq_false_iff_not, Bool.not_eq_true, Bool.not_eq_false, Bool.not_eq_eq_eq_not, Bool.not_true, Bool.not_false, dec_eq_true, dec_eq_false, Classical.not_not] at h) <;> simp -implicitDefEqProofs (disch := omega) only [go_sem, hb, ↓reduceIte, Nat.reduceEqDiff, Nat.reduceAdd, Nat.reduceLeDiff, Nat.reduceSub, Nat.reduceMul, Nat.reduceBEq, Int.reduceEq, Int.reduceLT, Int.reduceLE, Int.reduceGT, Int.reduceGE, Int.reduceNeg, Int.reduceToNat] <;> (repeat ((with_reducible refine And.intro ?_ ?_); (focus (first | omega | rfl | assumption | exact ⟨_, rfl, rfl⟩ | (simp only [List.length_take, List.length_map, List.length_append, List.length_cons, List.length_nil]; omega) | (simp; done)))))
    · exact no (by unfold boundOk; rw [h]; simp)
    have h3 := h
    rw [typeOver_eq, Bool.and_eq_true] at h2
    exact inv_at (i + 1) (by omega) rfl rfl ⟨by omega, by rw [← p2]; unfold boundOk; rw [h1, h2.2, h3]; rfl⟩
  · rw [List.drop_of_length_le (by omega)] at p2
    exact bool_eq (by unfold boundsOk; rw [← p2, decide_dec]; simp only [List.all_nil, Bool.and_true]; exact dec_congr ⟨fun h => by omega, fun h => by omega⟩)
theorem isZeroExpr_ok (e : MExpr) (hsz : e.sz ≤ 4194304) : PCall Tryz.prog 131 [e.v] (.c (.d (.b (dec (e = zeroE))))) := fun S => by
  refine acall_cw (rs := [.tmp 2]) Tryz.checked.mixed Tryz.func131 Tryz.ntmps131 rfl rfl rfl rfl rfl ?_
  simp -implicitDefEqProofs (disch := omega) only [go_sem, ↓reduceIte, Nat.reduceEqDiff, Nat.reduceAdd, Nat.reduceLeDiff, Nat.reduceSub, Nat.reduceMul, Nat.reduceBEq, Int.reduceEq, Int.reduceLT, Int.reduceLE, Int.reduceGT, Int.reduceGE, Int.reduceNeg, Int.reduceToNat]
  refine call_w (implEqualExpr_ok e zeroE hsz) ?_
  simp -implicitDefEqProofs (disch := omega) only [go_sem, ↓reduceIte, Nat.reduceEqDiff, Nat.reduceAdd, Nat.reduceLeDiff, Nat.reduceSub, Nat.reduceMul, Nat.reduceBEq, Int.reduceEq, Int.reduceLT, Int.reduceLE, Int.reduceGT, Int.reduceGE, Int.reduceNeg, Int.reduceToNat]
theorem l13None_ok (e : MExpr) (hsz : e.sz ≤ 4194304) : PCall Tryz.prog 129 [e.v] (.c (.d (.b (dec (e = zeroE))))) := fun S => by
  refine acall_cw (rs := [.tmp 2]) Tryz.checked.mixed Tryz.func129 Tryz.ntmps129 rfl rfl rfl rfl rfl ?_
  simp -implicitDefEqProofs (disch := omega) only [go_sem, ↓reduceIte, Nat.reduceEqDiff, Nat.reduceAdd, Nat.reduceLeDiff, Nat.reduceSub, Nat.reduceMul, Nat.reduceBEq, Int.reduceEq, Int.reduceLT, Int.reduceLE, Int.reduceGT, Int.reduceGE, Int.reduceNeg, Int.reduceToNat]
  refine call_w (specEqualExpr_ok e zeroE hsz) ?_
  simp -implicitDefEqProofs (disch := omega) only [go_sem, ↓reduceIte, Nat.reduceEqDiff, Nat.reduceAdd, Nat.reduceLeDiff, Nat.reduceSub, Nat.reduceMul, Nat.reduceBEq, Int.reduceEq, Int.reduceLT, Int.reduceLE, Int.reduceGT, Int.reduceGE, Int.reduceNeg, Int.reduceToNat]
theorem isSignature_ok (g : MSignature) (hsz : g.sz ≤ 4194304) : PCall Tryz.prog 67 [g.v] (.c (.d (.b (sigOk g)))) := fun S => by
  have hs := MSignature.sum g
  have hT : ∀ t ∈ g.fParams, t.sz ≤ 4194304 := fun t ht => by have := mem_szT ht; omega
  have hV : ∀ s ∈ g.fVars, s.length ≤ 4194304 := fun s h => by have := strs_b h; omega
  refine acall_cw (rs := [.tmp 2]) Tryz.checked.mixed Tryz.func67 Tryz.ntmps67 rfl rfl rfl rfl rfl ?_
  simp -implicitDefEqProofs (disch := omega) only [go_sem, ↓reduceIte, Nat.reduceEqDiff, Nat.reduceAdd, Nat.reduceLeDiff, Nat.reduceSub, Nat.reduceMul, Nat.reduceBEq, Int.reduceEq, Int.reduceLT, Int.reduceLE, Int.reduceGT, Int.reduceGE, Int.reduceNeg, Int.reduceToNat]
  refine call_w (implValidName_ok g.fName (by omega)) ?_
  simp -implicitDefEqProofs (disch := omega) only [go_sem, ↓reduceIte, Nat.reduceEqDiff, Nat.reduceAdd, Nat.reduceLeDiff, Nat.reduceSub, Nat.reduceMul, Nat.reduceBEq, Int.reduceEq, Int.reduceLT, Int.reduceLE, Int.reduceGT, Int.reduceGE, Int.reduceNeg, Int.reduceToNat] <;> (repeat ((with_reducible refine And.intro ?_ ?_); (focus (first | omega | rfl | assumption | exact ⟨_, rfl, rfl⟩ | (simp only [List.length_take, List.length_map, List.length_append, List.length_cons, List.length_nil]; omega) | (simp; done)))))
  with_reducible refine split2 (fun hb => ?_) (fun hb => ?_) <;> have h := hb <;> (try simp only [decide_eq_true_eq, decide_eq_false_iff_not, Bool.not_eq_true, Bool.not_eq_false, Bool.not_eq_eq_eq_not, Bool.not_true, Bool.not_false, dec_eq_true, dec_eq_false, Classical.not_not] at h) <;> simp -implicitDefEqProofs (disch := omega) only [go_sem, hb, ↓reduceIte, Nat.reduceEqDiff, Nat.reduceAdd, Nat.reduceLeDiff, Nat.reduceSub, Nat.reduceMul, Nat.reduceBEq, Int.reduceEq, Int.reduceLT, Int.reduceLE, Int.reduceGT, Int.reduceGE, Int.reduceNeg, Int.reduceToNat] <;> (repeat ((with_reducible refine And.intro ?_ ?_); (focus (first | omega | rfl | assumption | exact ⟨_, rfl, rfl⟩ | (simp only [List.length_take, List.length_map, List.length_append, List.length_cons, List.length_nil]; omega) | (simp; done)))))
  · exact bool_eq (by unfold sigOk; rw [h]; rfl)
  have h1 := h
  with_reducible refine split2 (fun hb => ?_) (fun hb => ?_) <;> have h := hb <;> (try simp only [decide_eq_true_eq, decide_eq_false_iff_not, Bool.not_eq_true, Bool.not_eq_false, Bool.not_eq_eq_eq_not, Bool.not_true, Bool.not_false, dec_eq_true, dec_eq_false, Classical.not_not] at h) <;> simp -implicitDefEqProofs (disch := omega) only [go_sem, hb, ↓reduceIte, Nat.reduceEqDiff, Nat.reduceAdd, Nat.reduceLeDiff, Nat.reduceSub, Nat.reduceMul, Nat.reduceBEq, Int.reduceEq, Int.reduceLT, Int.reduceLE, Int.reduceGT, Int.reduceGE, Int.reduceNeg, Int.reduceToNat] <;> (repeat ((with_reducible refine And.intro ?_ ?_); (focus (first | omega | rfl | assumption | exact ⟨_, rfl, rfl⟩ | (simp only [List.length_take, List.length_map, List.length_append, List.length_cons, List.length_nil]; omega) | (simp; done)))))
  · exact bool_eq (by unfold sigOk; rw [dec_false (show ¬ g.fParams.length ≤ 4 by omega)]; simp)
  have h2 := h
  (repeat ((with_reducible refine And.intro ?_ ?_); (focus (first | omega | rfl | assumption | exact ⟨_, rfl, rfl⟩ | (simp only [List.length_take, List.length_map, List.length_append, List.length_cons, List.length_nil]; omega) | (simp; done)))))
  refine call_w (areTypesOver_ok g.fParams selfL (by omega) hT (by decide)) ?_
  simp -implicitDefEqProofs (disch := omega) only [go_sem, ↓reduceIte, Nat.reduceEqDiff, Nat.reduceAdd, Nat.reduceLeDiff, Nat.reduceSub, Nat.reduceMul, Nat.reduceBEq, Int.reduceEq, Int.reduceLT, Int.reduceLE, Int.reduceGT, Int.reduceGE, Int.reduceNeg, Int.reduceToNat]
  with_reducible refine split2 (fun hb => ?_) (fun hb => ?_) <;> have h := hb <;> (try simp only [decide_eq_true_eq, decide_eq_false_iff_not, Bool.not_eq_true, Bool.not_eq_false, Bool.not_eq_eq_eq_not, Bool.not_true, Bool.not_false, dec_eq_true, dec_eq_false, Classical.not_not] at h) <;> simp -implicitDefEqProofs (disch := omega) only [go_sem, hb, ↓reduceIte, Nat.reduceEqDiff, Nat.reduceAdd, Nat.reduceLeDiff, Nat.reduceSub, Nat.reduceMul, Nat.reduceBEq, Int.reduceEq, Int.reduceLT, Int.reduceLE, Int.reduceGT, Int.reduceGE, Int.reduceNeg, Int.reduceToNat] <;> (repeat ((with_reducible refine And.intro ?_ ?_); (focus (first | omega | rfl | assumption | exact ⟨_, rfl, rfl⟩ | (simp only [List.length_take, List.length_map, List.length_append, List.length_cons, List.length_nil]; omega) | (simp; done)))))
  · exact bool_eq (by unfold sigOk; rw [h]; simp)
  have h3 := h
  (repeat ((with_reducible refine And.intro ?_ ?_); (focus (first | omega | rfl | assumption | exact ⟨_, rfl, rfl⟩ | (simp only [List.length_take, List.length_map, List.length_append, List.length_cons, List.length_nil]; omega) | (simp; done)))))
  refine call_w (isTypeOver_ok g.fResult selfL (by omega) (by decide)) ?_
  simp -implicitDefEqProofs (disch := omega) only [go_sem, ↓reduceIte, Nat.reduceEqDiff, Nat.reduceAdd, Nat.reduceLeDiff, Nat.reduceSub, Nat.reduceMul, Nat.reduceBEq, Int.reduceEq, Int.reduceLT, Int.reduceLE, Int.reduceGT, Int.reduceGE, Int.reduceNeg, Int.reduceToNat]
  with_reducible refine split2 (fun hb => ?_) (fun hb => ?_) <;> have h := hb <;> (try simp only [decide_eq_true_eq, decide_eq_false_iff_not, Bool.not_eq_true, Bool.not_eq_false, Bool.not_eq_eq_eq_not, Bool.not_true, Bool.not_false, dec_eq_true, dec_eq_false, Classical.not_not] at h) <;> simp -implicitDefEqProofs (disch := omega) only [go_sem, hb, ↓reduceIte, Nat.reduceEqDiff, Nat.reduceAdd, Nat.reduceLeDiff, Nat.reduceSub, Nat.reduceMul, Nat.reduceBEq, Int.reduceEq, Int.reduceLT, Int.reduceLE, Int.reduceGT, Int.reduceGE, Int.reduceNeg, Int.reduceToNat] <;> (repeat ((with_reducible refine And.intro ?_ ?_); (focus (first | omega | rfl | assumption | exact ⟨_, rfl, rfl⟩ | (simp only [List.length_take, List.length_map, List.length_append, List.length_cons, List.length_nil]; omega) | (simp; done)))))
  · exact bool_eq (by unfold sigOk; rw [h]; simp)
  have h4 := h
  with_reducible refine split2 (fun hb => ?_) (fun hb => ?_) <;> have h := hb <;> (try simp only [decide_eq_true_eq, decide_eq_false_iff_not, Bool.not_eq_true, Bool.not_eq_false, Bool.not_eq_eq_eq_not, Bool.not_true, Bool.not_false, dec_eq_true, dec_eq_false, Classical.not_not] at h) <;> simp -implicitDefEqProofs (disch := omega) only [go_sem, hb, ↓reduceIte, Nat.reduceEqDiff, Nat.reduceAdd, Nat.reduceLeDiff, Nat.reduceSub, Nat.reduceMul, Nat.reduceBEq, Int.reduceEq, Int.reduceLT, Int.reduceLE, Int.reduceGT, Int.reduceGE, Int.reduceNeg, Int.reduceToNat] <;> (repeat ((with_reducible refine And.intro ?_ ?_); (focus (first | omega | rfl | assumption | exact ⟨_, rfl, rfl⟩ | (simp only [List.length_take, List.length_map, List.length_append, List.length_cons, List.length_nil]; omega) | (simp; done)))))
  · have h5 := h
    with_reducible refine split2 (fun hb => ?_) (fun hb => ?_) <;> have h := hb <;> (try simp only [decide_eq_true_eq, decide_eq_false_iff_not, Bool.not_eq_true, Bool.not_eq_false, Bool.not_eq_eq_eq_not, Bool.not_true, Bool.not_false, dec_eq_true, dec_eq_false, Classical.not_not] at h) <;> simp -implicitDefEqProofs (disch := omega) only [go_sem, hb, ↓reduceIte, Nat.reduceEqDiff, Nat.reduceAdd, Nat.reduceLeDiff, Nat.reduceSub, Nat.reduceMul, Nat.reduceBEq, Int.reduceEq, Int.reduceLT, Int.reduceLE, Int.reduceGT, Int.reduceGE, Int.reduceNeg, Int.reduceToNat] <;> (repeat ((with_reducible refine And.intro ?_ ?_); (focus (first | omega | rfl | assumption | exact ⟨_, rfl, rfl⟩ | (simp only [List.length_take, List.length_map, List.length_append, List.length_cons, List.length_nil]; omega) | (simp; done)))))
    · have h6 := h
      refine call_w (isBody_ok g.fVars g.fBody (by omega) hV (by omega)) ?_
      simp -implicitDefEqProofs (disch := omega) only [go_sem, ↓reduceIte, Nat.reduceEqDiff, Nat.reduceAdd, Nat.reduceLeDiff, Nat.reduceSub, Nat.reduceMul, Nat.reduceBEq, Int.reduceEq, Int.reduceLT, Int.reduceLE, Int.reduceGT, Int.reduceGE, Int.reduceNeg, Int.reduceToNat] <;> (repeat ((with_reducible refine And.intro ?_ ?_); (focus (first | omega | rfl | assumption | exact ⟨_, rfl, rfl⟩ | (simp only [List.length_take, List.length_map, List.length_append, List.length_cons, List.length_nil]; omega) | (simp; done)))))
      exact bool_eq (by unfold sigOk; rw [h1, h3, h4, if_pos h5, dec_true (show g.fParams.length ≤ 4 by omega), dec_true (show g.fVars.length = g.fParams.length + 1 by omega)]; rfl)
    · exact bool_eq (by unfold sigOk; rw [if_pos h5, dec_false (show ¬ g.fVars.length = g.fParams.length + 1 by omega)]; simp)
  · have h5 : ¬ g.fHasDefault = true := by rw [h]; simp
    with_reducible refine split2 (fun hb => ?_) (fun hb => ?_) <;> have h := hb <;> (try simp only [decide_eq_true_eq, decide_eq_false_iff_not, Bool.not_eq_true, Bool.not_eq_false, Bool.not_eq_eq_eq_not, Bool.not_true, Bool.not_false, dec_eq_true, dec_eq_false, Classical.not_not] at h) <;> simp -implicitDefEqProofs (disch := omega) only [go_sem, hb, ↓reduceIte, Nat.reduceEqDiff, Nat.reduceAdd, Nat.reduceLeDiff, Nat.reduceSub, Nat.reduceMul, Nat.reduceBEq, Int.reduceEq, Int.reduceLT, Int.reduceLE, Int.reduceGT, Int.reduceGE, Int.reduceNeg, Int.reduceToNat] <;> (repeat ((with_reducible refine And.intro ?_ ?_); (focus (first | omega | rfl | assumption | exact ⟨_, rfl, rfl⟩ | (simp only [List.length_take, List.length_map, List.length_append, List.length_cons, List.length_nil]; omega) | (simp; done)))))
    · refine call_w (isZeroExpr_ok g.fBody (by omega)) ?_
      simp -implicitDefEqProofs (disch := omega) only [go_sem, ↓reduceIte, Nat.reduceEqDiff, Nat.reduceAdd, Nat.reduceLeDiff, Nat.reduceSub, Nat.reduceMul, Nat.reduceBEq, Int.reduceEq, Int.reduceLT, Int.reduceLE, Int.reduceGT, Int.reduceGE, Int.reduceNeg, Int.reduceToNat] <;> (repeat ((with_reducible refine And.intro ?_ ?_); (focus (first | omega | rfl | assumption | exact ⟨_, rfl, rfl⟩ | (simp only [List.length_take, List.length_map, List.length_append, List.length_cons, List.length_nil]; omega) | (simp; done)))))
      exact bool_eq (by unfold sigOk; rw [h1, h3, h4, if_neg h5, dec_true (show g.fParams.length ≤ 4 by omega), dec_true (show g.fVars.length = 0 by omega)]; rfl)
    · exact bool_eq (by unfold sigOk; rw [if_neg h5, dec_false (show ¬ g.fVars.length = 0 by omega)]; simp)
theorem l13Sig_ok (g : MSignature) (hsz : g.sz ≤ 4194304) : PCall Tryz.prog 65 [g.v] (.c (.d (.b (sigOk g)))) := fun S => by
  have hs := MSignature.sum g
  have hT : ∀ t ∈ g.fParams, t.sz ≤ 4194304 := fun t ht => by have := mem_szT ht; omega
  have hV : ∀ s ∈ g.fVars, s.length ≤ 4194304 := fun s h => by have := strs_b h; omega
  refine acall_cw (rs := [.tmp 2]) Tryz.checked.mixed Tryz.func65 Tryz.ntmps65 rfl rfl rfl rfl rfl ?_
  simp -implicitDefEqProofs (disch := omega) only [go_sem, ↓reduceIte, Nat.reduceEqDiff, Nat.reduceAdd, Nat.reduceLeDiff, Nat.reduceSub, Nat.reduceMul, Nat.reduceBEq, Int.reduceEq, Int.reduceLT, Int.reduceLE, Int.reduceGT, Int.reduceGE, Int.reduceNeg, Int.reduceToNat]
  refine call_w (specValidName_ok g.fName (by omega)) ?_
  simp -implicitDefEqProofs (disch := omega) only [go_sem, ↓reduceIte, Nat.reduceEqDiff, Nat.reduceAdd, Nat.reduceLeDiff, Nat.reduceSub, Nat.reduceMul, Nat.reduceBEq, Int.reduceEq, Int.reduceLT, Int.reduceLE, Int.reduceGT, Int.reduceGE, Int.reduceNeg, Int.reduceToNat] <;> (repeat ((with_reducible refine And.intro ?_ ?_); (focus (first | omega | rfl | assumption | exact ⟨_, rfl, rfl⟩ | (simp only [List.length_take, List.length_map, List.length_append, List.length_cons, List.length_nil]; omega) | (simp; done)))))
  with_reducible refine split2 (fun hb => ?_) (fun hb => ?_) <;> have h := hb <;> (try simp only [decide_eq_true_eq, decide_eq_false_iff_not, Bool.not_eq_true, Bool.not_eq_false, Bool.not_eq_eq_eq_not, Bool.not_true, Bool.not_false, dec_eq_true, dec_eq_false, Classical.not_not] at h) <;> simp -implicitDefEqProofs (disch := omega) only [go_sem, hb, ↓reduceIte, Nat.reduceEqDiff, Nat.reduceAdd, Nat.reduceLeDiff, Nat.reduceSub, Nat.reduceMul, Nat.reduceBEq, Int.reduceEq, Int.reduceLT, Int.reduceLE, Int.reduceGT, Int.reduceGE, Int.reduceNeg, Int.reduceToNat] <;> (repeat ((with_reducible refine And.intro ?_ ?_); (focus (first | omega | rfl | assumption | exact ⟨_, rfl, rfl⟩ | (simp only [List.length_take, List.length_map, List.length_append, List.length_cons, List.length_nil]; omega) | (simp; done)))))
  · exact bool_eq (by unfold sigOk; rw [h]; rfl)
  have h1 := h
  with_reducible refine split2 (fun hb => ?_) (fun hb => ?_) <;> have h := hb <;> (try simp only [decide_eq_true_eq, decide_eq_false_iff_not, Bool.not_eq_true, Bool.not_eq_false, Bool.not_eq_eq_eq_not, Bool.not_true, Bool.not_false, dec_eq_true, dec_eq_false, Classical.not_not] at h) <;> simp -implicitDefEqProofs (disch := omega) only [go_sem, hb, ↓reduceIte, Nat.reduceEqDiff, Nat.reduceAdd, Nat.reduceLeDiff, Nat.reduceSub, Nat.reduceMul, Nat.reduceBEq, Int.reduceEq, Int.reduceLT, Int.reduceLE, Int.reduceGT, Int.reduceGE, Int.reduceNeg, Int.reduceToNat] <;> (repeat ((with_reducible refine And.intro ?_ ?_); (focus (first | omega | rfl | assumption | exact ⟨_, rfl, rfl⟩ | (simp only [List.length_take, List.length_map, List.length_append, List.length_cons, List.length_nil]; omega) | (simp; done)))))
  · exact bool_eq (by unfold sigOk; rw [dec_false (show ¬ g.fParams.length ≤ 4 by omega)]; simp)
  have h2 := h
  (repeat ((with_reducible refine And.intro ?_ ?_); (focus (first | omega | rfl | assumption | exact ⟨_, rfl, rfl⟩ | (simp only [List.length_take, List.length_map, List.length_append, List.length_cons, List.length_nil]; omega) | (simp; done)))))
  refine call_w (l13All_ok g.fParams selfL (by omega) hT (by decide)) ?_
  simp -implicitDefEqProofs (disch := omega) only [go_sem, ↓reduceIte, Nat.reduceEqDiff, Nat.reduceAdd, Nat.reduceLeDiff, Nat.reduceSub, Nat.reduceMul, Nat.reduceBEq, Int.reduceEq, Int.reduceLT, Int.reduceLE, Int.reduceGT, Int.reduceGE, Int.reduceNeg, Int.reduceToNat]
  with_reducible refine split2 (fun hb => ?_) (fun hb => ?_) <;> have h := hb <;> (try simp only [decide_eq_true_eq, decide_eq_false_iff_not, Bool.not_eq_true, Bool.not_eq_false, Bool.not_eq_eq_eq_not, Bool.not_true, Bool.not_false, dec_eq_true, dec_eq_false, Classical.not_not] at h) <;> simp -implicitDefEqProofs (disch := omega) only [go_sem, hb, ↓reduceIte, Nat.reduceEqDiff, Nat.reduceAdd, Nat.reduceLeDiff, Nat.reduceSub, Nat.reduceMul, Nat.reduceBEq, Int.reduceEq, Int.reduceLT, Int.reduceLE, Int.reduceGT, Int.reduceGE, Int.reduceNeg, Int.reduceToNat] <;> (repeat ((with_reducible refine And.intro ?_ ?_); (focus (first | omega | rfl | assumption | exact ⟨_, rfl, rfl⟩ | (simp only [List.length_take, List.length_map, List.length_append, List.length_cons, List.length_nil]; omega) | (simp; done)))))
  · exact bool_eq (by unfold sigOk; rw [h]; simp)
  have h3 := h
  (repeat ((with_reducible refine And.intro ?_ ?_); (focus (first | omega | rfl | assumption | exact ⟨_, rfl, rfl⟩ | (simp only [List.length_take, List.length_map, List.length_append, List.length_cons, List.length_nil]; omega) | (simp; done)))))
  refine call_w (l13Vars_ok g.fResult selfL (by omega) (by decide)) ?_
  simp -implicitDefEqProofs (disch := omega) only [go_sem, ↓reduceIte, Nat.reduceEqDiff, Nat.reduceAdd, Nat.reduceLeDiff, Nat.reduceSub, Nat.reduceMul, Nat.reduceBEq, Int.reduceEq, Int.reduceLT, Int.reduceLE, Int.reduceGT, Int.reduceGE, Int.reduceNeg, Int.reduceToNat]
  with_reducible refine split2 (fun hb => ?_) (fun hb => ?_) <;> have h := hb <;> (try simp only [decide_eq_true_eq, decide_eq_false_iff_not, Bool.not_eq_true, Bool.not_eq_false, Bool.not_eq_eq_eq_not, Bool.not_true, Bool.not_false, dec_eq_true, dec_eq_false, Classical.not_not] at h) <;> simp -implicitDefEqProofs (disch := omega) only [go_sem, hb, ↓reduceIte, Nat.reduceEqDiff, Nat.reduceAdd, Nat.reduceLeDiff, Nat.reduceSub, Nat.reduceMul, Nat.reduceBEq, Int.reduceEq, Int.reduceLT, Int.reduceLE, Int.reduceGT, Int.reduceGE, Int.reduceNeg, Int.reduceToNat] <;> (repeat ((with_reducible refine And.intro ?_ ?_); (focus (first | omega | rfl | assumption | exact ⟨_, rfl, rfl⟩ | (simp only [List.length_take, List.length_map, List.length_append, List.length_cons, List.length_nil]; omega) | (simp; done)))))
  · exact bool_eq (by unfold sigOk; rw [h]; simp)
  have h4 := h
  with_reducible refine split2 (fun hb => ?_) (fun hb => ?_) <;> have h := hb <;> (try simp only [decide_eq_true_eq, decide_eq_false_iff_not, Bool.not_eq_true, Bool.not_eq_false, Bool.not_eq_eq_eq_not, Bool.not_true, Bool.not_false, dec_eq_true, dec_eq_false, Classical.not_not] at h) <;> simp -implicitDefEqProofs (disch := omega) only [go_sem, hb, ↓reduceIte, Nat.reduceEqDiff, Nat.reduceAdd, Nat.reduceLeDiff, Nat.reduceSub, Nat.reduceMul, Nat.reduceBEq, Int.reduceEq, Int.reduceLT, Int.reduceLE, Int.reduceGT, Int.reduceGE, Int.reduceNeg, Int.reduceToNat] <;> (repeat ((with_reducible refine And.intro ?_ ?_); (focus (first | omega | rfl | assumption | exact ⟨_, rfl, rfl⟩ | (simp only [List.length_take, List.length_map, List.length_append, List.length_cons, List.length_nil]; omega) | (simp; done)))))
  · have h5 : ¬ g.fHasDefault = true := by rw [h]; simp
    with_reducible refine split2 (fun hb => ?_) (fun hb => ?_) <;> have h := hb <;> (try simp only [decide_eq_true_eq, decide_eq_false_iff_not, Bool.not_eq_true, Bool.not_eq_false, Bool.not_eq_eq_eq_not, Bool.not_true, Bool.not_false, dec_eq_true, dec_eq_false, Classical.not_not] at h) <;> simp -implicitDefEqProofs (disch := omega) only [go_sem, hb, ↓reduceIte, Nat.reduceEqDiff, Nat.reduceAdd, Nat.reduceLeDiff, Nat.reduceSub, Nat.reduceMul, Nat.reduceBEq, Int.reduceEq, Int.reduceLT, Int.reduceLE, Int.reduceGT, Int.reduceGE, Int.reduceNeg, Int.reduceToNat] <;> (repeat ((with_reducible refine And.intro ?_ ?_); (focus (first | omega | rfl | assumption | exact ⟨_, rfl, rfl⟩ | (simp only [List.length_take, List.length_map, List.length_append, List.length_cons, List.length_nil]; omega) | (simp; done)))))
    · refine call_w (l13None_ok g.fBody (by omega)) ?_
      simp -implicitDefEqProofs (disch := omega) only [go_sem, ↓reduceIte, Nat.reduceEqDiff, Nat.reduceAdd, Nat.reduceLeDiff, Nat.reduceSub, Nat.reduceMul, Nat.reduceBEq, Int.reduceEq, Int.reduceLT, Int.reduceLE, Int.reduceGT, Int.reduceGE, Int.reduceNeg, Int.reduceToNat] <;> (repeat ((with_reducible refine And.intro ?_ ?_); (focus (first | omega | rfl | assumption | exact ⟨_, rfl, rfl⟩ | (simp only [List.length_take, List.length_map, List.length_append, List.length_cons, List.length_nil]; omega) | (simp; done)))))
      exact bool_eq (by unfold sigOk; rw [h1, h3, h4, if_neg h5, dec_true (show g.fParams.length ≤ 4 by omega), dec_true (show g.fVars.length = 0 by omega)]; rfl)
    · exact bool_eq (by unfold sigOk; rw [if_neg h5, dec_false (show ¬ g.fVars.length = 0 by omega)]; simp)
  · have h5 := h
    refine call_w (l13Words_ok g.fVars 5 (by omega) hV) ?_
    simp -implicitDefEqProofs (disch := omega) only [go_sem, ↓reduceIte, Nat.reduceEqDiff, Nat.reduceAdd, Nat.reduceLeDiff, Nat.reduceSub, Nat.reduceMul, Nat.reduceBEq, Int.reduceEq, Int.reduceLT, Int.reduceLE, Int.reduceGT, Int.reduceGE, Int.reduceNeg, Int.reduceToNat] <;> (repeat ((with_reducible refine And.intro ?_ ?_); (focus (first | omega | rfl | assumption | exact ⟨_, rfl, rfl⟩ | (simp only [List.length_take, List.length_map, List.length_append, List.length_cons, List.length_nil]; omega) | (simp; done)))))
    with_reducible refine split2 (fun hb => ?_) (fun hb => ?_) <;> have h := hb <;> (try simp only [decide_eq_true_eq, decide_eq_false_iff_not, Bool.not_eq_true, Bool.not_eq_false, Bool.not_eq_eq_eq_not, Bool.not_true, Bool.not_false, dec_eq_true, dec_eq_false, Classical.not_not] at h) <;> simp -implicitDefEqProofs (disch := omega) only [go_sem, hb, ↓reduceIte, Nat.reduceEqDiff, Nat.reduceAdd, Nat.reduceLeDiff, Nat.reduceSub, Nat.reduceMul, Nat.reduceBEq, Int.reduceEq, Int.reduceLT, Int.reduceLE, Int.reduceGT, Int.reduceGE, Int.reduceNeg, Int.reduceToNat] <;> (repeat ((with_reducible refine And.intro ?_ ?_); (focus (first | omega | rfl | assumption | exact ⟨_, rfl, rfl⟩ | (simp only [List.length_take, List.length_map, List.length_append, List.length_cons, List.length_nil]; omega) | (simp; done)))))
    · have h6 := h
      rw [Bool.and_eq_true] at h6
      with_reducible refine split2 (fun hb => ?_) (fun hb => ?_) <;> have h := hb <;> (try simp only [decide_eq_true_eq, decide_eq_false_iff_not, Bool.not_eq_true, Bool.not_eq_false, Bool.not_eq_eq_eq_not, Bool.not_true, Bool.not_false, dec_eq_true, dec_eq_false, Classical.not_not] at h) <;> simp -implicitDefEqProofs (disch := omega) only [go_sem, hb, ↓reduceIte, Nat.reduceEqDiff, Nat.reduceAdd, Nat.reduceLeDiff, Nat.reduceSub, Nat.reduceMul, Nat.reduceBEq, Int.reduceEq, Int.reduceLT, Int.reduceLE, Int.reduceGT, Int.reduceGE, Int.reduceNeg, Int.reduceToNat] <;> (repeat ((with_reducible refine And.intro ?_ ?_); (focus (first | omega | rfl | assumption | exact ⟨_, rfl, rfl⟩ | (simp only [List.length_take, List.length_map, List.length_append, List.length_cons, List.length_nil]; omega) | (simp; done)))))
      · refine call_w (l13Body_ok g.fVars g.fBody (by omega) (by omega)) ?_
        simp -implicitDefEqProofs (disch := omega) only [go_sem, ↓reduceIte, Nat.reduceEqDiff, Nat.reduceAdd, Nat.reduceLeDiff, Nat.reduceSub, Nat.reduceMul, Nat.reduceBEq, Int.reduceEq, Int.reduceLT, Int.reduceLE, Int.reduceGT, Int.reduceGE, Int.reduceNeg, Int.reduceToNat] <;> (repeat ((with_reducible refine And.intro ?_ ?_); (focus (first | omega | rfl | assumption | exact ⟨_, rfl, rfl⟩ | (simp only [List.length_take, List.length_map, List.length_append, List.length_cons, List.length_nil]; omega) | (simp; done)))))
        exact bool_eq (by unfold sigOk bodyOk; rw [h1, h3, h4, if_pos h5, h6.2, dec_true (show g.fParams.length ≤ 4 by omega), dec_true (show g.fVars.length = g.fParams.length + 1 by omega)]; rfl)
      · exact bool_eq (by unfold sigOk; rw [if_pos h5, dec_false (show ¬ g.fVars.length = g.fParams.length + 1 by omega)]; simp)
    · refine bool_eq ?_
      by_cases h7 : g.fVars.length = g.fParams.length + 1
      · rw [dec_true (by omega), Bool.true_and] at h
        unfold sigOk bodyOk; rw [if_pos h5, h]; simp
      · unfold sigOk; rw [if_pos h5, dec_false h7]; simp
end Go.Proofs.YtjfhgcnoielpfaaGreat

/- CONTRACTS: valid traits, the program's and the reference's. -/
namespace Go.Ab
noncomputable def sigNames (t : MTrait) : List (List UInt8) := t.fSignatures.map MSignature.fName
noncomputable def autoBad (t : MTrait) : Prop := t.fAuto = true ∧ (t.fAssoc = true ∨ 0 < t.fSignatures.length ∨ 0 < t.fSupertraits.length)
noncomputable def validTrait (t : MTrait) : Bool :=
  validName t.fName && (dec (t.fSupertraits.length ≤ 4) && (namesOk t.fSupertraits && (dec (t.fSignatures.length ≤ 6) && (!dec (autoBad t) && (t.fSignatures.all sigOk && dec (sigNames t).Nodup)))))
theorem MTrait.sum (x : MTrait) : x.fName.length + (x.fSupertraits.length + szRows (x.fSupertraits.map encS)) + (x.fSignatures.length + szRows (x.fSignatures.map MSignature.enc)) ≤ x.sz := by
  simp only [MTrait.sz, MTrait.enc_eq, szRow, szRow_append, D.sz, List.length_map]
  omega
theorem mem_szG {xs : List MSignature} {t : MSignature} (h : t ∈ xs) : t.sz ≤ szRows (xs.map MSignature.enc) := szRows_mem (List.mem_map_of_mem h)
theorem sigOk_name {g : MSignature} (h : sigOk g = true) : validName g.fName = true := by
  unfold sigOk at h
  rw [Bool.and_eq_true] at h
  exact h.1
theorem names_valid {t : MTrait} (h : t.fSignatures.all sigOk = true) : (sigNames t).all validName = true := by
  unfold sigNames
  rw [List.all_map]
  refine List.all_eq_true.2 fun g hg => sigOk_name (List.all_eq_true.1 h g hg)
end Go.Ab
namespace Go.Proofs.YtjfhgcnoielpfaaGreat
open Go Go.Ab

theorem implValidTrait_ok (t : MTrait) (hsz : t.sz ≤ 4194304) : PCall Tryz.prog 17 [t.v] (.c (.d (.b (validTrait t)))) := fun S => by
  have hs := MTrait.sum t
  have hV : ∀ s ∈ t.fSupertraits, s.length ≤ 4194304 := fun s h => by have := strs_b h; omega
  have hG : ∀ g ∈ t.fSignatures, g.sz ≤ 4194304 := fun g h => by have := mem_szG h; omega
  refine (show Hold ((validName t.fName = true ∧ t.fSupertraits.length ≤ 4 ∧ namesOk t.fSupertraits = true ∧ t.fSignatures.length ≤ 6 ∧ ¬ autoBad t) → ?T) → _ from fun tail => ?main) ?tp
  case' main =>
    refine acall_cw (rs := [.tmp 2]) Tryz.checked.mixed Tryz.func17 Tryz.ntmps17 rfl rfl rfl rfl rfl ?_
    simp -implicitDefEqProofs (disch := omega) only [go_sem, ↓reduceIte, Nat.reduceEqDiff, Nat.reduceAdd, Nat.reduceLeDiff, Nat.reduceSub, Nat.reduceMul, Nat.reduceBEq, Int.reduceEq, Int.reduceLT, Int.reduceLE, Int.reduceGT, Int.reduceGE, Int.reduceNeg, Int.reduceToNat]
    refine call_w (implValidName_ok t.fName (by omega)) ?_
    simp -implicitDefEqProofs (disch := omega) only [go_sem, ↓reduceIte, Nat.reduceEqDiff, Nat.reduceAdd, Nat.reduceLeDiff, Nat.reduceSub, Nat.reduceMul, Nat.reduceBEq, Int.reduceEq, Int.reduceLT, Int.reduceLE, Int.reduceGT, Int.reduceGE, Int.reduceNeg, Int.reduceToNat] <;> (repeat ((with_reducible refine And.intro ?_ ?_); (focus (first | omega | rfl | assumption | exact ⟨_, rfl, rfl⟩ | (simp only [List.length_take, List.length_map, List.length_append, List.length_cons, List.length_nil]; omega) | (simp; done)))))
    with_reducible refine split2 (fun hb => ?_) (fun hb => ?_) <;> have h := hb <;> (try simp only [decide_eq_true_eq, decide_eq_false_iff_not, Bool.not_eq_true, Bool.not_eq_false, Bool.not_eq_eq_eq_not, Bool.not_true, Bool.not_false, dec_eq_true, dec_eq_false, Classical.not_not] at h) <;> simp -implicitDefEqProofs (disch := omega) only [go_sem, hb, ↓reduceIte, Nat.reduceEqDiff, Nat.reduceAdd, Nat.reduceLeDiff, Nat.reduceSub, Nat.reduceMul, Nat.reduceBEq, Int.reduceEq, Int.reduceLT, Int.reduceLE, Int.reduceGT, Int.reduceGE, Int.reduceNeg, Int.reduceToNat] <;> (repeat ((with_reducible refine And.intro ?_ ?_); (focus (first | omega | rfl | assumption | exact ⟨_, rfl, rfl⟩ | (simp only [List.length_take, List.length_map, List.length_append, List.length_cons, List.length_nil]; omega) | (simp; done)))))
    · exact bool_eq (by unfold validTrait; rw [h]; rfl)
    have h1 := h
    with_reducible refine split2 (fun hb => ?_) (fun hb => ?_) <;> have h := hb <;> (try simp only [decide_eq_true_eq, decide_eq_false_iff_not, Bool.not_eq_true, Bool.not_eq_false, Bool.not_eq_eq_eq_not, Bool.not_true, Bool.not_false, dec_eq_true, dec_eq_false, Classical.not_not] at h) <;> simp -implicitDefEqProofs (disch := omega) only [go_sem, hb, ↓reduceIte, Nat.reduceEqDiff, Nat.reduceAdd, Nat.reduceLeDiff, Nat.reduceSub, Nat.reduceMul, Nat.reduceBEq, Int.reduceEq, Int.reduceLT, Int.reduceLE, Int.reduceGT, Int.reduceGE, Int.reduceNeg, Int.reduceToNat] <;> (repeat ((with_reducible refine And.intro ?_ ?_); (focus (first | omega | rfl | assumption | exact ⟨_, rfl, rfl⟩ | (simp only [List.length_take, List.length_map, List.length_append, List.length_cons, List.length_nil]; omega) | (simp; done)))))
    · exact bool_eq (by unfold validTrait; rw [dec_false (show ¬ t.fSupertraits.length ≤ 4 by omega)]; simp)
    have h2 := h
    (repeat ((with_reducible refine And.intro ?_ ?_); (focus (first | omega | rfl | assumption | exact ⟨_, rfl, rfl⟩ | (simp only [List.length_take, List.length_map, List.length_append, List.length_cons, List.length_nil]; omega) | (simp; done)))))
    refine call_w (areNames_ok t.fSupertraits (by omega) hV) ?_
    simp -implicitDefEqProofs (disch := omega) only [go_sem, ↓reduceIte, Nat.reduceEqDiff, Nat.reduceAdd, Nat.reduceLeDiff, Nat.reduceSub, Nat.reduceMul, Nat.reduceBEq, Int.reduceEq, Int.reduceLT, Int.reduceLE, Int.reduceGT, Int.reduceGE, Int.reduceNeg, Int.reduceToNat] <;> (repeat ((with_reducible refine And.intro ?_ ?_); (focus (first | omega | rfl | assumption | exact ⟨_, rfl, rfl⟩ | (simp only [List.length_take, List.length_map, List.length_append, List.length_cons, List.length_nil]; omega) | (simp; done)))))
    with_reducible refine split2 (fun hb => ?_) (fun hb => ?_) <;> have h := hb <;> (try simp only [decide_eq_true_eq, decide_eq_false_iff_not, Bool.not_eq_true, Bool.not_eq_false, Bool.not_eq_eq_eq_not, Bool.not_true, Bool.not_false, dec_eq_true, dec_eq_false, Classical.not_not] at h) <;> simp -implicitDefEqProofs (disch := omega) only [go_sem, hb, ↓reduceIte, Nat.reduceEqDiff, Nat.reduceAdd, Nat.reduceLeDiff, Nat.reduceSub, Nat.reduceMul, Nat.reduceBEq, Int.reduceEq, Int.reduceLT, Int.reduceLE, Int.reduceGT, Int.reduceGE, Int.reduceNeg, Int.reduceToNat] <;> (repeat ((with_reducible refine And.intro ?_ ?_); (focus (first | omega | rfl | assumption | exact ⟨_, rfl, rfl⟩ | (simp only [List.length_take, List.length_map, List.length_append, List.length_cons, List.length_nil]; omega) | (simp; done)))))
    · exact bool_eq (by unfold validTrait; rw [h]; simp)
    have h3 := h
    with_reducible refine split2 (fun hb => ?_) (fun hb => ?_) <;> have h := hb <;> (try simp only [decide_eq_true_eq, decide_eq_false_iff_not, Bool.not_eq_true, Bool.not_eq_false, Bool.not_eq_eq_eq_not, Bool.not_true, Bool.not_false, dec_eq_true, dec_eq_false, Classical.not_not] at h) <;> simp -implicitDefEqProofs (disch := omega) only [go_sem, hb, ↓reduceIte, Nat.reduceEqDiff, Nat.reduceAdd, Nat.reduceLeDiff, Nat.reduceSub, Nat.reduceMul, Nat.reduceBEq, Int.reduceEq, Int.reduceLT, Int.reduceLE, Int.reduceGT, Int.reduceGE, Int.reduceNeg, Int.reduceToNat] <;> (repeat ((with_reducible refine And.intro ?_ ?_); (focus (first | omega | rfl | assumption | exact ⟨_, rfl, rfl⟩ | (simp only [List.length_take, List.length_map, List.length_append, List.length_cons, List.length_nil]; omega) | (simp; done)))))
    · exact bool_eq (by unfold validTrait; rw [dec_false (show ¬ t.fSignatures.length ≤ 6 by omega)]; simp)
    have h4 := h
    have bad : autoBad t → V.c (.d (.b false)) = V.c (.d (.b (validTrait t))) := fun h => bool_eq (by unfold validTrait; rw [dec_true h]; simp)
    have pre : ¬ autoBad t → (validName t.fName = true ∧ t.fSupertraits.length ≤ 4 ∧ namesOk t.fSupertraits = true ∧ t.fSignatures.length ≤ 6 ∧ ¬ autoBad t) := fun h => ⟨h1, by omega, h3, by omega, h⟩
    repeat' (first | with_reducible refine split2 (fun hb => ?_) (fun hb => ?_) <;> have h := hb <;> (try simp only [decide_eq_true_eq, decide_eq_false_iff_not, Bool.not_eq_true, Bool.not_eq_false, Bool.not_eq_eq_eq_not, Bool.not_true, Bool.not_false, dec_eq_true, dec_eq_false, Classical.not_not] at h) <;> simp -implicitDefEqProofs (disch := omega) only [go_sem, hb, ↓reduceIte, Nat.reduceEqDiff, Nat.reduceAdd, Nat.reduceLeDiff, Nat.reduceSub, Nat.reduceMul, Nat.reduceBEq, Int.reduceEq, Int.reduceLT, Int.reduceLE, Int.reduceGT, Int.reduceGE, Int.reduceNeg, Int.reduceToNat] <;> (repeat ((with_reducible refine And.intro ?_ ?_); (focus (first | omega | rfl | assumption | exact ⟨_, rfl, rfl⟩ | (simp only [List.length_take, List.length_map, List.length_append, List.length_cons, List.length_nil]; omega) | (simp; done))))))
    all_goals first
      | (refine bad ⟨by assumption, ?_⟩; first | exact .inl (by assumption) | exact .inr (.inl (by omega)) | exact .inr (.inr (by omega)))
      | skip
    all_goals
      have na : ¬ autoBad t := fun x => by
        obtain ⟨x1, x2⟩ := x
        rcases x2 with x2 | x2 | x2 <;> first | omega | simp_all
      (repeat ((with_reducible refine And.intro ?_ ?_); (focus (first | omega | rfl | assumption | exact ⟨_, rfl, rfl⟩ | (simp only [List.length_take, List.length_map, List.length_append, List.length_cons, List.length_nil]; omega) | (simp; done)))))
      refine aw_tok 3 1 [] rfl (by simp) ?_
      refine aw_canon (st' := [.box (t.enc.map .d), .tok 1 []] :: S) [3, 48, 49, 50] [.c (.tsl (0, 1) []), .c (.d (.sl (t.fSignatures.map MSignature.enc))), .c (.d (.i .i64 t.fSignatures.length)), .c (.d (.i .i64 0))] ?_ ?_ ?_
      · rfl
      · first | (simp -implicitDefEqProofs (disch := omega) only [go_sem, ↓reduceIte, Nat.reduceEqDiff, Nat.reduceAdd, Nat.reduceLeDiff, Nat.reduceSub, Nat.reduceMul, Nat.reduceBEq, Int.reduceEq, Int.reduceLT, Int.reduceLE, Int.reduceGT, Int.reduceGE, Int.reduceNeg, Int.reduceToNat]; done) | (simp -implicitDefEqProofs (disch := omega) only [go_sem, ↓reduceIte, Nat.reduceEqDiff, Nat.reduceAdd, Nat.reduceLeDiff, Nat.reduceSub, Nat.reduceMul, Nat.reduceBEq, Int.reduceEq, Int.reduceLT, Int.reduceLE, Int.reduceGT, Int.reduceGE, Int.reduceNeg, Int.reduceToNat]; simp [*])
      · exact tail.out (pre na)
  refine ⟨fun hp => ?_⟩
  obtain ⟨h1, h2, h3, h4, h5⟩ := hp
  have bad : ∀ i, ∀ hi : i < t.fSignatures.length, sigOk t.fSignatures[i] = false → validTrait t = false := fun i hi h => by
    have : t.fSignatures.all sigOk = false := Bool.eq_false_iff.2 fun hx => by
      rw [List.all_eq_true.1 hx _ (List.getElem_mem hi)] at h; cases h
    unfold validTrait
    rw [this]; simp
  refine loop_at (ι := Nat × List (List UInt8)) Tryz.checked.mixed rfl [3, 48, 49, 50] (fun y => [.c (.tsl (0, 1) (y.2.map encS)), .c (.d (.sl (t.fSignatures.map MSignature.enc))), .c (.d (.i .i64 t.fSignatures.length)), .c (.d (.i .i64 y.1))]) (fun y => [.box (t.enc.map .d), .tok 1 (y.2.map encS)] :: S)
    (fun y => y.1 ≤ t.fSignatures.length ∧ y.2 = (sigNames t).take y.1 ∧ ∀ j, ∀ hj : j < t.fSignatures.length, j < y.1 → sigOk t.fSignatures[j] = true) (fun y => t.fSignatures.length - y.1) (0, []) rfl ?_ ⟨Nat.zero_le _, rfl, fun j _ h => by simp only at h; omega⟩ ?_
  · simp -implicitDefEqProofs (disch := omega) only [go_sem, ↓reduceIte, Nat.reduceEqDiff, Nat.reduceAdd, Nat.reduceLeDiff, Nat.reduceSub, Nat.reduceMul, Nat.reduceBEq, Int.reduceEq, Int.reduceLT, Int.reduceLE, Int.reduceGT, Int.reduceGE, Int.reduceNeg, Int.reduceToNat]
  rintro ⟨i, names⟩ ⟨p1, p2, p3⟩
  simp only at p1 p2 p3
  have pl : names.length ≤ t.fSignatures.length := by rw [p2]; simp [sigNames]; omega
  simp -implicitDefEqProofs (disch := omega) only [go_sem, ↓reduceIte, Nat.reduceEqDiff, Nat.reduceAdd, Nat.reduceLeDiff, Nat.reduceSub, Nat.reduceMul, Nat.reduceBEq, Int.reduceEq, Int.reduceLT, Int.reduceLE, Int.reduceGT, Int.reduceGE, Int.reduceNeg, Int.reduceToNat]
  with_reducible refine split2 (fun hb => ?_) (fun hb => ?_) <;> have h := hb <;> (try simp only [decide_eq_true_eq, decide_eq_false_iff_not, Bool.not_eq_true, Bool.not_eq_false, Bool.not_eq_eq_eq_not, Bool.not_true, Bool.not_false, dec_eq_true, dec_eq_false, Classical.not_not] at h) <;> simp -implicitDefEqProofs (disch := omega) only [go_sem, hb, ↓reduceIte, Nat.reduceEqDiff, Nat.reduceAdd, Nat.reduceLeDiff, Nat.reduceSub, Nat.reduceMul, Nat.reduceBEq, Int.reduceEq, Int.reduceLT, Int.reduceLE, Int.reduceGT, Int.reduceGE, Int.reduceNeg, Int.reduceToNat] <;> (repeat ((with_reducible refine And.intro ?_ ?_); (focus (first | omega | rfl | assumption | exact ⟨_, rfl, rfl⟩ | (simp only [List.length_take, List.length_map, List.length_append, List.length_cons, List.length_nil]; omega) | (simp; done)))))
  · have hi : i < t.fSignatures.length := by omega
    (repeat ((with_reducible refine And.intro ?_ ?_); (focus (first | omega | rfl | assumption | exact ⟨_, rfl, rfl⟩ | (simp only [List.length_take, List.length_map, List.length_append, List.length_cons, List.length_nil]; omega) | (simp; done)))))
    refine call_w (isSignature_ok t.fSignatures[i] (hG _ (List.getElem_mem hi))) ?_
    simp -implicitDefEqProofs (disch := omega) only [go_sem, ↓reduceIte, Nat.reduceEqDiff, Nat.reduceAdd, Nat.reduceLeDiff, Nat.reduceSub, Nat.reduceMul, Nat.reduceBEq, Int.reduceEq, Int.reduceLT, Int.reduceLE, Int.reduceGT, Int.reduceGE, Int.reduceNeg, Int.reduceToNat] <;> (repeat ((with_reducible refine And.intro ?_ ?_); (focus (first | omega | rfl | assumption | exact ⟨_, rfl, rfl⟩ | (simp only [List.length_take, List.length_map, List.length_append, List.length_cons, List.length_nil]; omega) | (simp; done)))))
    with_reducible refine split2 (fun hb => ?_) (fun hb => ?_) <;> have h := hb <;> (try simp only [decide_eq_true_eq, decide_eq_false_iff_not, Bool.not_eq_true, Bool.not_eq_false, Bool.not_eq_eq_eq_not, Bool.not_true, Bool.not_false, dec_eq_true, dec_eq_false, Classical.not_not] at h) <;> simp -implicitDefEqProofs (disch := omega) only [go_sem, hb, ↓reduceIte, Nat.reduceEqDiff, Nat.reduceAdd, Nat.reduceLeDiff, Nat.reduceSub, Nat.reduceMul, Nat.reduceBEq, Int.reduceEq, Int.reduceLT, Int.reduceLE, Int.reduceGT, Int.reduceGE, Int.reduceNeg, Int.reduceToNat] <;> (repeat ((with_reducible refine And.intro ?_ ?_); (focus (first | omega | rfl | assumption | exact ⟨_, rfl, rfl⟩ | (simp only [List.length_take, List.length_map, List.length_append, List.length_cons, List.length_nil]; omega) | (simp; done)))))
    · rw [bad i hi h]
    have k2 := h
    (repeat ((with_reducible refine And.intro ?_ ?_); (focus (first | omega | rfl | assumption | exact ⟨_, rfl, rfl⟩ | (simp only [List.length_take, List.length_map, List.length_append, List.length_cons, List.length_nil]; omega) | (simp; done)))))
    rw [show List.map encS names ++ [[D.s t.fSignatures[i].fName]] = List.map encS (names ++ [t.fSignatures[i].fName]) by simp [encS]]
    exact inv_drop 2 (by decide) (i + 1, names ++ [t.fSignatures[i].fName]) (by simp only; omega) rfl rfl rfl rfl ⟨by simp only; omega, by simp only; rw [p2, take_snoc (by simpa [sigNames] using hi)]; simp [sigNames], fun j hj hji => by
      simp only at hji
      by_cases e : j = i
      · subst e; exact k2
      · exact p3 j hj (by omega)⟩
  have hi : i = t.fSignatures.length := by omega
  have hn : names = sigNames t := by rw [p2, List.take_of_length_le (by simp [sigNames]; omega)]
  have hall : t.fSignatures.all sigOk = true := List.all_eq_true.2 fun c hc => by
    obtain ⟨j, hj, e⟩ := List.getElem_of_mem hc
    rw [← e]; exact p3 j hj (by omega)
  refine call_w (implDistinct_ok names (by omega)) ?_
  simp -implicitDefEqProofs (disch := omega) only [go_sem, ↓reduceIte, Nat.reduceEqDiff, Nat.reduceAdd, Nat.reduceLeDiff, Nat.reduceSub, Nat.reduceMul, Nat.reduceBEq, Int.reduceEq, Int.reduceLT, Int.reduceLE, Int.reduceGT, Int.reduceGE, Int.reduceNeg, Int.reduceToNat] <;> (repeat ((with_reducible refine And.intro ?_ ?_); (focus (first | omega | rfl | assumption | exact ⟨_, rfl, rfl⟩ | (simp only [List.length_take, List.length_map, List.length_append, List.length_cons, List.length_nil]; omega) | (simp; done)))))
  exact bool_eq (by unfold validTrait; rw [h1, h3, hall, ← hn, dec_true h2, dec_true h4, dec_false h5]; simp)
theorem specValidTrait_ok (t : MTrait) (hsz : t.sz ≤ 4194304) : PCall Tryz.prog 15 [t.v] (.c (.d (.b (validTrait t)))) := fun S => by
  have hs := MTrait.sum t
  have hV : ∀ s ∈ t.fSupertraits, s.length ≤ 4194304 := fun s h => by have := strs_b h; omega
  have hG : ∀ g ∈ t.fSignatures, g.sz ≤ 4194304 := fun g h => by have := mem_szG h; omega
  have bad : ∀ i, ∀ hi : i < t.fSignatures.length, sigOk t.fSignatures[i] = false → validTrait t = false := fun i hi h => by
    have : t.fSignatures.all sigOk = false := Bool.eq_false_iff.2 fun hx => by
      rw [List.all_eq_true.1 hx _ (List.getElem_mem hi)] at h; cases h
    unfold validTrait
    rw [this]; simp
  have badA : autoBad t → V.c (.d (.b false)) = V.c (.d (.b (validTrait t))) := fun h => bool_eq (by unfold validTrait; rw [dec_true h]; simp)
  refine acall_cw (rs := [.tmp 2]) Tryz.checked.mixed Tryz.func15 Tryz.ntmps15 rfl rfl rfl rfl rfl ?_
  simp -implicitDefEqProofs (disch := omega) only [go_sem, ↓reduceIte, Nat.reduceEqDiff, Nat.reduceAdd, Nat.reduceLeDiff, Nat.reduceSub, Nat.reduceMul, Nat.reduceBEq, Int.reduceEq, Int.reduceLT, Int.reduceLE, Int.reduceGT, Int.reduceGE, Int.reduceNeg, Int.reduceToNat]
  (repeat ((with_reducible refine And.intro ?_ ?_); (focus (first | omega | rfl | assumption | exact ⟨_, rfl, rfl⟩ | (simp only [List.length_take, List.length_map, List.length_append, List.length_cons, List.length_nil]; omega) | (simp; done)))))
  refine aw_tok 3 1 [] rfl (by simp) ?_
  refine loop_at (ι := Nat × List (List UInt8)) Tryz.checked.mixed rfl [1, 3, 4] (fun y => [.c (.ptr (0, 0) 0), .c (.tsl (0, 1) (y.2.map encS)), .c (.d (.i .i64 y.1))]) (fun y => [.box (t.enc.map .d), .tok 1 (y.2.map encS)] :: S)
    (fun y => y.1 ≤ t.fSignatures.length ∧ y.2 = (sigNames t).take y.1 ∧ ∀ j, ∀ hj : j < t.fSignatures.length, j < y.1 → sigOk t.fSignatures[j] = true) (fun y => t.fSignatures.length - y.1) (0, []) rfl ?_ ⟨Nat.zero_le _, rfl, fun j _ h => by simp only at h; omega⟩ ?_
  · simp -implicitDefEqProofs (disch := omega) only [go_sem, ↓reduceIte, Nat.reduceEqDiff, Nat.reduceAdd, Nat.reduceLeDiff, Nat.reduceSub, Nat.reduceMul, Nat.reduceBEq, Int.reduceEq, Int.reduceLT, Int.reduceLE, Int.reduceGT, Int.reduceGE, Int.reduceNeg, Int.reduceToNat]
  rintro ⟨i, names⟩ ⟨p1, p2, p3⟩
  simp only at p1 p2 p3
  have pl : names.length ≤ t.fSignatures.length := by rw [p2]; simp [sigNames]; omega
  simp -implicitDefEqProofs (disch := omega) only [go_sem, ↓reduceIte, Nat.reduceEqDiff, Nat.reduceAdd, Nat.reduceLeDiff, Nat.reduceSub, Nat.reduceMul, Nat.reduceBEq, Int.reduceEq, Int.reduceLT, Int.reduceLE, Int.reduceGT, Int.reduceGE, Int.reduceNeg, Int.reduceToNat]
  with_reducible refine split2 (fun hb => ?_) (fun hb => ?_) <;> have h := hb <;> (try simp only [decide_eq_true_eq, decide_eq_false_iff_not, Bool.not_eq_true, Bool.not_eq_false, Bool.not_eq_eq_eq_not, Bool.not_true, Bool.not_false, dec_eq_true, dec_eq_false, Classical.not_not] at h) <;> simp -implicitDefEqProofs (disch := omega) only [go_sem, hb, ↓reduceIte, Nat.reduceEqDiff, Nat.reduceAdd, Nat.reduceLeDiff, Nat.reduceSub, Nat.reduceMul, Nat.reduceBEq, Int.reduceEq, Int.reduceLT, Int.reduceLE, Int.reduceGT, Int.reduceGE, Int.reduceNeg, Int.reduceToNat] <;> (repeat ((with_reducible refine And.intro ?_ ?_); (focus (first | omega | rfl | assumption | exact ⟨_, rfl, rfl⟩ | (simp only [List.length_take, List.length_map, List.length_append, List.length_cons, List.length_nil]; omega) | (simp; done)))))
  · have hi : i < t.fSignatures.length := by omega
    (repeat ((with_reducible refine And.intro ?_ ?_); (focus (first | omega | rfl | assumption | exact ⟨_, rfl, rfl⟩ | (simp only [List.length_take, List.length_map, List.length_append, List.length_cons, List.length_nil]; omega) | (simp; done)))))
    refine call_w (l13Sig_ok t.fSignatures[i] (hG _ (List.getElem_mem hi))) ?_
    simp -implicitDefEqProofs (disch := omega) only [go_sem, ↓reduceIte, Nat.reduceEqDiff, Nat.reduceAdd, Nat.reduceLeDiff, Nat.reduceSub, Nat.reduceMul, Nat.reduceBEq, Int.reduceEq, Int.reduceLT, Int.reduceLE, Int.reduceGT, Int.reduceGE, Int.reduceNeg, Int.reduceToNat] <;> (repeat ((with_reducible refine And.intro ?_ ?_); (focus (first | omega | rfl | assumption | exact ⟨_, rfl, rfl⟩ | (simp only [List.length_take, List.length_map, List.length_append, List.length_cons, List.length_nil]; omega) | (simp; done)))))
    with_reducible refine split2 (fun hb => ?_) (fun hb => ?_) <;> have h := hb <;> (try simp only [decide_eq_true_eq, decide_eq_false_iff_not, Bool.not_eq_true, Bool.not_eq_false, Bool.not_eq_eq_eq_not, Bool.not_true, Bool.not_false, dec_eq_true, dec_eq_false, Classical.not_not] at h) <;> simp -implicitDefEqProofs (disch := omega) only [go_sem, hb, ↓reduceIte, Nat.reduceEqDiff, Nat.reduceAdd, Nat.reduceLeDiff, Nat.reduceSub, Nat.reduceMul, Nat.reduceBEq, Int.reduceEq, Int.reduceLT, Int.reduceLE, Int.reduceGT, Int.reduceGE, Int.reduceNeg, Int.reduceToNat] <;> (repeat ((with_reducible refine And.intro ?_ ?_); (focus (first | omega | rfl | assumption | exact ⟨_, rfl, rfl⟩ | (simp only [List.length_take, List.length_map, List.length_append, List.length_cons, List.length_nil]; omega) | (simp; done)))))
    · rw [bad i hi h]
    have k2 := h
    (repeat ((with_reducible refine And.intro ?_ ?_); (focus (first | omega | rfl | assumption | exact ⟨_, rfl, rfl⟩ | (simp only [List.length_take, List.length_map, List.length_append, List.length_cons, List.length_nil]; omega) | (simp; done)))))
    rw [show List.map encS names ++ [[D.s t.fSignatures[i].fName]] = List.map encS (names ++ [t.fSignatures[i].fName]) by simp [encS]]
    exact inv_at (i + 1, names ++ [t.fSignatures[i].fName]) (by simp only; omega) rfl rfl ⟨by simp only; omega, by simp only; rw [p2, take_snoc (by simpa [sigNames] using hi)]; simp [sigNames], fun j hj hji => by
      simp only at hji
      by_cases e : j = i
      · subst e; exact k2
      · exact p3 j hj (by omega)⟩
  have hi : i = t.fSignatures.length := by omega
  have hn : names = sigNames t := by rw [p2, List.take_of_length_le (by simp [sigNames]; omega)]
  have hall : t.fSignatures.all sigOk = true := List.all_eq_true.2 fun c hc => by
    obtain ⟨j, hj, e⟩ := List.getElem_of_mem hc
    rw [← e]; exact p3 j hj (by omega)
  have hnv := names_valid hall
  have hnl : ∀ s ∈ names, s.length ≤ 4194304 := fun s hm => by
    rw [hn] at hm
    obtain ⟨g, hg, e⟩ := List.mem_map.1 hm
    have := hG g hg
    have := MSignature.sum g
    rw [← e]
    omega
  have hlen : names.length = t.fSignatures.length := by rw [hn]; simp [sigNames]
  clear bad p2 p3
  repeat' (first | with_reducible refine split2 (fun hb => ?_) (fun hb => ?_) <;> have h := hb <;> (try simp only [decide_eq_true_eq, decide_eq_false_iff_not, Bool.not_eq_true, Bool.not_eq_false, Bool.not_eq_eq_eq_not, Bool.not_true, Bool.not_false, dec_eq_true, dec_eq_false, Classical.not_not] at h) <;> simp -implicitDefEqProofs (disch := omega) only [go_sem, hb, ↓reduceIte, Nat.reduceEqDiff, Nat.reduceAdd, Nat.reduceLeDiff, Nat.reduceSub, Nat.reduceMul, Nat.reduceBEq, Int.reduceEq, Int.reduceLT, Int.reduceLE, Int.reduceGT, Int.reduceGE, Int.reduceNeg, Int.reduceToNat] <;> (repeat ((with_reducible refine And.intro ?_ ?_); (focus (first | omega | rfl | assumption | exact ⟨_, rfl, rfl⟩ | (simp only [List.length_take, List.length_map, List.length_append, List.length_cons, List.length_nil]; omega) | (simp; done))))))
  all_goals first
    | (refine badA ⟨by assumption, ?_⟩; first | exact .inl (by assumption) | exact .inr (.inl (by omega)) | exact .inr (.inr (by omega)))
    | skip
  all_goals
    have na : ¬ autoBad t := fun x => by
      obtain ⟨x1, x2⟩ := x
      rcases x2 with x2 | x2 | x2 <;> first | omega | simp_all
    (repeat ((with_reducible refine And.intro ?_ ?_); (focus (first | omega | rfl | assumption | exact ⟨_, rfl, rfl⟩ | (simp only [List.length_take, List.length_map, List.length_append, List.length_cons, List.length_nil]; omega) | (simp; done)))))
    refine call_w (specValidName_ok t.fName (by omega)) ?_
    simp -implicitDefEqProofs (disch := omega) only [go_sem, ↓reduceIte, Nat.reduceEqDiff, Nat.reduceAdd, Nat.reduceLeDiff, Nat.reduceSub, Nat.reduceMul, Nat.reduceBEq, Int.reduceEq, Int.reduceLT, Int.reduceLE, Int.reduceGT, Int.reduceGE, Int.reduceNeg, Int.reduceToNat]
    with_reducible refine split2 (fun hb => ?_) (fun hb => ?_) <;> have h := hb <;> (try simp only [decide_eq_true_eq, decide_eq_false_iff_not, Bool.not_eq_true, Bool.not_eq_false, Bool.not_eq_eq_eq_not, Bool.not_true, Bool.not_false, dec_eq_true, dec_eq_false, Classical.not_not] at h) <;> simp -implicitDefEqProofs (disch := omega) only [go_sem, hb, ↓reduceIte, Nat.reduceEqDiff, Nat.reduceAdd, Nat.reduceLeDiff, Nat.reduceSub, Nat.reduceMul, Nat.reduceBEq, Int.reduceEq, Int.reduceLT, Int.reduceLE, Int.reduceGT, Int.reduceGE, Int.reduceNeg, Int.reduceToNat] <;> (repeat ((with_reducible refine And.intro ?_ ?_); (focus (first | omega | rfl | assumption | exact ⟨_, rfl, rfl⟩ | (simp only [List.length_take, List.length_map, List.length_append, List.length_cons, List.length_nil]; omega) | (simp; done)))))
    · have h1 := h
      (repeat ((with_reducible refine And.intro ?_ ?_); (focus (first | omega | rfl | assumption | exact ⟨_, rfl, rfl⟩ | (simp only [List.length_take, List.length_map, List.length_append, List.length_cons, List.length_nil]; omega) | (simp; done)))))
      refine call_w (l13Words_ok t.fSupertraits 4 (by omega) hV) ?_
      simp -implicitDefEqProofs (disch := omega) only [go_sem, ↓reduceIte, Nat.reduceEqDiff, Nat.reduceAdd, Nat.reduceLeDiff, Nat.reduceSub, Nat.reduceMul, Nat.reduceBEq, Int.reduceEq, Int.reduceLT, Int.reduceLE, Int.reduceGT, Int.reduceGE, Int.reduceNeg, Int.reduceToNat] <;> (repeat ((with_reducible refine And.intro ?_ ?_); (focus (first | omega | rfl | assumption | exact ⟨_, rfl, rfl⟩ | (simp only [List.length_take, List.length_map, List.length_append, List.length_cons, List.length_nil]; omega) | (simp; done)))))
      with_reducible refine split2 (fun hb => ?_) (fun hb => ?_) <;> have h := hb <;> (try simp only [decide_eq_true_eq, decide_eq_false_iff_not, Bool.not_eq_true, Bool.not_eq_false, Bool.not_eq_eq_eq_not, Bool.not_true, Bool.not_false, dec_eq_true, dec_eq_false, Classical.not_not] at h) <;> simp -implicitDefEqProofs (disch := omega) only [go_sem, hb, ↓reduceIte, Nat.reduceEqDiff, Nat.reduceAdd, Nat.reduceLeDiff, Nat.reduceSub, Nat.reduceMul, Nat.reduceBEq, Int.reduceEq, Int.reduceLT, Int.reduceLE, Int.reduceGT, Int.reduceGE, Int.reduceNeg, Int.reduceToNat] <;> (repeat ((with_reducible refine And.intro ?_ ?_); (focus (first | omega | rfl | assumption | exact ⟨_, rfl, rfl⟩ | (simp only [List.length_take, List.length_map, List.length_append, List.length_cons, List.length_nil]; omega) | (simp; done)))))
      · have h2 := h
        rw [Bool.and_eq_true] at h2
        have h3 := of_dec h2.1
        refine call_w (l13Words_ok names 6 (by omega) hnl) ?_
        simp -implicitDefEqProofs (disch := omega) only [go_sem, ↓reduceIte, Nat.reduceEqDiff, Nat.reduceAdd, Nat.reduceLeDiff, Nat.reduceSub, Nat.reduceMul, Nat.reduceBEq, Int.reduceEq, Int.reduceLT, Int.reduceLE, Int.reduceGT, Int.reduceGE, Int.reduceNeg, Int.reduceToNat] <;> (repeat ((with_reducible refine And.intro ?_ ?_); (focus (first | omega | rfl | assumption | exact ⟨_, rfl, rfl⟩ | (simp only [List.length_take, List.length_map, List.length_append, List.length_cons, List.length_nil]; omega) | (simp; done)))))
        refine bool_eq ?_
        unfold validTrait
        rw [h1, h2.2, hall, dec_false na, dec_true (show t.fSupertraits.length ≤ 4 by omega), hlen]
        unfold namesOk
        rw [hn, hnv, Bool.and_true]
        simp only [Bool.true_and, Bool.not_false]
        congr 1
        exact dec_congr ⟨fun h => by omega, fun h => by omega⟩
      · refine bool_eq ?_
        unfold validTrait
        have h2 : (dec (t.fSupertraits.length ≤ 4) && namesOk t.fSupertraits) = false := by
          rw [← h]; congr 1; exact dec_congr ⟨fun h => by omega, fun h => by omega⟩
        rw [← Bool.and_assoc (dec (t.fSupertraits.length ≤ 4)), h2]; simp
    · exact bool_eq (by unfold validTrait; rw [h]; rfl)
end Go.Proofs.YtjfhgcnoielpfaaGreat

/- THE WALK of laws.FnExactIsValidTrait: it answers true. -/
namespace Go.Proofs.YtjfhgcnoielpfaaGreat.fnExactIsValidTrait
open Go Go.Ab

theorem law (x0 : MTrait) (f0 : FitL x0.enc) : ACall Tryz.prog 4 [x0.v] [] (fun r _ => r = .c (.d (.b true))) := by
  refine acall_cw (rs := [.tmp 2]) Tryz.checked.mixed Tryz.func4 Tryz.ntmps4 rfl rfl rfl rfl rfl ?_
  simp -implicitDefEqProofs (disch := omega) only [go_sem, ↓reduceIte, Nat.reduceEqDiff, Nat.reduceAdd, Nat.reduceLeDiff, Nat.reduceSub, Nat.reduceMul, Nat.reduceBEq, Int.reduceEq, Int.reduceLT, Int.reduceLE, Int.reduceGT, Int.reduceGE, Int.reduceNeg, Int.reduceToNat]
  refine call_w (szTrait_ok x0 _ (by omega) (by omega) f0) ?_
  simp -implicitDefEqProofs (disch := omega) only [go_sem, ↓reduceIte, Nat.reduceEqDiff, Nat.reduceAdd, Nat.reduceLeDiff, Nat.reduceSub, Nat.reduceMul, Nat.reduceBEq, Int.reduceEq, Int.reduceLT, Int.reduceLE, Int.reduceGT, Int.reduceGE, Int.reduceNeg, Int.reduceToNat] <;> (repeat ((with_reducible refine And.intro ?_ ?_); (focus (first | omega | rfl | assumption | exact ⟨_, rfl, rfl⟩ | (simp only [List.length_take, List.length_map, List.length_append, List.length_cons, List.length_nil]; omega) | (simp; done)))))
  with_reducible refine split2 (fun hb => ?_) (fun hb => ?_) <;> have h := hb <;> (try simp only [decide_eq_true_eq, decide_eq_false_iff_not, Bool.not_eq_true, Bool.not_eq_false, Bool.not_eq_eq_eq_not, Bool.not_true, Bool.not_false, dec_eq_true, dec_eq_false, Classical.not_not] at h) <;> simp -implicitDefEqProofs (disch := omega) only [go_sem, hb, ↓reduceIte, Nat.reduceEqDiff, Nat.reduceAdd, Nat.reduceLeDiff, Nat.reduceSub, Nat.reduceMul, Nat.reduceBEq, Int.reduceEq, Int.reduceLT, Int.reduceLE, Int.reduceGT, Int.reduceGE, Int.reduceNeg, Int.reduceToNat] <;> (repeat ((with_reducible refine And.intro ?_ ?_); (focus (first | omega | rfl | assumption | exact ⟨_, rfl, rfl⟩ | (simp only [List.length_take, List.length_map, List.length_append, List.length_cons, List.length_nil]; omega) | (simp; done)))))
  have h0 := sub1_nn h
  refine call_w (toTrait_ok x0 (by omega)) ?_
  simp -implicitDefEqProofs (disch := omega) only [go_sem, ↓reduceIte, Nat.reduceEqDiff, Nat.reduceAdd, Nat.reduceLeDiff, Nat.reduceSub, Nat.reduceMul, Nat.reduceBEq, Int.reduceEq, Int.reduceLT, Int.reduceLE, Int.reduceGT, Int.reduceGE, Int.reduceNeg, Int.reduceToNat] <;> (repeat ((with_reducible refine And.intro ?_ ?_); (focus (first | omega | rfl | assumption | exact ⟨_, rfl, rfl⟩ | (simp only [List.length_take, List.length_map, List.length_append, List.length_cons, List.length_nil]; omega) | (simp; done)))))
  refine call_w (specValidTrait_ok x0 (by omega)) ?_
  simp -implicitDefEqProofs (disch := omega) only [go_sem, ↓reduceIte, Nat.reduceEqDiff, Nat.reduceAdd, Nat.reduceLeDiff, Nat.reduceSub, Nat.reduceMul, Nat.reduceBEq, Int.reduceEq, Int.reduceLT, Int.reduceLE, Int.reduceGT, Int.reduceGE, Int.reduceNeg, Int.reduceToNat] <;> (repeat ((with_reducible refine And.intro ?_ ?_); (focus (first | omega | rfl | assumption | exact ⟨_, rfl, rfl⟩ | (simp only [List.length_take, List.length_map, List.length_append, List.length_cons, List.length_nil]; omega) | (simp; done)))))
  refine call_w (toTrait_ok x0 (by omega)) ?_
  simp -implicitDefEqProofs (disch := omega) only [go_sem, ↓reduceIte, Nat.reduceEqDiff, Nat.reduceAdd, Nat.reduceLeDiff, Nat.reduceSub, Nat.reduceMul, Nat.reduceBEq, Int.reduceEq, Int.reduceLT, Int.reduceLE, Int.reduceGT, Int.reduceGE, Int.reduceNeg, Int.reduceToNat] <;> (repeat ((with_reducible refine And.intro ?_ ?_); (focus (first | omega | rfl | assumption | exact ⟨_, rfl, rfl⟩ | (simp only [List.length_take, List.length_map, List.length_append, List.length_cons, List.length_nil]; omega) | (simp; done)))))
  refine call_w (implValidTrait_ok x0 (by omega)) ?_
  simp -implicitDefEqProofs (disch := omega) only [go_sem, ↓reduceIte, Nat.reduceEqDiff, Nat.reduceAdd, Nat.reduceLeDiff, Nat.reduceSub, Nat.reduceMul, Nat.reduceBEq, Int.reduceEq, Int.reduceLT, Int.reduceLE, Int.reduceGT, Int.reduceGE, Int.reduceNeg, Int.reduceToNat] <;> (repeat ((with_reducible refine And.intro ?_ ?_); (focus (first | omega | rfl | assumption | exact ⟨_, rfl, rfl⟩ | (simp only [List.length_take, List.length_map, List.length_append, List.length_cons, List.length_nil]; omega) | (simp; done)))))
  refine call_w (toTrait_ok x0 (by omega)) ?_
  simp -implicitDefEqProofs (disch := omega) only [go_sem, ↓reduceIte, Nat.reduceEqDiff, Nat.reduceAdd, Nat.reduceLeDiff, Nat.reduceSub, Nat.reduceMul, Nat.reduceBEq, Int.reduceEq, Int.reduceLT, Int.reduceLE, Int.reduceGT, Int.reduceGE, Int.reduceNeg, Int.reduceToNat] <;> (repeat ((with_reducible refine And.intro ?_ ?_); (focus (first | omega | rfl | assumption | exact ⟨_, rfl, rfl⟩ | (simp only [List.length_take, List.length_map, List.length_append, List.length_cons, List.length_nil]; omega) | (simp; done)))))
  refine call_w (eqTrait_ok x0 x0 (by omega)) ?_
  simp -implicitDefEqProofs (disch := omega) only [go_sem, ↓reduceIte, Nat.reduceEqDiff, Nat.reduceAdd, Nat.reduceLeDiff, Nat.reduceSub, Nat.reduceMul, Nat.reduceBEq, Int.reduceEq, Int.reduceLT, Int.reduceLE, Int.reduceGT, Int.reduceGE, Int.reduceNeg, Int.reduceToNat] <;> (repeat ((with_reducible refine And.intro ?_ ?_); (focus (first | omega | rfl | assumption | exact ⟨_, rfl, rfl⟩ | (simp only [List.length_take, List.length_map, List.length_append, List.length_cons, List.length_nil]; omega) | (simp; done)))))
end Go.Proofs.YtjfhgcnoielpfaaGreat.fnExactIsValidTrait

/- TYPING: data of a type of the laws' package are the cells of a datum of the Lean type. Printed by program (wip/tool/wtgen.py). -/
namespace Go.Ab

theorem wt_pos {P : Program} {n : Nat} {t : TypeId} {ds : List D} (h : WT P n t ds) : ∃ m, n = m + 1 := by
  cases n with
  | zero => exact h.elim
  | succ m => exact ⟨m, rfl⟩
theorem wt_bool {P : Program} {n : Nat} {t : TypeId} {ds : List D} (ht : P.underlying t = some .bool) (h : WT P n t ds) : ∃ b, ds = [.b b] := by
  obtain ⟨m, rfl⟩ := wt_pos h
  simp only [WT, ht] at h; exact h
theorem wt_int {P : Program} {n : Nat} {t : TypeId} {k : IntKind} {ds : List D} (ht : P.underlying t = some (.int k)) (h : WT P n t ds) : ∃ x, ds = [.i k x] ∧ (Lit.int k x).wf = true := by
  obtain ⟨m, rfl⟩ := wt_pos h
  simp only [WT, ht] at h; exact h
theorem wt_string {P : Program} {n : Nat} {t : TypeId} {ds : List D} (ht : P.underlying t = some .string) (h : WT P n t ds) : ∃ l, ds = [.s l] := by
  obtain ⟨m, rfl⟩ := wt_pos h
  simp only [WT, ht] at h; exact ⟨h.choose, h.choose_spec.1⟩
theorem wt_slice {P : Program} {n : Nat} {t e : TypeId} {ds : List D} (ht : P.underlying t = some (.slice e)) (h : WT P n t ds) : ∃ es m, m < n ∧ ds = [.sl es] ∧ ∀ x ∈ es, WT P m e x := by
  obtain ⟨m, rfl⟩ := wt_pos h
  simp only [WT, ht] at h
  obtain ⟨es, h1, _, h2⟩ := h
  exact ⟨es, m, by omega, h1, fun x hx => (h2 x hx).2⟩
theorem wt_struct {P : Program} {n : Nat} {t : TypeId} {fs : Array Field} {ds : List D} (ht : P.underlying t = some (.struct fs)) (h : WT P n t ds) : ∃ m, m < n ∧ WTF P (WT P m) fs.toList ds := by
  obtain ⟨m, rfl⟩ := wt_pos h
  simp only [WT, ht] at h
  exact ⟨m, by omega, h⟩
theorem list_enc {α : Type} {enc : α → List D} : ∀ {es : List (List D)}, (∀ x ∈ es, ∃ m, x = enc m) → ∃ ms : List α, es = ms.map enc
  | [], _ => ⟨[], rfl⟩
  | e :: es, h => by
    obtain ⟨m, hm⟩ := h e (by simp)
    obtain ⟨ms, hms⟩ := list_enc (es := es) fun x hx => h x (by simp [hx])
    exact ⟨m :: ms, by rw [List.map_cons, ← hm, ← hms]⟩

theorem wtf_fit {P : Program} {W : TypeId → List D → Prop} (hW : ∀ t ds, W t ds → FitL ds) : ∀ (fs : List Field) (ds : List D), WTF P W fs ds → FitL ds
  | [], ds, h => by
    have h : ds = [] := h
    rw [h]; exact fitL_nil
  | f :: fs, ds, h => by
    obtain ⟨a, b, rfl, _, h1, h2⟩ := h
    exact fitL_append.2 ⟨hW _ _ h1, wtf_fit hW fs b h2⟩
theorem wt_fit {P : Program} : ∀ (n : Nat) (t : TypeId) (ds : List D), WT P n t ds → FitL ds
  | 0, t, ds, h => h.elim
  | n + 1, t, ds, h => by
    simp only [WT] at h
    split at h
    · obtain ⟨b, rfl⟩ := h; exact fitL_cons.2 ⟨.b _, fitL_nil⟩
    · obtain ⟨b, rfl, _⟩ := h; exact fitL_cons.2 ⟨.i _ _, fitL_nil⟩
    · obtain ⟨l, rfl, hl⟩ := h; exact fitL_cons.2 ⟨.s _ hl, fitL_nil⟩
    · obtain ⟨es, rfl, hl, hh⟩ := h
      exact fitL_cons.2 ⟨.sl _ hl fun e he d hd => wt_fit n _ e (hh e he).2 d hd, fitL_nil⟩
    · exact wtf_fit (wt_fit n) _ _ h
    · exact h.elim
end Go.Ab
namespace Go.Proofs.YtjfhgcnoielpfaaGreat
open Go Go.Ab

theorem wt_Type : ∀ (n : Nat) (ds : List D), WT Tryz.prog n 27 ds → ∃ x : MType, ds = x.enc := by
  intro n
  induction n using Nat.strongRecOn with
  | _ n ih =>
    intro ds h
    obtain ⟨m, hm, h⟩ := wt_struct Tryz.underlying27 h
    simp only [WTF] at h
    obtain ⟨a0, r0, rfl, l0, h0, a1, r1, rfl, l1, h1, a2, r2, rfl, l2, h2, rfl⟩ := h
    obtain ⟨x0, rfl, _⟩ := wt_int Tryz.underlying3 h0
    obtain ⟨x1, rfl⟩ := wt_string Tryz.underlying9 h1
    obtain ⟨es2, m2, hm2, rfl, hs2⟩ := wt_slice Tryz.underlying25 h2
    obtain ⟨x2, rfl⟩ := list_enc (enc := MType.enc) fun y hy => ih m2 (by omega) y (hs2 y hy)
    refine ⟨MType.mk x0 x1 x2, ?_⟩
    rw [MType.enc_eq]
    simp [MType.fKind, MType.fName, MType.fArgs]
theorem wt_Bound : ∀ (n : Nat) (ds : List D), WT Tryz.prog n 89 ds → ∃ x : MBound, ds = x.enc := by
  intro n
  induction n using Nat.strongRecOn with
  | _ n ih =>
    intro ds h
    obtain ⟨m, hm, h⟩ := wt_struct Tryz.underlying89 h
    simp only [WTF] at h
    obtain ⟨a0, r0, rfl, l0, h0, a1, r1, rfl, l1, h1, rfl⟩ := h
    obtain ⟨x0, rfl⟩ := wt_string Tryz.underlying9 h0
    obtain ⟨x1, rfl⟩ := wt_Type m a1 h1
    refine ⟨MBound.mk x0 x1, ?_⟩
    rw [MBound.enc_eq]
    simp
theorem wt_ExprArm : ∀ (n : Nat), (∀ ds : List D, WT Tryz.prog n 31 ds → ∃ x : MExpr, ds = x.enc) ∧ (∀ ds : List D, WT Tryz.prog n 217 ds → ∃ x : MArm, ds = x.enc) := by
  intro n
  induction n using Nat.strongRecOn with
  | _ n ih =>
    refine ⟨fun ds h => ?_, fun ds h => ?_⟩
    · obtain ⟨m, hm, h⟩ := wt_struct Tryz.underlying31 h
      simp only [WTF] at h
      obtain ⟨a0, r0, rfl, l0, h0, a1, r1, rfl, l1, h1, a2, r2, rfl, l2, h2, a3, r3, rfl, l3, h3, a4, r4, rfl, l4, h4, a5, r5, rfl, l5, h5, a6, r6, rfl, l6, h6, rfl⟩ := h
      obtain ⟨x0, rfl, _⟩ := wt_int Tryz.underlying3 h0
      obtain ⟨x1, rfl⟩ := wt_string Tryz.underlying9 h1
      obtain ⟨x2, rfl⟩ := wt_string Tryz.underlying9 h2
      obtain ⟨x3, rfl, _⟩ := wt_int Tryz.underlying3 h3
      obtain ⟨x4, rfl⟩ := wt_Type m a4 h4
      obtain ⟨es5, m5, hm5, rfl, hs5⟩ := wt_slice Tryz.underlying28 h5
      obtain ⟨x5, rfl⟩ := list_enc (enc := MExpr.enc) fun y hy => (ih m5 (by omega)).1 y (hs5 y hy)
      obtain ⟨es6, m6, hm6, rfl, hs6⟩ := wt_slice Tryz.underlying29 h6
      obtain ⟨x6, rfl⟩ := list_enc (enc := MArm.enc) fun y hy => (ih m6 (by omega)).2 y (hs6 y hy)
      refine ⟨MExpr.mk x0 x1 x2 x3 x4 x5 x6, ?_⟩
      rw [MExpr.enc_eq]
      simp [MExpr.fKind, MExpr.fTrait, MExpr.fName, MExpr.fN, MExpr.fType, MExpr.fArgs, MExpr.fArms]
    · obtain ⟨m, hm, h⟩ := wt_struct Tryz.underlying217 h
      simp only [WTF] at h
      obtain ⟨a0, r0, rfl, l0, h0, a1, r1, rfl, l1, h1, a2, r2, rfl, l2, h2, rfl⟩ := h
      obtain ⟨x0, rfl⟩ := wt_string Tryz.underlying9 h0
      obtain ⟨es1, m1, hm1, rfl, hs1⟩ := wt_slice Tryz.underlying22 h1
      obtain ⟨x1, rfl⟩ := list_enc (enc := encS) fun y hy => wt_string Tryz.underlying9 (hs1 y hy)
      obtain ⟨x2, rfl⟩ := (ih m (by omega)).1 a2 h2
      refine ⟨MArm.mk x0 x1 x2, ?_⟩
      rw [MArm.enc_eq]
      simp [MArm.fConstructor, MArm.fVars, MArm.fBody]
theorem wt_Expr (n : Nat) (ds : List D) (h : WT Tryz.prog n 31 ds) : ∃ x : MExpr, ds = x.enc := (wt_ExprArm n).1 ds h
theorem wt_Arm (n : Nat) (ds : List D) (h : WT Tryz.prog n 217 ds) : ∃ x : MArm, ds = x.enc := (wt_ExprArm n).2 ds h
theorem wt_Signature : ∀ (n : Nat) (ds : List D), WT Tryz.prog n 173 ds → ∃ x : MSignature, ds = x.enc := by
  intro n
  induction n using Nat.strongRecOn with
  | _ n ih =>
    intro ds h
    obtain ⟨m, hm, h⟩ := wt_struct Tryz.underlying173 h
    simp only [WTF] at h
    obtain ⟨a0, r0, rfl, l0, h0, a1, r1, rfl, l1, h1, a2, r2, rfl, l2, h2, a3, r3, rfl, l3, h3, a4, r4, rfl, l4, h4, a5, r5, rfl, l5, h5, rfl⟩ := h
    obtain ⟨x0, rfl⟩ := wt_string Tryz.underlying9 h0
    obtain ⟨es1, m1, hm1, rfl, hs1⟩ := wt_slice Tryz.underlying25 h1
    obtain ⟨x1, rfl⟩ := list_enc (enc := MType.enc) fun y hy => wt_Type m1 y (hs1 y hy)
    obtain ⟨x2, rfl⟩ := wt_Type m a2 h2
    obtain ⟨x3, rfl⟩ := wt_bool Tryz.underlying4 h3
    obtain ⟨es4, m4, hm4, rfl, hs4⟩ := wt_slice Tryz.underlying22 h4
    obtain ⟨x4, rfl⟩ := list_enc (enc := encS) fun y hy => wt_string Tryz.underlying9 (hs4 y hy)
    obtain ⟨x5, rfl⟩ := wt_Expr m a5 h5
    refine ⟨MSignature.mk x0 x1 x2 x3 x4 x5, ?_⟩
    rw [MSignature.enc_eq]
    simp
theorem wt_Trait : ∀ (n : Nat) (ds : List D), WT Tryz.prog n 52 ds → ∃ x : MTrait, ds = x.enc := by
  intro n
  induction n using Nat.strongRecOn with
  | _ n ih =>
    intro ds h
    obtain ⟨m, hm, h⟩ := wt_struct Tryz.underlying52 h
    simp only [WTF] at h
    obtain ⟨a0, r0, rfl, l0, h0, a1, r1, rfl, l1, h1, a2, r2, rfl, l2, h2, a3, r3, rfl, l3, h3, a4, r4, rfl, l4, h4, rfl⟩ := h
    obtain ⟨x0, rfl⟩ := wt_string Tryz.underlying9 h0
    obtain ⟨es1, m1, hm1, rfl, hs1⟩ := wt_slice Tryz.underlying22 h1
    obtain ⟨x1, rfl⟩ := list_enc (enc := encS) fun y hy => wt_string Tryz.underlying9 (hs1 y hy)
    obtain ⟨x2, rfl⟩ := wt_bool Tryz.underlying4 h2
    obtain ⟨x3, rfl⟩ := wt_bool Tryz.underlying4 h3
    obtain ⟨es4, m4, hm4, rfl, hs4⟩ := wt_slice Tryz.underlying50 h4
    obtain ⟨x4, rfl⟩ := list_enc (enc := MSignature.enc) fun y hy => wt_Signature m4 y (hs4 y hy)
    refine ⟨MTrait.mk x0 x1 x2 x3 x4, ?_⟩
    rw [MTrait.enc_eq]
    simp
theorem wt_Constructor : ∀ (n : Nat) (ds : List D), WT Tryz.prog n 282 ds → ∃ x : MConstructor, ds = x.enc := by
  intro n
  induction n using Nat.strongRecOn with
  | _ n ih =>
    intro ds h
    obtain ⟨m, hm, h⟩ := wt_struct Tryz.underlying282 h
    simp only [WTF] at h
    obtain ⟨a0, r0, rfl, l0, h0, a1, r1, rfl, l1, h1, rfl⟩ := h
    obtain ⟨x0, rfl⟩ := wt_string Tryz.underlying9 h0
    obtain ⟨es1, m1, hm1, rfl, hs1⟩ := wt_slice Tryz.underlying25 h1
    obtain ⟨x1, rfl⟩ := list_enc (enc := MType.enc) fun y hy => wt_Type m1 y (hs1 y hy)
    refine ⟨MConstructor.mk x0 x1, ?_⟩
    rw [MConstructor.enc_eq]
    simp
theorem wt_DataType : ∀ (n : Nat) (ds : List D), WT Tryz.prog n 264 ds → ∃ x : MDataType, ds = x.enc := by
  intro n
  induction n using Nat.strongRecOn with
  | _ n ih =>
    intro ds h
    obtain ⟨m, hm, h⟩ := wt_struct Tryz.underlying264 h
    simp only [WTF] at h
    obtain ⟨a0, r0, rfl, l0, h0, a1, r1, rfl, l1, h1, a2, r2, rfl, l2, h2, rfl⟩ := h
    obtain ⟨x0, rfl⟩ := wt_string Tryz.underlying9 h0
    obtain ⟨es1, m1, hm1, rfl, hs1⟩ := wt_slice Tryz.underlying22 h1
    obtain ⟨x1, rfl⟩ := list_enc (enc := encS) fun y hy => wt_string Tryz.underlying9 (hs1 y hy)
    obtain ⟨es2, m2, hm2, rfl, hs2⟩ := wt_slice Tryz.underlying262 h2
    obtain ⟨x2, rfl⟩ := list_enc (enc := MConstructor.enc) fun y hy => wt_Constructor m2 y (hs2 y hy)
    refine ⟨MDataType.mk x0 x1 x2, ?_⟩
    rw [MDataType.enc_eq]
    simp
theorem wt_Method : ∀ (n : Nat) (ds : List D), WT Tryz.prog n 179 ds → ∃ x : MMethod, ds = x.enc := by
  intro n
  induction n using Nat.strongRecOn with
  | _ n ih =>
    intro ds h
    obtain ⟨m, hm, h⟩ := wt_struct Tryz.underlying179 h
    simp only [WTF] at h
    obtain ⟨a0, r0, rfl, l0, h0, a1, r1, rfl, l1, h1, a2, r2, rfl, l2, h2, rfl⟩ := h
    obtain ⟨x0, rfl⟩ := wt_string Tryz.underlying9 h0
    obtain ⟨es1, m1, hm1, rfl, hs1⟩ := wt_slice Tryz.underlying22 h1
    obtain ⟨x1, rfl⟩ := list_enc (enc := encS) fun y hy => wt_string Tryz.underlying9 (hs1 y hy)
    obtain ⟨x2, rfl⟩ := wt_Expr m a2 h2
    refine ⟨MMethod.mk x0 x1 x2, ?_⟩
    rw [MMethod.enc_eq]
    simp
theorem wt_Instance : ∀ (n : Nat) (ds : List D), WT Tryz.prog n 63 ds → ∃ x : MInstance, ds = x.enc := by
  intro n
  induction n using Nat.strongRecOn with
  | _ n ih =>
    intro ds h
    obtain ⟨m, hm, h⟩ := wt_struct Tryz.underlying63 h
    simp only [WTF] at h
    obtain ⟨a0, r0, rfl, l0, h0, a1, r1, rfl, l1, h1, a2, r2, rfl, l2, h2, a3, r3, rfl, l3, h3, a4, r4, rfl, l4, h4, a5, r5, rfl, l5, h5, a6, r6, rfl, l6, h6, a7, r7, rfl, l7, h7, rfl⟩ := h
    obtain ⟨x0, rfl⟩ := wt_string Tryz.underlying9 h0
    obtain ⟨es1, m1, hm1, rfl, hs1⟩ := wt_slice Tryz.underlying22 h1
    obtain ⟨x1, rfl⟩ := list_enc (enc := encS) fun y hy => wt_string Tryz.underlying9 (hs1 y hy)
    obtain ⟨x2, rfl⟩ := wt_Type m a2 h2
    obtain ⟨es3, m3, hm3, rfl, hs3⟩ := wt_slice Tryz.underlying23 h3
    obtain ⟨x3, rfl⟩ := list_enc (enc := MBound.enc) fun y hy => wt_Bound m3 y (hs3 y hy)
    obtain ⟨x4, rfl⟩ := wt_bool Tryz.underlying4 h4
    obtain ⟨x5, rfl⟩ := wt_bool Tryz.underlying4 h5
    obtain ⟨x6, rfl⟩ := wt_Type m a6 h6
    obtain ⟨es7, m7, hm7, rfl, hs7⟩ := wt_slice Tryz.underlying61 h7
    obtain ⟨x7, rfl⟩ := list_enc (enc := MMethod.enc) fun y hy => wt_Method m7 y (hs7 y hy)
    refine ⟨MInstance.mk x0 x1 x2 x3 x4 x5 x6 x7, ?_⟩
    rw [MInstance.enc_eq]
    simp
theorem wt_Param : ∀ (n : Nat) (ds : List D), WT Tryz.prog n 153 ds → ∃ x : MParam, ds = x.enc := by
  intro n
  induction n using Nat.strongRecOn with
  | _ n ih =>
    intro ds h
    obtain ⟨m, hm, h⟩ := wt_struct Tryz.underlying153 h
    simp only [WTF] at h
    obtain ⟨a0, r0, rfl, l0, h0, a1, r1, rfl, l1, h1, rfl⟩ := h
    obtain ⟨x0, rfl⟩ := wt_string Tryz.underlying9 h0
    obtain ⟨x1, rfl⟩ := wt_Type m a1 h1
    refine ⟨MParam.mk x0 x1, ?_⟩
    rw [MParam.enc_eq]
    simp
theorem wt_Function : ∀ (n : Nat) (ds : List D), WT Tryz.prog n 33 ds → ∃ x : MFunction, ds = x.enc := by
  intro n
  induction n using Nat.strongRecOn with
  | _ n ih =>
    intro ds h
    obtain ⟨m, hm, h⟩ := wt_struct Tryz.underlying33 h
    simp only [WTF] at h
    obtain ⟨a0, r0, rfl, l0, h0, a1, r1, rfl, l1, h1, a2, r2, rfl, l2, h2, a3, r3, rfl, l3, h3, a4, r4, rfl, l4, h4, a5, r5, rfl, l5, h5, rfl⟩ := h
    obtain ⟨x0, rfl⟩ := wt_string Tryz.underlying9 h0
    obtain ⟨es1, m1, hm1, rfl, hs1⟩ := wt_slice Tryz.underlying22 h1
    obtain ⟨x1, rfl⟩ := list_enc (enc := encS) fun y hy => wt_string Tryz.underlying9 (hs1 y hy)
    obtain ⟨es2, m2, hm2, rfl, hs2⟩ := wt_slice Tryz.underlying23 h2
    obtain ⟨x2, rfl⟩ := list_enc (enc := MBound.enc) fun y hy => wt_Bound m2 y (hs2 y hy)
    obtain ⟨es3, m3, hm3, rfl, hs3⟩ := wt_slice Tryz.underlying24 h3
    obtain ⟨x3, rfl⟩ := list_enc (enc := MParam.enc) fun y hy => wt_Param m3 y (hs3 y hy)
    obtain ⟨x4, rfl⟩ := wt_Type m a4 h4
    obtain ⟨x5, rfl⟩ := wt_Expr m a5 h5
    refine ⟨MFunction.mk x0 x1 x2 x3 x4 x5, ?_⟩
    rw [MFunction.enc_eq]
    simp
theorem wt_Package : ∀ (n : Nat) (ds : List D), WT Tryz.prog n 192 ds → ∃ x : MPackage, ds = x.enc := by
  intro n
  induction n using Nat.strongRecOn with
  | _ n ih =>
    intro ds h
    obtain ⟨m, hm, h⟩ := wt_struct Tryz.underlying192 h
    simp only [WTF] at h
    obtain ⟨a0, r0, rfl, l0, h0, a1, r1, rfl, l1, h1, a2, r2, rfl, l2, h2, a3, r3, rfl, l3, h3, a4, r4, rfl, l4, h4, a5, r5, rfl, l5, h5, rfl⟩ := h
    obtain ⟨x0, rfl⟩ := wt_string Tryz.underlying9 h0
    obtain ⟨es1, m1, hm1, rfl, hs1⟩ := wt_slice Tryz.underlying22 h1
    obtain ⟨x1, rfl⟩ := list_enc (enc := encS) fun y hy => wt_string Tryz.underlying9 (hs1 y hy)
    obtain ⟨es2, m2, hm2, rfl, hs2⟩ := wt_slice Tryz.underlying187 h2
    obtain ⟨x2, rfl⟩ := list_enc (enc := MTrait.enc) fun y hy => wt_Trait m2 y (hs2 y hy)
    obtain ⟨es3, m3, hm3, rfl, hs3⟩ := wt_slice Tryz.underlying188 h3
    obtain ⟨x3, rfl⟩ := list_enc (enc := MDataType.enc) fun y hy => wt_DataType m3 y (hs3 y hy)
    obtain ⟨es4, m4, hm4, rfl, hs4⟩ := wt_slice Tryz.underlying189 h4
    obtain ⟨x4, rfl⟩ := list_enc (enc := MInstance.enc) fun y hy => wt_Instance m4 y (hs4 y hy)
    obtain ⟨es5, m5, hm5, rfl, hs5⟩ := wt_slice Tryz.underlying190 h5
    obtain ⟨x5, rfl⟩ := list_enc (enc := MFunction.enc) fun y hy => wt_Function m5 y (hs5 y hy)
    refine ⟨MPackage.mk x0 x1 x2 x3 x4 x5, ?_⟩
    rw [MPackage.enc_eq]
    simp
theorem wt_Program : ∀ (n : Nat) (ds : List D), WT Tryz.prog n 74 ds → ∃ x : MProgram, ds = x.enc := by
  intro n
  induction n using Nat.strongRecOn with
  | _ n ih =>
    intro ds h
    obtain ⟨m, hm, h⟩ := wt_struct Tryz.underlying74 h
    simp only [WTF] at h
    obtain ⟨a0, r0, rfl, l0, h0, rfl⟩ := h
    obtain ⟨es0, m0, hm0, rfl, hs0⟩ := wt_slice Tryz.underlying72 h0
    obtain ⟨x0, rfl⟩ := list_enc (enc := MPackage.enc) fun y hy => wt_Package m0 y (hs0 y hy)
    refine ⟨MProgram.mk x0, ?_⟩
    rw [MProgram.enc_eq]
    simp
end Go.Proofs.YtjfhgcnoielpfaaGreat

