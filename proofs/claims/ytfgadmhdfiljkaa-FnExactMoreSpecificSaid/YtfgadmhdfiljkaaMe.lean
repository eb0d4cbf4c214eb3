/-
  CONTRACTS: the program's matching.
-/
import Derived.Test.YtfgadmhdfiljkaaMd
set_option linter.unusedSimpArgs false
set_option linter.unusedVariables false
set_option maxRecDepth 4000
namespace Go.Proofs.Ytfgadmhdfiljkaa
open Go Go.Ab

theorem implMatch_all : ∀ n : Nat, (∀ p : MType, SizeOf.sizeOf p < n → ∀ (t : MType) (s : List MBinding) (l j : Nat) (S : Store), getO S (l, j) = some (.tok 4 (s.map MBinding.enc)) → p.sz ≤ 4194304 → t.sz ≤ 4194304 → Small s → s.length + p.cnt ≤ 1073741824 →
      ACall Try.prog 108 [.c (.tsl (l, j) (s.map MBinding.enc)), p.v, t.v] S (fun r S' => r = matR (l, j) (matchT s p t) ∧ S' = matS (l, j) S (matchT s p t))) ∧
    (∀ ps : List MType, SizeOf.sizeOf ps < n → ∀ (ts : List MType) (s : List MBinding) (l j : Nat) (S : Store), getO S (l, j) = some (.tok 4 (s.map MBinding.enc)) → ps.length + szRows (ps.map MType.enc) ≤ 4194304 → ts.length + szRows (ts.map MType.enc) ≤ 4194304 → Small s → s.length + MType.cnts ps ≤ 1073741824 →
      ACall Try.prog 91 [.c (.tsl (l, j) (s.map MBinding.enc)), .c (.d (.sl (ps.map MType.enc))), .c (.d (.sl (ts.map MType.enc)))] S (fun r S' => r = matR (l, j) (matchAll s ps ts) ∧ S' = matS (l, j) S (matchAll s ps ts)))
  | 0 => ⟨fun x h => by omega, fun x h => by omega⟩
  | n + 1 => by
    obtain ⟨ih, ihS⟩ := implMatch_all n
    refine ⟨fun p hn t s l j S hk hp ht hs hc => matP_det ?_, fun ps hn ts s l j S hk hp ht hs hc => matP_det ?_⟩
    · have lArgs := MType.lt_Args p
      have hcnt := MType.cnt_eq p
      have hp' := hp
      have ht' := ht
      simp only [MType.sz, MType.enc_eq, szRow, szRow_append, D.sz, List.length_map] at hp' ht'
      refine acall_cw (rs := [.tmp 6, .tmp 7]) Try.checked.mixed Try.func108 Try.ntmps108 rfl rfl rfl rfl rfl ?_
      simp -implicitDefEqProofs (disch := omega) only [go_sem, hk, ↓reduceIte, Nat.reduceEqDiff, Nat.reduceAdd, Nat.reduceLeDiff, Nat.reduceSub, Nat.reduceMul, Nat.reduceBEq]
      refine split2 (fun hb => ?_) (fun hb => ?_) <;> have h := hb <;> simp only [decide_eq_true_eq, decide_eq_false_iff_not, Bool.not_eq_true, Bool.not_eq_false, Bool.not_eq_eq_eq_not, Bool.not_true, Bool.not_false, dec_eq_true, dec_eq_false, Classical.not_not] at h <;> simp -implicitDefEqProofs (disch := omega) only [go_sem, hb, hk, ↓reduceIte, Nat.reduceEqDiff, Nat.reduceAdd, Nat.reduceLeDiff, Nat.reduceSub, Nat.reduceMul, Nat.reduceBEq] <;> (repeat ((with_reducible refine And.intro ?_ ?_); (focus (first | omega | rfl | assumption | exact ⟨_, rfl, rfl⟩ | (simp only [List.length_take, List.length_map, List.length_append, List.length_cons, List.length_nil]; omega) | (simp; done)))))
      · refine call_w (implLookup_ok s p.fName hs (by omega)) ?_
        cases hl : lookupB s p.fName with
        | none =>
          have hm : matchT s p t = some (s ++ [⟨p.fName, t⟩]) := by rw [matchT_eq, if_pos h, hl]
          rw [hm]
          simp -implicitDefEqProofs (disch := omega) only [go_sem, lookR_none, ↓reduceIte, Nat.reduceEqDiff, Nat.reduceAdd, Nat.reduceLeDiff, Nat.reduceSub, Nat.reduceMul, Nat.reduceBEq]
          refine call_w (copyType_ok t ht) ?_
          simp -implicitDefEqProofs (disch := omega) only [go_sem, ↓reduceIte, Nat.reduceEqDiff, Nat.reduceAdd, Nat.reduceLeDiff, Nat.reduceSub, Nat.reduceMul, Nat.reduceBEq] <;> (repeat ((with_reducible refine And.intro ?_ ?_); (focus (first | omega | rfl | assumption | exact ⟨_, rfl, rfl⟩ | (simp only [List.length_take, List.length_map, List.length_append, List.length_cons, List.length_nil]; omega) | (simp; done)))))
          simp -implicitDefEqProofs (disch := omega) only [go_sem, hk, ↓reduceIte, Nat.reduceEqDiff, Nat.reduceAdd, Nat.reduceLeDiff, Nat.reduceSub, Nat.reduceMul, Nat.reduceBEq]
          (repeat ((with_reducible refine And.intro ?_ ?_); (focus (first | omega | rfl | assumption | exact ⟨_, rfl, rfl⟩ | (simp only [List.length_take, List.length_map, List.length_append, List.length_cons, List.length_nil]; omega) | (simp; done)))))
          simp [matP, MBinding.enc_eq, MType.enc_eq]
        | some u =>
          have hm : matchT s p t = if dec (u = t) = true then some s else none := by rw [matchT_eq, if_pos h, hl]
          have hu : u.sz ≤ 4194304 := by
            obtain ⟨b, hb, e⟩ := lookup_mem hl
            rw [← e]; exact hs b hb
          rw [hm]
          simp -implicitDefEqProofs (disch := omega) only [go_sem, lookR_some, ↓reduceIte, Nat.reduceEqDiff, Nat.reduceAdd, Nat.reduceLeDiff, Nat.reduceSub, Nat.reduceMul, Nat.reduceBEq]
          refine call_w (implEqualType_ok u t hu) ?_
          cases hd : dec (u = t) with
          | true =>
            simp -implicitDefEqProofs (disch := omega) only [go_sem, ↓reduceIte, Nat.reduceEqDiff, Nat.reduceAdd, Nat.reduceLeDiff, Nat.reduceSub, Nat.reduceMul, Nat.reduceBEq]
            simp only [matP, if_true]
            exact ⟨trivial, (setO_self _ _ hk).symm⟩
          | false =>
            simp -implicitDefEqProofs (disch := omega) only [go_sem, ↓reduceIte, Nat.reduceEqDiff, Nat.reduceAdd, Nat.reduceLeDiff, Nat.reduceSub, Nat.reduceMul, Nat.reduceBEq]
            simp only [matP, Bool.false_eq_true, if_false]
            exact ⟨⟨_, rfl⟩, trivial⟩
      · have hm : ¬ (p.fKind = t.fKind ∧ p.fName = t.fName ∧ p.fArgs.length = t.fArgs.length) → matchT s p t = none := fun x => by rw [matchT_eq, if_neg h, if_neg x]
        have hm2 : (p.fKind = t.fKind ∧ p.fName = t.fName ∧ p.fArgs.length = t.fArgs.length) → matchT s p t = matchL s p.fArgs t.fArgs := fun x => by rw [matchT_eq, if_neg h, if_pos x]
        have h0 := h
        refine split2 (fun hb => ?_) (fun hb => ?_) <;> have h := hb <;> simp only [decide_eq_true_eq, decide_eq_false_iff_not, Bool.not_eq_true, Bool.not_eq_false, Bool.not_eq_eq_eq_not, Bool.not_true, Bool.not_false, dec_eq_true, dec_eq_false, Classical.not_not] at h <;> simp -implicitDefEqProofs (disch := omega) only [go_sem, hb, hk, ↓reduceIte, Nat.reduceEqDiff, Nat.reduceAdd, Nat.reduceLeDiff, Nat.reduceSub, Nat.reduceMul, Nat.reduceBEq] <;> (repeat ((with_reducible refine And.intro ?_ ?_); (focus (first | omega | rfl | assumption | exact ⟨_, rfl, rfl⟩ | (simp only [List.length_take, List.length_map, List.length_append, List.length_cons, List.length_nil]; omega) | (simp; done)))))
        · rw [hm (by omega)]
          exact ⟨⟨_, rfl⟩, rfl⟩
        have h1 := h
        refine split2 (fun hb => ?_) (fun hb => ?_) <;> have h := hb <;> simp only [decide_eq_true_eq, decide_eq_false_iff_not, Bool.not_eq_true, Bool.not_eq_false, Bool.not_eq_eq_eq_not, Bool.not_true, Bool.not_false, dec_eq_true, dec_eq_false, Classical.not_not] at h <;> simp -implicitDefEqProofs (disch := omega) only [go_sem, hb, hk, ↓reduceIte, Nat.reduceEqDiff, Nat.reduceAdd, Nat.reduceLeDiff, Nat.reduceSub, Nat.reduceMul, Nat.reduceBEq] <;> (repeat ((with_reducible refine And.intro ?_ ?_); (focus (first | omega | rfl | assumption | exact ⟨_, rfl, rfl⟩ | (simp only [List.length_take, List.length_map, List.length_append, List.length_cons, List.length_nil]; omega) | (simp; done)))))
        · rw [hm (fun x => h x.2.1)]
          exact ⟨⟨_, rfl⟩, rfl⟩
        have h2 := h
        have hm3 : matchT s p t = matchAll s p.fArgs t.fArgs := by
          unfold matchAll
          by_cases e : p.fArgs.length = t.fArgs.length
          · rw [if_pos e]; exact hm2 ⟨by omega, h2, e⟩
          · rw [if_neg e]; exact hm (fun x => e x.2.2)
        rw [hm3]
        refine call_d rfl (ihS p.fArgs (by omega) t.fArgs s (1 + l) j _ (by rw [getO_up1]; exact hk) (by omega) (by omega) hs (by omega)) ?_
        cases hL : matchAll s p.fArgs t.fArgs with
        | none =>
          simp -implicitDefEqProofs (disch := omega) only [go_sem, matR_none, matS_none, ↓reduceIte, Nat.reduceEqDiff, Nat.reduceAdd, Nat.reduceLeDiff, Nat.reduceSub, Nat.reduceMul, Nat.reduceBEq]
          exact ⟨⟨_, rfl⟩, setO_twice _ _⟩
        | some s1 =>
          simp -implicitDefEqProofs (disch := omega) only [go_sem, matR_some, matS_some, ↓reduceIte, Nat.reduceEqDiff, Nat.reduceAdd, Nat.reduceLeDiff, Nat.reduceSub, Nat.reduceMul, Nat.reduceBEq]
          exact ⟨rfl, rfl⟩
    · refine acall_cw (rs := [.tmp 6, .tmp 7]) Try.checked.mixed Try.func91 Try.ntmps91 rfl rfl rfl rfl rfl ?_
      simp -implicitDefEqProofs (disch := omega) only [go_sem, hk, ↓reduceIte, Nat.reduceEqDiff, Nat.reduceAdd, Nat.reduceLeDiff, Nat.reduceSub, Nat.reduceMul, Nat.reduceBEq]
      refine split2 (fun hb => ?_) (fun hb => ?_) <;> have h := hb <;> simp only [decide_eq_true_eq, decide_eq_false_iff_not, Bool.not_eq_true, Bool.not_eq_false, Bool.not_eq_eq_eq_not, Bool.not_true, Bool.not_false, dec_eq_true, dec_eq_false, Classical.not_not] at h <;> simp -implicitDefEqProofs (disch := omega) only [go_sem, hb, hk, ↓reduceIte, Nat.reduceEqDiff, Nat.reduceAdd, Nat.reduceLeDiff, Nat.reduceSub, Nat.reduceMul, Nat.reduceBEq] <;> (repeat ((with_reducible refine And.intro ?_ ?_); (focus (first | omega | rfl | assumption | exact ⟨_, rfl, rfl⟩ | (simp only [List.length_take, List.length_map, List.length_append, List.length_cons, List.length_nil]; omega) | (simp; done)))))
      · have hm : matchAll s ps ts = none := if_neg (by omega)
        rw [hm]
        exact ⟨⟨_, rfl⟩, rfl⟩
      have hl : ps.length = ts.length := by omega
      have hm0 : matchAll s ps ts = matchL s ps ts := if_pos hl
      rw [hm0]
      refine loop_at (ι := Nat × List MBinding) Try.checked.mixed rfl [0, 1, 2, 17, 18] (fun y => [.c (.tsl (1 + l, j) (y.2.map MBinding.enc)), .c (.d (.sl (ps.map MType.enc))), .c (.d (.sl (ts.map MType.enc))), .c (.d (.i .i64 ps.length)), .c (.d (.i .i64 y.1))]) (fun y => [] :: setO S (l, j) (.tok 4 (y.2.map MBinding.enc)))
        (fun y => y.1 ≤ ps.length ∧ Small y.2 ∧ y.2.length + MType.cnts (ps.drop y.1) ≤ 1073741824 ∧ matchL y.2 (ps.drop y.1) (ts.drop y.1) = matchL s ps ts) (fun y => ps.length - y.1) (0, s) rfl (by rw [setO_self _ _ hk]) ⟨Nat.zero_le _, hs, hc, rfl⟩ ?_
      rintro ⟨i, cur⟩ ⟨p1, p2, p3, p4⟩
      simp only at p1 p2 p3 p4
      simp -implicitDefEqProofs (disch := omega) only [go_sem, ↓reduceIte, Nat.reduceEqDiff, Nat.reduceAdd, Nat.reduceLeDiff, Nat.reduceSub, Nat.reduceMul, Nat.reduceBEq]
      refine split2 (fun hb => ?_) (fun hb => ?_) <;> have h := hb <;> simp only [decide_eq_true_eq, decide_eq_false_iff_not, Bool.not_eq_true, Bool.not_eq_false, Bool.not_eq_eq_eq_not, Bool.not_true, Bool.not_false, dec_eq_true, dec_eq_false, Classical.not_not] at h <;> simp -implicitDefEqProofs (disch := omega) only [go_sem, hb, ↓reduceIte, Nat.reduceEqDiff, Nat.reduceAdd, Nat.reduceLeDiff, Nat.reduceSub, Nat.reduceMul, Nat.reduceBEq] <;> (repeat ((with_reducible refine And.intro ?_ ?_); (focus (first | omega | rfl | assumption | exact ⟨_, rfl, rfl⟩ | (simp only [List.length_take, List.length_map, List.length_append, List.length_cons, List.length_nil]; omega) | (simp; done)))))
      · have hi : i < ps.length := by omega
        have hi' : i < ts.length := by omega
        have hx : ps[i].sz ≤ szRows (ps.map MType.enc) := szRows_mem (List.mem_map_of_mem (List.getElem_mem hi))
        have hy : ts[i].sz ≤ szRows (ts.map MType.enc) := szRows_mem (List.mem_map_of_mem (List.getElem_mem hi'))
        rw [List.drop_eq_getElem_cons hi, MType.cnts] at p3
        have p5 := matchL_drop hi hi' _ p4
        (repeat ((with_reducible refine And.intro ?_ ?_); (focus (first | omega | rfl | assumption | exact ⟨_, rfl, rfl⟩ | (simp only [List.length_take, List.length_map, List.length_append, List.length_cons, List.length_nil]; omega) | (simp; done)))))
        refine call_d rfl (ih ps[i] (by have := List.sizeOf_lt_of_mem (List.getElem_mem hi); omega) ts[i] cur (1 + l) j _ (by rw [getO_up1]; exact getO_setO_eq _ _ _ _ hk) (by omega) (by omega) p2 (by omega)) ?_
        cases hm : matchT cur ps[i] ts[i] with
        | none =>
          rw [hm] at p5
          simp -implicitDefEqProofs (disch := omega) only [go_sem, matR_none, matS_none, setO_twice, ↓reduceIte, Nat.reduceEqDiff, Nat.reduceAdd, Nat.reduceLeDiff, Nat.reduceSub, Nat.reduceMul, Nat.reduceBEq]
          rw [← p5]
          exact ⟨⟨_, rfl⟩, setO_twice _ _⟩
        | some nx =>
          rw [hm] at p5
          have hlen := matchT_len _ _ _ _ hm
          simp -implicitDefEqProofs (disch := omega) only [go_sem, matR_some, matS_some, setO_twice, ↓reduceIte, Nat.reduceEqDiff, Nat.reduceAdd, Nat.reduceLeDiff, Nat.reduceSub, Nat.reduceMul, Nat.reduceBEq]
          exact inv_at (i + 1, nx) (by simp only; omega) rfl rfl ⟨by simp only; omega, matchT_small _ _ _ _ (by omega) p2 hm, by simp only; omega, p5⟩
      · have hi : i = ps.length := by omega
        have hi' : i = ts.length := by omega
        have hr : matchL s ps ts = some cur := by
          rw [← p4, List.drop_of_length_le (by omega), matchL]
        rw [hr]
        exact ⟨rfl, rfl⟩
theorem implMatchL_ok {ps ts : List MType} {s : List MBinding} {l j : Nat} {S : Store} (hk : getO S (l, j) = some (.tok 4 (s.map MBinding.enc))) (hp : ps.length + szRows (ps.map MType.enc) ≤ 4194304) (ht : ts.length + szRows (ts.map MType.enc) ≤ 4194304)
    (hs : Small s) (hc : s.length + MType.cnts ps ≤ 1073741824) : ACall Try.prog 91 [.c (.tsl (l, j) (s.map MBinding.enc)), .c (.d (.sl (ps.map MType.enc))), .c (.d (.sl (ts.map MType.enc)))] S (fun r S' => r = matR (l, j) (matchAll s ps ts) ∧ S' = matS (l, j) S (matchAll s ps ts)) :=
  (implMatch_all _).2 ps (Nat.lt_succ_self _) ts s l j S hk hp ht hs hc
theorem implMatchL0 {ps ts : List MType} {S : Store} (hp : ps.length + szRows (ps.map MType.enc) ≤ 4194304) (ht : ts.length + szRows (ts.map MType.enc) ≤ 4194304) :
    ACall Try.prog 91 [.c (.fsl []), .c (.d (.sl (ps.map MType.enc))), .c (.d (.sl (ts.map MType.enc)))] S (fun r S' => r = matO (matchAll [] ps ts) ∧ S' = S) := by
  have hc := cnts_le ps
  refine ACall.tok0 0 (es := []) (esz := 4) rfl (by simp) (implMatchL_ok (s := []) (l := 0) (j := 0) (S := [.tok 4 []] :: S) rfl hp ht small_nil (by simp; omega)) ?_
  rintro r fr S' ⟨h1, h2⟩
  cases hm : matchAll [] ps ts with
  | none =>
    rw [hm] at h1 h2
    subst h1
    injection h2 with h2 h3
    exact ⟨_, rfl, rfl, h3⟩
  | some s =>
    rw [hm] at h1 h2
    subst h1
    injection h2 with h2 h3
    exact ⟨_, rfl, rfl, h3⟩

theorem implMatch_ok (p t : MType) (hp : p.sz ≤ 4194303) (ht : t.sz ≤ 4194303) : PCall Try.prog 64 [p.v, t.v] (matO (matchAll [] [p] [t])) := fun S => by
  refine acall_cw (rs := [.tmp 4, .tmp 5]) Try.checked.mixed Try.func64 Try.ntmps64 rfl rfl rfl rfl rfl ?_
  simp -implicitDefEqProofs (disch := omega) only [go_sem, ↓reduceIte, Nat.reduceEqDiff, Nat.reduceAdd, Nat.reduceLeDiff, Nat.reduceSub, Nat.reduceMul, Nat.reduceBEq]
  (repeat ((with_reducible refine And.intro ?_ ?_); (focus (first | omega | rfl | assumption | exact ⟨_, rfl, rfl⟩ | (simp only [List.length_take, List.length_map, List.length_append, List.length_cons, List.length_nil]; omega) | (simp; done)))))
  have h0 := fun S => implMatchL0 (ps := [p]) (ts := [t]) (S := S) (by simp [szRows, MType.sz_def, szRow]; omega) (by simp [szRows, MType.sz_def, szRow]; omega)
  simp only [List.map_cons, List.map_nil, MType.enc_eq] at h0
  refine call_m [true] rfl (h0 _) ?_
  cases matchAll [] [p] [t] with
  | none => simp -implicitDefEqProofs (disch := omega) only [go_sem, matO_none, ↓reduceIte, Nat.reduceEqDiff, Nat.reduceAdd, Nat.reduceLeDiff, Nat.reduceSub, Nat.reduceMul, Nat.reduceBEq]
  | some s => simp -implicitDefEqProofs (disch := omega) only [go_sem, matO_some, ↓reduceIte, Nat.reduceEqDiff, Nat.reduceAdd, Nat.reduceLeDiff, Nat.reduceSub, Nat.reduceMul, Nat.reduceBEq]

theorem implMatches_ok (p t : MType) (hp : p.sz ≤ 4194303) (ht : t.sz ≤ 4194303) : PCall Try.prog 40 [p.v, t.v] (.c (.d (.b (mats p t)))) := fun S => by
  rw [show mats p t = (matchAll [] [p] [t]).isSome from rfl]
  refine acall_cw (rs := [.tmp 4]) Try.checked.mixed Try.func40 Try.ntmps40 rfl rfl rfl rfl rfl ?_
  simp -implicitDefEqProofs (disch := omega) only [go_sem, ↓reduceIte, Nat.reduceEqDiff, Nat.reduceAdd, Nat.reduceLeDiff, Nat.reduceSub, Nat.reduceMul, Nat.reduceBEq]
  refine call_w (implMatch_ok p t hp ht) ?_
  cases matchAll [] [p] [t] with
  | none => simp -implicitDefEqProofs (disch := omega) only [go_sem, matO_none, ↓reduceIte, Nat.reduceEqDiff, Nat.reduceAdd, Nat.reduceLeDiff, Nat.reduceSub, Nat.reduceMul, Nat.reduceBEq]
  | some s => simp -implicitDefEqProofs (disch := omega) only [go_sem, matO_some, ↓reduceIte, Nat.reduceEqDiff, Nat.reduceAdd, Nat.reduceLeDiff, Nat.reduceSub, Nat.reduceMul, Nat.reduceBEq]
end Go.Proofs.Ytfgadmhdfiljkaa
