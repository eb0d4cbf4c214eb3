/-
  CONTRACTS: matching a pattern against a type, the program's and the reference's. The substitution is a slice to which is appended: an object of the caller's, named by its key.
-/
import Derived.Test.YtfgadmhdfiljkaaMc
set_option linter.unusedSimpArgs false
set_option linter.unusedVariables false
set_option maxRecDepth 4000
namespace Go.Proofs.Ytfgadmhdfiljkaa
open Go Go.Ab

def matR (k : Key) : Option (List MBinding) → V
  | some s => .tup [(false, [.tsl k (s.map MBinding.enc)]), (false, [.d (.b true)])]
  | none => .tup [(false, [.any]), (false, [.d (.b false)])]
def matS (k : Key) (S : Store) : Option (List MBinding) → Store
  | some s => setO S k (.tok 4 (s.map MBinding.enc))
  | none => setO S k .dead
def matP (k : Key) (S : Store) (o : Option (List MBinding)) (r : V) (S' : Store) : Prop :=
  match o with
  | some s => r = .tup [(false, [.tsl k (s.map MBinding.enc)]), (false, [.d (.b true)])] ∧ S' = setO S k (.tok 4 (s.map MBinding.enc))
  | none => (∃ c, r = .tup [(false, [c]), (false, [.d (.b false)])]) ∧ setO S' k .dead = setO S k .dead
theorem matP_det {f : FuncId} {args : List V} {S : Store} {k : Key} {o : Option (List MBinding)} (h : ACall Try.prog f args S (matP k S o)) : ACall Try.prog f args S (fun r S' => r = matR k o ∧ S' = matS k S o) := by
  refine h.kill k fun r S' hp => ?_
  cases o with
  | some s => exact ⟨r, Less.refl r, .inl hp⟩
  | none =>
    obtain ⟨⟨c, rfl⟩, h2⟩ := hp
    exact ⟨_, less_first, .inr ⟨rfl, h2⟩⟩
theorem matR_some {k : Key} {s : List MBinding} : matR k (some s) = .tup [(false, [.tsl k (s.map MBinding.enc)]), (false, [.d (.b true)])] := rfl
theorem matR_none {k : Key} : matR k none = .tup [(false, [.any]), (false, [.d (.b false)])] := rfl
theorem matS_some {k : Key} {S : Store} {s : List MBinding} : matS k S (some s) = setO S k (.tok 4 (s.map MBinding.enc)) := rfl
theorem matS_none {k : Key} {S : Store} : matS k S none = setO S k .dead := rfl

theorem specMatch_all : ∀ n : Nat, (∀ p : MType, SizeOf.sizeOf p < n → ∀ (t : MType) (s : List MBinding) (l j : Nat) (S : Store), getO S (l, j) = some (.tok 4 (s.map MBinding.enc)) → p.sz ≤ 4194304 → t.sz ≤ 4194304 → Small s → s.length + p.cnt ≤ 1073741824 →
      ACall Try.prog 119 [p.v, t.v, .c (.tsl (l, j) (s.map MBinding.enc))] S (fun r S' => r = matR (l, j) (matchT s p t) ∧ S' = matS (l, j) S (matchT s p t))) ∧
    (∀ ps : List MType, SizeOf.sizeOf ps < n → ∀ (ts : List MType) (s : List MBinding) (l j : Nat) (S : Store), getO S (l, j) = some (.tok 4 (s.map MBinding.enc)) → ps.length = ts.length → ps.length + szRows (ps.map MType.enc) ≤ 4194304 → ts.length + szRows (ts.map MType.enc) ≤ 4194304 → Small s → s.length + MType.cnts ps ≤ 1073741824 →
      ACall Try.prog 114 [.c (.d (.sl (ps.map MType.enc))), .c (.d (.sl (ts.map MType.enc))), .c (.tsl (l, j) (s.map MBinding.enc))] S (fun r S' => r = matR (l, j) (matchL s ps ts) ∧ S' = matS (l, j) S (matchL s ps ts)))
  | 0 => ⟨fun x h => by omega, fun x h => by omega⟩
  | n + 1 => by
    obtain ⟨ih, ihS⟩ := specMatch_all n
    refine ⟨fun p hn t s l j S hk hp ht hs hc => matP_det ?_, fun ps hn ts s l j S hk hl hp ht hs hc => matP_det ?_⟩
    · have lArgs := MType.lt_Args p
      have hcnt := MType.cnt_eq p
      have hp' := hp
      have ht' := ht
      simp only [MType.sz, MType.enc_eq, szRow, szRow_append, D.sz, List.length_map] at hp' ht'
      refine acall_cw (rs := [.tmp 6, .tmp 7]) Try.checked.mixed Try.func119 Try.ntmps119 rfl rfl rfl rfl rfl ?_
      simp -implicitDefEqProofs (disch := omega) only [go_sem, hk, ↓reduceIte, Nat.reduceEqDiff, Nat.reduceAdd, Nat.reduceLeDiff, Nat.reduceSub, Nat.reduceMul, Nat.reduceBEq]
      refine split2 (fun hb => ?_) (fun hb => ?_) <;> have h := hb <;> simp only [decide_eq_true_eq, decide_eq_false_iff_not, Bool.not_eq_true, Bool.not_eq_false, Bool.not_eq_eq_eq_not, Bool.not_true, Bool.not_false, dec_eq_true, dec_eq_false, Classical.not_not] at h <;> simp -implicitDefEqProofs (disch := omega) only [go_sem, hb, hk, ↓reduceIte, Nat.reduceEqDiff, Nat.reduceAdd, Nat.reduceLeDiff, Nat.reduceSub, Nat.reduceMul, Nat.reduceBEq] <;> (repeat ((with_reducible refine And.intro ?_ ?_); (focus (first | omega | rfl | assumption | exact ⟨_, rfl, rfl⟩ | (simp only [List.length_take, List.length_map, List.length_append, List.length_cons, List.length_nil]; omega) | (simp; done)))))
      · refine call_w (specLookup_ok s p.fName hs (by omega)) ?_
        cases hl : lookupB s p.fName with
        | none =>
          have hm : matchT s p t = some (s ++ [⟨p.fName, t⟩]) := by rw [matchT_eq, if_pos h, hl]
          rw [hm]
          simp -implicitDefEqProofs (disch := omega) only [go_sem, lookR_none, ↓reduceIte, Nat.reduceEqDiff, Nat.reduceAdd, Nat.reduceLeDiff, Nat.reduceSub, Nat.reduceMul, Nat.reduceBEq]
          refine call_w (l4Copy_ok t ht) ?_
          simp -implicitDefEqProofs (disch := omega) only [go_sem, ↓reduceIte, Nat.reduceEqDiff, Nat.reduceAdd, Nat.reduceLeDiff, Nat.reduceSub, Nat.reduceMul, Nat.reduceBEq] <;> (repeat ((with_reducible refine And.intro ?_ ?_); (focus (first | omega | rfl | assumption | exact ⟨_, rfl, rfl⟩ | (simp only [List.length_take, List.length_map, List.length_append, List.length_cons, List.length_nil]; omega) | (simp; done)))))
          simp -implicitDefEqProofs (disch := omega) only [go_sem, hk, ↓reduceIte, Nat.reduceEqDiff, Nat.reduceAdd, Nat.reduceLeDiff, Nat.reduceSub, Nat.reduceMul, Nat.reduceBEq]
          (repeat ((with_reducible refine And.intro ?_ ?_); (focus (first | omega | rfl | assumption | exact ⟨_, rfl, rfl⟩ | (simp only [List.length_take, List.length_map, List.length_append, List.length_cons, List.length_nil]; omega) | (simp; done)))))
          simp [matP, MBinding.enc_eq, MType.enc_eq]
        | some u =>
          have hm : matchT s p t = if dec (u = t) = true then some s else none := by rw [matchT_eq, if_pos h, hl]
          have hu : u.sz ≤ 4194304 := by
            obtain ⟨b, hb, e⟩ := lookup_mem hl
            rw [← e]; exact hs b hb
          rw [hm]
          simp -implicitDefEqProofs (disch := omega) only [go_sem, lookR_some, ↓reduceIte, Nat.reduceEqDiff, Nat.reduceAdd, Nat.reduceLeDiff, Nat.reduceSub, Nat.reduceMul, Nat.reduceBEq]
          refine call_w (specEqualType_ok u t hu) ?_
          cases hd : dec (u = t) with
          | true =>
            simp -implicitDefEqProofs (disch := omega) only [go_sem, ↓reduceIte, Nat.reduceEqDiff, Nat.reduceAdd, Nat.reduceLeDiff, Nat.reduceSub, Nat.reduceMul, Nat.reduceBEq]
            simp only [matP, if_true]
            exact ⟨trivial, (setO_self _ _ hk).symm⟩
          | false =>
            simp -implicitDefEqProofs (disch := omega) only [go_sem, ↓reduceIte, Nat.reduceEqDiff, Nat.reduceAdd, Nat.reduceLeDiff, Nat.reduceSub, Nat.reduceMul, Nat.reduceBEq]
            simp only [matP, Bool.false_eq_true, if_false]
            exact ⟨⟨_, rfl⟩, trivial⟩
      · have hm : ¬ (p.fKind = t.fKind ∧ p.fName = t.fName ∧ p.fArgs.length = t.fArgs.length) → matchT s p t = none := fun x => by rw [matchT_eq, if_neg h, if_neg x]
        have hm2 : (p.fKind = t.fKind ∧ p.fName = t.fName ∧ p.fArgs.length = t.fArgs.length) → matchT s p t = matchL s p.fArgs t.fArgs := fun x => by rw [matchT_eq, if_neg h, if_pos x]
        have h0 := h
        refine split2 (fun hb => ?_) (fun hb => ?_) <;> have h := hb <;> simp only [decide_eq_true_eq, decide_eq_false_iff_not, Bool.not_eq_true, Bool.not_eq_false, Bool.not_eq_eq_eq_not, Bool.not_true, Bool.not_false, dec_eq_true, dec_eq_false, Classical.not_not] at h <;> simp -implicitDefEqProofs (disch := omega) only [go_sem, hb, hk, ↓reduceIte, Nat.reduceEqDiff, Nat.reduceAdd, Nat.reduceLeDiff, Nat.reduceSub, Nat.reduceMul, Nat.reduceBEq] <;> (repeat ((with_reducible refine And.intro ?_ ?_); (focus (first | omega | rfl | assumption | exact ⟨_, rfl, rfl⟩ | (simp only [List.length_take, List.length_map, List.length_append, List.length_cons, List.length_nil]; omega) | (simp; done)))))
        · rw [hm (by omega)]
          exact ⟨⟨_, rfl⟩, rfl⟩
        have h1 := h
        refine split2 (fun hb => ?_) (fun hb => ?_) <;> have h := hb <;> simp only [decide_eq_true_eq, decide_eq_false_iff_not, Bool.not_eq_true, Bool.not_eq_false, Bool.not_eq_eq_eq_not, Bool.not_true, Bool.not_false, dec_eq_true, dec_eq_false, Classical.not_not] at h <;> simp -implicitDefEqProofs (disch := omega) only [go_sem, hb, hk, ↓reduceIte, Nat.reduceEqDiff, Nat.reduceAdd, Nat.reduceLeDiff, Nat.reduceSub, Nat.reduceMul, Nat.reduceBEq] <;> (repeat ((with_reducible refine And.intro ?_ ?_); (focus (first | omega | rfl | assumption | exact ⟨_, rfl, rfl⟩ | (simp only [List.length_take, List.length_map, List.length_append, List.length_cons, List.length_nil]; omega) | (simp; done)))))
        · rw [hm (fun x => h x.2.1)]
          exact ⟨⟨_, rfl⟩, rfl⟩
        have h2 := h
        refine split2 (fun hb => ?_) (fun hb => ?_) <;> have h := hb <;> simp only [decide_eq_true_eq, decide_eq_false_iff_not, Bool.not_eq_true, Bool.not_eq_false, Bool.not_eq_eq_eq_not, Bool.not_true, Bool.not_false, dec_eq_true, dec_eq_false, Classical.not_not] at h <;> simp -implicitDefEqProofs (disch := omega) only [go_sem, hb, hk, ↓reduceIte, Nat.reduceEqDiff, Nat.reduceAdd, Nat.reduceLeDiff, Nat.reduceSub, Nat.reduceMul, Nat.reduceBEq] <;> (repeat ((with_reducible refine And.intro ?_ ?_); (focus (first | omega | rfl | assumption | exact ⟨_, rfl, rfl⟩ | (simp only [List.length_take, List.length_map, List.length_append, List.length_cons, List.length_nil]; omega) | (simp; done)))))
        · rw [hm (by omega)]
          exact ⟨⟨_, rfl⟩, rfl⟩
        rw [hm2 ⟨by omega, h2, by omega⟩]
        refine call_d rfl (ihS p.fArgs (by omega) t.fArgs s (1 + l) j _ (by rw [getO_up1]; exact hk) (by omega) (by omega) (by omega) hs (by omega)) ?_
        cases hL : matchL s p.fArgs t.fArgs with
        | none =>
          simp -implicitDefEqProofs (disch := omega) only [go_sem, matR_none, matS_none, ↓reduceIte, Nat.reduceEqDiff, Nat.reduceAdd, Nat.reduceLeDiff, Nat.reduceSub, Nat.reduceMul, Nat.reduceBEq]
          exact ⟨⟨_, rfl⟩, setO_twice _ _⟩
        | some s1 =>
          simp -implicitDefEqProofs (disch := omega) only [go_sem, matR_some, matS_some, ↓reduceIte, Nat.reduceEqDiff, Nat.reduceAdd, Nat.reduceLeDiff, Nat.reduceSub, Nat.reduceMul, Nat.reduceBEq]
          exact ⟨rfl, rfl⟩
    · refine acall_cw (rs := [.tmp 6, .tmp 7]) Try.checked.mixed Try.func114 Try.ntmps114 rfl rfl rfl rfl rfl ?_
      simp -implicitDefEqProofs (disch := omega) only [go_sem, hk, ↓reduceIte, Nat.reduceEqDiff, Nat.reduceAdd, Nat.reduceLeDiff, Nat.reduceSub, Nat.reduceMul, Nat.reduceBEq]
      refine loop_at (ι := Nat × List MBinding) Try.checked.mixed rfl [0, 1, 2, 8] (fun y => [.c (.d (.sl (ps.map MType.enc))), .c (.d (.sl (ts.map MType.enc))), .c (.tsl (1 + l, j) (y.2.map MBinding.enc)), .c (.d (.i .i64 y.1))]) (fun y => [] :: setO S (l, j) (.tok 4 (y.2.map MBinding.enc)))
        (fun y => y.1 ≤ ps.length ∧ Small y.2 ∧ y.2.length + MType.cnts (ps.drop y.1) ≤ 1073741824 ∧ matchL y.2 (ps.drop y.1) (ts.drop y.1) = matchL s ps ts) (fun y => ps.length - y.1) (0, s) rfl (by rw [setO_self _ _ hk]) ⟨Nat.zero_le _, hs, hc, rfl⟩ ?_
      rintro ⟨i, cur⟩ ⟨p1, p2, p3, p4⟩
      simp only at p1 p2 p3 p4
      simp -implicitDefEqProofs (disch := omega) only [go_sem, ↓reduceIte, Nat.reduceEqDiff, Nat.reduceAdd, Nat.reduceLeDiff, Nat.reduceSub, Nat.reduceMul, Nat.reduceBEq]
      refine split2 (fun hb => ?_) (fun hb => ?_) <;> have h := hb <;> simp only [decide_eq_true_eq, decide_eq_false_iff_not, Bool.not_eq_true, Bool.not_eq_false, Bool.not_eq_eq_eq_not, Bool.not_true, Bool.not_false, dec_eq_true, dec_eq_false, Classical.not_not] at h <;> simp -implicitDefEqProofs (disch := omega) only [go_sem, hb, ↓reduceIte, Nat.reduceEqDiff, Nat.reduceAdd, Nat.reduceLeDiff, Nat.reduceSub, Nat.reduceMul, Nat.reduceBEq] <;> (repeat ((with_reducible refine And.intro ?_ ?_); (focus (first | omega | rfl | assumption | exact ⟨_, rfl, rfl⟩ | (simp only [List.length_take, List.length_map, List.length_append, List.length_cons, List.length_nil]; omega) | (simp; done)))))
      · have hi : i < ps.length := by omega
        have hi' : i < ts.length := by omega
        have hx : ps[i].sz ≤ szRows (ps.map MType.enc) := szRows_mem (List.mem_map_of_mem (List.getElem_mem hi))
        have hy : ts[i].sz ≤ szRows (ts.map MType.enc) := szRows_mem (List.mem_map_of_mem (List.getElem_mem hi'))
        rw [List.drop_eq_getElem_cons hi, MType.cnts] at p3
        have p5 := matchL_drop hi hi' _ p4
        (repeat ((with_reducible refine And.intro ?_ ?_); (focus (first | omega | rfl | assumption | exact ⟨_, rfl, rfl⟩ | (simp only [List.length_take, List.length_map, List.length_append, List.length_cons, List.length_nil]; omega) | (simp; done)))))
        refine call_d rfl (ih ps[i] (by have := List.sizeOf_lt_of_mem (List.getElem_mem hi); omega) ts[i] cur (1 + l) j _ (by rw [getO_up1]; exact getO_setO_eq _ _ _ _ hk) (by omega) (by omega) p2 (by omega)) ?_
        cases hm : matchT cur ps[i] ts[i] with
        | none =>
          rw [hm] at p5
          simp -implicitDefEqProofs (disch := omega) only [go_sem, matR_none, matS_none, setO_twice, ↓reduceIte, Nat.reduceEqDiff, Nat.reduceAdd, Nat.reduceLeDiff, Nat.reduceSub, Nat.reduceMul, Nat.reduceBEq]
          rw [← p5]
          exact ⟨⟨_, rfl⟩, setO_twice _ _⟩
        | some nx =>
          rw [hm] at p5
          have hlen := matchT_len _ _ _ _ hm
          simp -implicitDefEqProofs (disch := omega) only [go_sem, matR_some, matS_some, setO_twice, ↓reduceIte, Nat.reduceEqDiff, Nat.reduceAdd, Nat.reduceLeDiff, Nat.reduceSub, Nat.reduceMul, Nat.reduceBEq]
          exact inv_at (i + 1, nx) (by simp only; omega) rfl rfl ⟨by simp only; omega, matchT_small _ _ _ _ (by omega) p2 hm, by simp only; omega, p5⟩
      · have hi : i = ps.length := by omega
        have hi' : i = ts.length := by omega
        have hr : matchL s ps ts = some cur := by
          rw [← p4, List.drop_of_length_le (by omega), matchL]
        rw [hr]
        exact ⟨rfl, rfl⟩
theorem specMatchL_ok {ps ts : List MType} {s : List MBinding} {l j : Nat} {S : Store} (hk : getO S (l, j) = some (.tok 4 (s.map MBinding.enc))) (hl : ps.length = ts.length) (hp : ps.length + szRows (ps.map MType.enc) ≤ 4194304) (ht : ts.length + szRows (ts.map MType.enc) ≤ 4194304)
    (hs : Small s) (hc : s.length + MType.cnts ps ≤ 1073741824) : ACall Try.prog 114 [.c (.d (.sl (ps.map MType.enc))), .c (.d (.sl (ts.map MType.enc))), .c (.tsl (l, j) (s.map MBinding.enc))] S (fun r S' => r = matR (l, j) (matchL s ps ts) ∧ S' = matS (l, j) S (matchL s ps ts)) :=
  (specMatch_all _).2 ps (Nat.lt_succ_self _) ts s l j S hk hl hp ht hs hc
/-- What a match from nothing answers. -/
noncomputable def matO (o : Option (List MBinding)) : V :=
  match o with
  | some s => .tup [(false, [.d (.sl (s.map MBinding.enc))]), (false, [.d (.b true)])]
  | none => .tup [(false, [.any]), (false, [.d (.b false)])]
theorem matO_some {s : List MBinding} : matO (some s) = .tup [(false, [.d (.sl (s.map MBinding.enc))]), (false, [.d (.b true)])] := rfl
theorem matO_none : matO none = .tup [(false, [.any]), (false, [.d (.b false)])] := rfl
theorem specMatchL0 {ps ts : List MType} {S : Store} (hl : ps.length = ts.length) (hp : ps.length + szRows (ps.map MType.enc) ≤ 4194304) (ht : ts.length + szRows (ts.map MType.enc) ≤ 4194304) :
    ACall Try.prog 114 [.c (.d (.sl (ps.map MType.enc))), .c (.d (.sl (ts.map MType.enc))), .c (.fsl [])] S (fun r S' => r = matO (matchL [] ps ts) ∧ S' = S) := by
  have hc := cnts_le ps
  refine ACall.tok0 2 (es := []) (esz := 4) rfl (by simp) (specMatchL_ok (s := []) (l := 0) (j := 0) (S := [.tok 4 []] :: S) rfl hl hp ht small_nil (by simp; omega)) ?_
  rintro r fr S' ⟨h1, h2⟩
  cases hm : matchL [] ps ts with
  | none =>
    rw [hm] at h1 h2
    subst h1
    injection h2 with h2 h3
    exact ⟨_, rfl, rfl, h3⟩
  | some s =>
    rw [hm] at h1 h2
    subst h1
    injection h2 with h2 h3
    exact ⟨_, rfl, rfl, h3⟩

theorem specMatchAll_ok (ps ts : List MType) (hp : ps.length + szRows (ps.map MType.enc) ≤ 4194304) (ht : ts.length + szRows (ts.map MType.enc) ≤ 4194304) :
    PCall Try.prog 106 [.c (.d (.sl (ps.map MType.enc))), .c (.d (.sl (ts.map MType.enc)))] (matO (matchAll [] ps ts)) := fun S => by
  refine ACall.kill (0, 0) (post := fun r S' => (∃ r', Less r r' ∧ r' = matO (matchAll [] ps ts)) ∧ S' = S) ?_ fun r S' h => ⟨matO (matchAll [] ps ts), by obtain ⟨⟨r', h1, h2⟩, _⟩ := h; rw [← h2]; exact h1, .inl ⟨rfl, h.2⟩⟩
  refine acall_cw (rs := [.tmp 4, .tmp 5]) Try.checked.mixed Try.func106 Try.ntmps106 rfl rfl rfl rfl rfl ?_
  simp -implicitDefEqProofs (disch := omega) only [go_sem, ↓reduceIte, Nat.reduceEqDiff, Nat.reduceAdd, Nat.reduceLeDiff, Nat.reduceSub, Nat.reduceMul, Nat.reduceBEq]
  refine split2 (fun hb => ?_) (fun hb => ?_) <;> have h := hb <;> simp only [decide_eq_true_eq, decide_eq_false_iff_not, Bool.not_eq_true, Bool.not_eq_false, Bool.not_eq_eq_eq_not, Bool.not_true, Bool.not_false, dec_eq_true, dec_eq_false, Classical.not_not] at h <;> simp -implicitDefEqProofs (disch := omega) only [go_sem, hb, ↓reduceIte, Nat.reduceEqDiff, Nat.reduceAdd, Nat.reduceLeDiff, Nat.reduceSub, Nat.reduceMul, Nat.reduceBEq] <;> (repeat ((with_reducible refine And.intro ?_ ?_); (focus (first | omega | rfl | assumption | exact ⟨_, rfl, rfl⟩ | (simp only [List.length_take, List.length_map, List.length_append, List.length_cons, List.length_nil]; omega) | (simp; done)))))
  · have hm : matchAll [] ps ts = none := if_neg (by omega)
    rw [hm]
    exact ⟨_, less_first, rfl⟩
  · have hm : matchAll [] ps ts = matchL [] ps ts := if_pos (by omega)
    rw [hm]
    (repeat ((with_reducible refine And.intro ?_ ?_); (focus (first | omega | rfl | assumption | exact ⟨_, rfl, rfl⟩ | (simp only [List.length_take, List.length_map, List.length_append, List.length_cons, List.length_nil]; omega) | (simp; done)))))
    refine call_d rfl (specMatchL0 (by omega) hp ht) ?_
    cases matchL [] ps ts with
    | none =>
      simp -implicitDefEqProofs (disch := omega) only [go_sem, matO_none, ↓reduceIte, Nat.reduceEqDiff, Nat.reduceAdd, Nat.reduceLeDiff, Nat.reduceSub, Nat.reduceMul, Nat.reduceBEq]
      (repeat ((with_reducible refine And.intro ?_ ?_); (focus (first | omega | rfl | assumption | exact ⟨_, rfl, rfl⟩ | (simp only [List.length_take, List.length_map, List.length_append, List.length_cons, List.length_nil]; omega) | (simp; done)))))
      exact ⟨_, less_first, rfl⟩
    | some s =>
      simp -implicitDefEqProofs (disch := omega) only [go_sem, matO_some, ↓reduceIte, Nat.reduceEqDiff, Nat.reduceAdd, Nat.reduceLeDiff, Nat.reduceSub, Nat.reduceMul, Nat.reduceBEq]
      exact ⟨_, Less.refl _, rfl⟩

theorem specMatch_ok (p t : MType) (hp : p.sz ≤ 4194303) (ht : t.sz ≤ 4194303) : PCall Try.prog 84 [p.v, t.v] (matO (matchAll [] [p] [t])) := fun S => by
  refine acall_cw (rs := [.tmp 4, .tmp 5]) Try.checked.mixed Try.func84 Try.ntmps84 rfl rfl rfl rfl rfl ?_
  simp -implicitDefEqProofs (disch := omega) only [go_sem, ↓reduceIte, Nat.reduceEqDiff, Nat.reduceAdd, Nat.reduceLeDiff, Nat.reduceSub, Nat.reduceMul, Nat.reduceBEq]
  (repeat ((with_reducible refine And.intro ?_ ?_); (focus (first | omega | rfl | assumption | exact ⟨_, rfl, rfl⟩ | (simp only [List.length_take, List.length_map, List.length_append, List.length_cons, List.length_nil]; omega) | (simp; done)))))
  have e1 : ∀ x : MType, V.c (.d (.sl [x.enc])) = V.c (.d (.sl (List.map MType.enc [x]))) := fun x => rfl
  simp only [MType.enc_eq] at e1
  refine call_w (by simp only [List.map_cons, List.map_nil, V.bor, C.bor, e1]; exact specMatchAll_ok [p] [t] (by simp [szRows, MType.sz_def, szRow]; omega) (by simp [szRows, MType.sz_def, szRow]; omega)) ?_
  cases matchAll [] [p] [t] with
  | none => simp -implicitDefEqProofs (disch := omega) only [go_sem, matO_none, ↓reduceIte, Nat.reduceEqDiff, Nat.reduceAdd, Nat.reduceLeDiff, Nat.reduceSub, Nat.reduceMul, Nat.reduceBEq]
  | some s => simp -implicitDefEqProofs (disch := omega) only [go_sem, matO_some, ↓reduceIte, Nat.reduceEqDiff, Nat.reduceAdd, Nat.reduceLeDiff, Nat.reduceSub, Nat.reduceMul, Nat.reduceBEq]

theorem specMatches_ok (p t : MType) (hp : p.sz ≤ 4194303) (ht : t.sz ≤ 4194303) : PCall Try.prog 53 [p.v, t.v] (.c (.d (.b (mats p t)))) := fun S => by
  rw [show mats p t = (matchAll [] [p] [t]).isSome from rfl]
  refine acall_cw (rs := [.tmp 4]) Try.checked.mixed Try.func53 Try.ntmps53 rfl rfl rfl rfl rfl ?_
  simp -implicitDefEqProofs (disch := omega) only [go_sem, ↓reduceIte, Nat.reduceEqDiff, Nat.reduceAdd, Nat.reduceLeDiff, Nat.reduceSub, Nat.reduceMul, Nat.reduceBEq]
  refine call_w (specMatch_ok p t hp ht) ?_
  cases matchAll [] [p] [t] with
  | none => simp -implicitDefEqProofs (disch := omega) only [go_sem, matO_none, ↓reduceIte, Nat.reduceEqDiff, Nat.reduceAdd, Nat.reduceLeDiff, Nat.reduceSub, Nat.reduceMul, Nat.reduceBEq]
  | some s => simp -implicitDefEqProofs (disch := omega) only [go_sem, matO_some, ↓reduceIte, Nat.reduceEqDiff, Nat.reduceAdd, Nat.reduceLeDiff, Nat.reduceSub, Nat.reduceMul, Nat.reduceBEq]
end Go.Proofs.Ytfgadmhdfiljkaa
