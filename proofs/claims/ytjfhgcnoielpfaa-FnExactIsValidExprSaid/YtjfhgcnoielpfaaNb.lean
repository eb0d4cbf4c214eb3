/-
  CONTRACTS: a visiting function carried through a type; the variables of a type, the program's and the reference's; projections.
-/
import Derived.Test.YtjfhgcnoielpfaaNa
import Derived.Test.YtjfhgcnoielpfaaVb
set_option linter.unusedSimpArgs false
set_option linter.unusedVariables false
set_option maxRecDepth 4000
namespace Go.Proofs.Ytjfhgcnoielpfaa
open Go Go.Ab

theorem arg_szT {x : MType} {i : Nat} (hi : i < x.fArgs.length) (h : x.sz ≤ 4194304) : x.fArgs[i].sz ≤ 4194304 ∧ x.fArgs.length ≤ 4194304 ∧ x.fName.length ≤ 4194304 := by
  have hx : x.fArgs[i].sz ≤ szRows (x.fArgs.map MType.enc) := szRows_mem (List.mem_map_of_mem (List.getElem_mem hi))
  simp only [MType.sz, MType.enc_eq, szRow, D.sz, List.length_map] at h
  omega
theorem ty_szT {x : MType} (h : x.sz ≤ 4194304) : x.fArgs.length ≤ 4194304 ∧ x.fName.length ≤ 4194304 := by
  simp only [MType.sz, MType.enc_eq, szRow, D.sz, List.length_map] at h
  omega

theorem eachType_all : ∀ n : Nat, ∀ t : MType, SizeOf.sizeOf t < n → t.sz ≤ 4194304 → ∀ (g : Nat) (caps : List (Key × Nat)) (α : Type) (st : α → Store) (I : Nat → α → Prop) (f : α → MType → α) (hf : FStep Try.prog g caps st I f MType.v (fun u => u.sz ≤ 4194304)) (m : Nat) (a : α), I (m + t.cnt) a →
    I m ((nodesT t).foldl f a) ∧ ACall Try.prog 159 [t.v, .c (.fn g caps)] (st a) (fun r S' => r = .tup [] ∧ S' = st ((nodesT t).foldl f a))
  | 0 => fun t h => by omega
  | n + 1 => by
    have ih := eachType_all n
    intro t hn hsz g caps α st I f hf m a ha
    have lArgs := MType.lt_Args t
    have hts := ty_szT hsz
    rw [MType.cnt_eq, show m + (1 + MType.cnts t.fArgs) = (m + MType.cnts t.fArgs) + 1 by omega] at ha
    have h1 := hf _ a t ha hsz
    -- the arguments
    have hI : ∀ (ts : List MType), SizeOf.sizeOf ts < n → (∀ x ∈ ts, x.sz ≤ 4194304) → ∀ a, I (m + MType.cnts ts) a → I m ((nodesL ts).foldl f a) := by
      intro ts
      induction ts with
      | nil => intro _ _ a ha; exact ha
      | cons x xs ihx =>
        intro hs hz a ha
        simp only [List.cons.sizeOf_spec] at hs
        rw [nodesL, List.foldl_append]
        rw [MType.cnts, show m + (x.cnt + MType.cnts xs) = (m + MType.cnts xs) + x.cnt by omega] at ha
        exact ihx (by omega) (fun y hy => hz y (by simp [hy])) _ (ih x (by omega) (hz x (by simp)) g caps α st I f hf _ a ha).1
    have hall : ∀ x ∈ t.fArgs, x.sz ≤ 4194304 := fun x hx => by
      obtain ⟨i, hi, e⟩ := List.getElem_of_mem hx
      rw [← e]; exact (arg_szT hi hsz).1
    refine ⟨by rw [nodesT_eq, List.foldl_cons]; exact hI t.fArgs (by omega) hall _ h1.1, ?_⟩
    refine acall_cw (rs := []) Try.checked.mixed Try.func159 Try.ntmps159 rfl rfl rfl rfl rfl ?_
    simp -implicitDefEqProofs (disch := omega) only [go_sem, ↓reduceIte, Nat.reduceEqDiff, Nat.reduceAdd, Nat.reduceLeDiff, Nat.reduceSub, Nat.reduceMul, Nat.reduceBEq, Int.reduceEq, Int.reduceLT, Int.reduceLE, Int.reduceGT, Int.reduceGE, Int.reduceNeg, Int.reduceToNat]
    refine call_d rfl (h1.2 [_]) ?_
    simp -implicitDefEqProofs (disch := omega) only [go_sem, ↓reduceIte, Nat.reduceEqDiff, Nat.reduceAdd, Nat.reduceLeDiff, Nat.reduceSub, Nat.reduceMul, Nat.reduceBEq, Int.reduceEq, Int.reduceLT, Int.reduceLE, Int.reduceGT, Int.reduceGE, Int.reduceNeg, Int.reduceToNat]
    refine loop_at (ι := Nat × α) Try.checked.mixed rfl [1, 10, 11, 12] (fun y => [.c (.fn g (upCaps 1 caps)), .c (.d (.sl (t.fArgs.map MType.enc))), .c (.d (.i .i64 t.fArgs.length)), .c (.d (.i .i64 y.1))]) (fun y => [.box [.d (.i .i64 t.fKind), .d (.s t.fName), .d (.sl (t.fArgs.map MType.enc))]] :: st y.2)
      (fun y => y.1 ≤ t.fArgs.length ∧ I (m + MType.cnts (t.fArgs.drop y.1)) y.2 ∧ (nodesL (t.fArgs.drop y.1)).foldl f y.2 = (nodesT t).foldl f a) (fun y => t.fArgs.length - y.1) (0, f a t) rfl rfl ⟨Nat.zero_le _, h1.1, by rw [nodesT_eq, List.foldl_cons]; rfl⟩ ?_
    rintro ⟨i, b⟩ ⟨p1, p2, p3⟩
    simp only at p1 p2 p3
    simp -implicitDefEqProofs (disch := omega) only [go_sem, ↓reduceIte, Nat.reduceEqDiff, Nat.reduceAdd, Nat.reduceLeDiff, Nat.reduceSub, Nat.reduceMul, Nat.reduceBEq, Int.reduceEq, Int.reduceLT, Int.reduceLE, Int.reduceGT, Int.reduceGE, Int.reduceNeg, Int.reduceToNat]
    with_reducible refine split2 (fun hb => ?_) (fun hb => ?_) <;> have h := hb <;> (try simp only [decide_eq_true_eq, decide_eq_false_iff_not, Bool.not_eq_true, Bool.not_eq_false, Bool.not_eq_eq_eq_not, Bool.not_true, Bool.not_false, dec_eq_true, dec_eq_false, Classical.not_not] at h) <;> simp -implicitDefEqProofs (disch := omega) only [go_sem, hb, ↓reduceIte, Nat.reduceEqDiff, Nat.reduceAdd, Nat.reduceLeDiff, Nat.reduceSub, Nat.reduceMul, Nat.reduceBEq, Int.reduceEq, Int.reduceLT, Int.reduceLE, Int.reduceGT, Int.reduceGE, Int.reduceNeg, Int.reduceToNat] <;> (repeat ((with_reducible refine And.intro ?_ ?_); (focus (first | omega | rfl | assumption | exact ⟨_, rfl, rfl⟩ | (simp only [List.length_take, List.length_map, List.length_append, List.length_cons, List.length_nil]; omega) | (simp; done)))))
    · have hi : i < t.fArgs.length := by omega
      have hs := List.sizeOf_lt_of_mem (List.getElem_mem hi)
      rw [nodesL_drop hi, List.foldl_append] at p3
      rw [List.drop_eq_getElem_cons hi, MType.cnts, show m + (t.fArgs[i].cnt + MType.cnts (t.fArgs.drop (i + 1))) = (m + MType.cnts (t.fArgs.drop (i + 1))) + t.fArgs[i].cnt by omega] at p2
      have h2 := (ih t.fArgs[i] (by omega) (arg_szT hi hsz).1 g caps α st I f hf _ b p2).1
      (repeat ((with_reducible refine And.intro ?_ ?_); (focus (first | omega | rfl | assumption | exact ⟨_, rfl, rfl⟩ | (simp only [List.length_take, List.length_map, List.length_append, List.length_cons, List.length_nil]; omega) | (simp; done)))))
      refine call_d rfl (((ih t.fArgs[i] (by omega) (arg_szT hi hsz).1 g (upCaps 1 caps) α (fun a => [.box [.d (.i .i64 t.fKind), .d (.s t.fName), .d (.sl (t.fArgs.map MType.enc))], .box [.d (.i .i64 t.fArgs[i].fKind), .d (.s t.fArgs[i].fName), .d (.sl (t.fArgs[i].fArgs.map MType.enc))]] :: st a) I f (hf.push _) _ b p2)).2) ?_
      simp -implicitDefEqProofs (disch := omega) only [go_sem, ↓reduceIte, Nat.reduceEqDiff, Nat.reduceAdd, Nat.reduceLeDiff, Nat.reduceSub, Nat.reduceMul, Nat.reduceBEq, Int.reduceEq, Int.reduceLT, Int.reduceLE, Int.reduceGT, Int.reduceGE, Int.reduceNeg, Int.reduceToNat]
      exact inv_drop 1 (by decide) (i + 1, (nodesT t.fArgs[i]).foldl f b) (by simp only; omega) rfl rfl (by simp only [zipTm, tmRefs, List.all_cons, List.all_nil, V.refs, C.refs, refs_upCaps1, Bool.and_true]) rfl ⟨by simp only; omega, h2, p3⟩
    · have hi : i = t.fArgs.length := by omega
      rw [hi, List.drop_length, nodesL, List.foldl_nil] at p3
      rw [p3]
theorem eachType_ok {t : MType} (hsz : t.sz ≤ 4194304) {g : Nat} {caps : List (Key × Nat)} {α : Type} {st : α → Store} {I : Nat → α → Prop} {f : α → MType → α} (hf : FStep Try.prog g caps st I f MType.v (fun u => u.sz ≤ 4194304)) (m : Nat) (a : α) (ha : I (m + t.cnt) a) :
    I m ((nodesT t).foldl f a) ∧ ACall Try.prog 159 [t.v, .c (.fn g caps)] (st a) (fun r S' => r = .tup [] ∧ S' = st ((nodesT t).foldl f a)) := eachType_all _ t (Nat.lt_succ_self _) hsz g caps α st I f hf m a ha
theorem variablesOf1_step (rest : List Ab.Obj) (S : Store) : FStep Try.prog 172 [((0, 0), 0)] (fun out : List (List UInt8) => (.box [.tsl (0, 1) (out.map encS)] :: .tok 1 (out.map encS) :: rest) :: S) (fun n out => out.length + n ≤ 1073741824) addV MType.v (fun u => u.sz ≤ 4194304) := by
  intro n out u hI hu
  refine ⟨by have := addV_len out u; omega, fun F => ?_⟩
  have hts := ty_szT hu
  refine acall_cw (rs := []) Try.checked.mixed Try.func172 Try.ntmps172 rfl rfl rfl rfl rfl ?_
  simp -implicitDefEqProofs (disch := omega) only [go_sem, ↓reduceIte, Nat.reduceEqDiff, Nat.reduceAdd, Nat.reduceLeDiff, Nat.reduceSub, Nat.reduceMul, Nat.reduceBEq, Int.reduceEq, Int.reduceLT, Int.reduceLE, Int.reduceGT, Int.reduceGE, Int.reduceNeg, Int.reduceToNat]
  with_reducible refine split2 (fun hb => ?_) (fun hb => ?_) <;> have h := hb <;> (try simp only [decide_eq_true_eq, decide_eq_false_iff_not, Bool.not_eq_true, Bool.not_eq_false, Bool.not_eq_eq_eq_not, Bool.not_true, Bool.not_false, dec_eq_true, dec_eq_false, Classical.not_not] at h) <;> simp -implicitDefEqProofs (disch := omega) only [go_sem, hb, ↓reduceIte, Nat.reduceEqDiff, Nat.reduceAdd, Nat.reduceLeDiff, Nat.reduceSub, Nat.reduceMul, Nat.reduceBEq, Int.reduceEq, Int.reduceLT, Int.reduceLE, Int.reduceGT, Int.reduceGE, Int.reduceNeg, Int.reduceToNat] <;> (repeat ((with_reducible refine And.intro ?_ ?_); (focus (first | omega | rfl | assumption | exact ⟨_, rfl, rfl⟩ | (simp only [List.length_take, List.length_map, List.length_append, List.length_cons, List.length_nil]; omega) | (simp; done)))))
  · have h1 := h
    refine call_w (containsS_ok out u.fName (by omega)) ?_
    simp -implicitDefEqProofs (disch := omega) only [go_sem, ↓reduceIte, Nat.reduceEqDiff, Nat.reduceAdd, Nat.reduceLeDiff, Nat.reduceSub, Nat.reduceMul, Nat.reduceBEq, Int.reduceEq, Int.reduceLT, Int.reduceLE, Int.reduceGT, Int.reduceGE, Int.reduceNeg, Int.reduceToNat] <;> (repeat ((with_reducible refine And.intro ?_ ?_); (focus (first | omega | rfl | assumption | exact ⟨_, rfl, rfl⟩ | (simp only [List.length_take, List.length_map, List.length_append, List.length_cons, List.length_nil]; omega) | (simp; done)))))
    with_reducible refine split2 (fun hb => ?_) (fun hb => ?_) <;> have h := hb <;> (try simp only [decide_eq_true_eq, decide_eq_false_iff_not, Bool.not_eq_true, Bool.not_eq_false, Bool.not_eq_eq_eq_not, Bool.not_true, Bool.not_false, dec_eq_true, dec_eq_false, Classical.not_not] at h) <;> simp -implicitDefEqProofs (disch := omega) only [go_sem, hb, ↓reduceIte, Nat.reduceEqDiff, Nat.reduceAdd, Nat.reduceLeDiff, Nat.reduceSub, Nat.reduceMul, Nat.reduceBEq, Int.reduceEq, Int.reduceLT, Int.reduceLE, Int.reduceGT, Int.reduceGE, Int.reduceNeg, Int.reduceToNat] <;> (repeat ((with_reducible refine And.intro ?_ ?_); (focus (first | omega | rfl | assumption | exact ⟨_, rfl, rfl⟩ | (simp only [List.length_take, List.length_map, List.length_append, List.length_cons, List.length_nil]; omega) | (simp; done)))))
    · (repeat ((with_reducible refine And.intro ?_ ?_); (focus (first | omega | rfl | assumption | exact ⟨_, rfl, rfl⟩ | (simp only [List.length_take, List.length_map, List.length_append, List.length_cons, List.length_nil]; omega) | (simp; done)))))
      have ha : addV out u = out ++ [u.fName] := if_pos ⟨h1, h⟩
      rw [ha]; simp [encS]
    · have ha : addV out u = out := if_neg fun x => x.2 h
      rw [ha]
  · have ha : addV out u = out := if_neg fun x => h x.1
    rw [ha]
theorem variablesOf_ok (ts : List MType) (hl : ts.length ≤ 4194304) (hz : ∀ t ∈ ts, t.sz ≤ 4194304) (hc : MType.cnts ts ≤ 1073741823) : PCall Try.prog 158 [.c (.d (.sl (ts.map MType.enc)))] (.c (.d (.sl ((tvarsL [] ts).map encS)))) := fun S => by
  refine acall_cw (rs := [.tmp 2]) Try.checked.mixed Try.func158 Try.ntmps158 rfl rfl rfl rfl rfl ?_
  simp -implicitDefEqProofs (disch := omega) only [go_sem, ↓reduceIte, Nat.reduceEqDiff, Nat.reduceAdd, Nat.reduceLeDiff, Nat.reduceSub, Nat.reduceMul, Nat.reduceBEq, Int.reduceEq, Int.reduceLT, Int.reduceLE, Int.reduceGT, Int.reduceGE, Int.reduceNeg, Int.reduceToNat]
  (repeat ((with_reducible refine And.intro ?_ ?_); (focus (first | omega | rfl | assumption | exact ⟨_, rfl, rfl⟩ | (simp only [List.length_take, List.length_map, List.length_append, List.length_cons, List.length_nil]; omega) | (simp; done)))))
  refine aw_tokbox 0 0 1 [] [.fsl []] rfl rfl (by simp) ?_
  refine loop_at (ι := Nat × List (List UInt8)) Try.checked.mixed rfl [3, 7, 8, 9] (fun y => [.c (.ptr (0, 0) 0), .c (.d (.sl (ts.map MType.enc))), .c (.d (.i .i64 ts.length)), .c (.d (.i .i64 y.1))]) (fun y => [.box [.tsl (0, 1) (y.2.map encS)], .tok 1 (y.2.map encS)] :: S)
    (fun y => y.1 ≤ ts.length ∧ y.2.length + MType.cnts (ts.drop y.1) ≤ 1073741824 ∧ tvarsL y.2 (ts.drop y.1) = tvarsL [] ts) (fun y => ts.length - y.1) (0, []) rfl rfl ⟨Nat.zero_le _, by simp only [List.drop_zero, List.length_nil]; omega, rfl⟩ ?_
  rintro ⟨i, out⟩ ⟨p1, p2, p3⟩
  simp only at p1 p2 p3
  simp -implicitDefEqProofs (disch := omega) only [go_sem, ↓reduceIte, Nat.reduceEqDiff, Nat.reduceAdd, Nat.reduceLeDiff, Nat.reduceSub, Nat.reduceMul, Nat.reduceBEq, Int.reduceEq, Int.reduceLT, Int.reduceLE, Int.reduceGT, Int.reduceGE, Int.reduceNeg, Int.reduceToNat]
  with_reducible refine split2 (fun hb => ?_) (fun hb => ?_) <;> have h := hb <;> (try simp only [decide_eq_true_eq, decide_eq_false_iff_not, Bool.not_eq_true, Bool.not_eq_false, Bool.not_eq_eq_eq_not, Bool.not_true, Bool.not_false, dec_eq_true, dec_eq_false, Classical.not_not] at h) <;> simp -implicitDefEqProofs (disch := omega) only [go_sem, hb, ↓reduceIte, Nat.reduceEqDiff, Nat.reduceAdd, Nat.reduceLeDiff, Nat.reduceSub, Nat.reduceMul, Nat.reduceBEq, Int.reduceEq, Int.reduceLT, Int.reduceLE, Int.reduceGT, Int.reduceGE, Int.reduceNeg, Int.reduceToNat] <;> (repeat ((with_reducible refine And.intro ?_ ?_); (focus (first | omega | rfl | assumption | exact ⟨_, rfl, rfl⟩ | (simp only [List.length_take, List.length_map, List.length_append, List.length_cons, List.length_nil]; omega) | (simp; done)))))
  · have hi : i < ts.length := by omega
    rw [tvarsL_drop hi] at p3
    rw [List.drop_eq_getElem_cons hi, MType.cnts] at p2
    have hlen := tvars_len ts[i] out
    (repeat ((with_reducible refine And.intro ?_ ?_); (focus (first | omega | rfl | assumption | exact ⟨_, rfl, rfl⟩ | (simp only [List.length_take, List.length_map, List.length_append, List.length_cons, List.length_nil]; omega) | (simp; done)))))
    refine call_d rfl (eachType_ok (hz _ (List.getElem_mem hi)) (variablesOf1_step [Ab.Obj.box [.d (.i .i64 ts[i].fKind), .d (.s ts[i].fName), .d (.sl (ts[i].fArgs.map MType.enc))]] S) (MType.cnts (ts.drop (i + 1))) out (by omega)).2 ?_
    simp -implicitDefEqProofs (disch := omega) only [go_sem, ↓reduceIte, Nat.reduceEqDiff, Nat.reduceAdd, Nat.reduceLeDiff, Nat.reduceSub, Nat.reduceMul, Nat.reduceBEq, Int.reduceEq, Int.reduceLT, Int.reduceLE, Int.reduceGT, Int.reduceGE, Int.reduceNeg, Int.reduceToNat]
    exact inv_drop 2 (by decide) (i + 1, tvars out ts[i]) (by simp only; omega) rfl rfl rfl rfl ⟨by simp only; omega, by simp only; omega, p3⟩
  · have hi : i = ts.length := by omega
    rw [hi, List.drop_length] at p3
    rw [← p3]; rfl
theorem implTypeVars_ok (t : MType) (hsz : t.sz ≤ 4194304) : PCall Try.prog 130 [t.v] (.c (.d (.sl ((tvars [] t).map encS)))) := fun S => by
  have hc := cnt_le t
  have h0 := variablesOf_ok [t] (by simp) (by simpa using hsz) (by simp [MType.cnts]; omega)
  simp only [List.map_cons, List.map_nil, MType.enc_eq] at h0
  refine acall_cw (rs := [.tmp 2]) Try.checked.mixed Try.func130 Try.ntmps130 rfl rfl rfl rfl rfl ?_
  simp -implicitDefEqProofs (disch := omega) only [go_sem, ↓reduceIte, Nat.reduceEqDiff, Nat.reduceAdd, Nat.reduceLeDiff, Nat.reduceSub, Nat.reduceMul, Nat.reduceBEq, Int.reduceEq, Int.reduceLT, Int.reduceLE, Int.reduceGT, Int.reduceGE, Int.reduceNeg, Int.reduceToNat]
  (repeat ((with_reducible refine And.intro ?_ ?_); (focus (first | omega | rfl | assumption | exact ⟨_, rfl, rfl⟩ | (simp only [List.length_take, List.length_map, List.length_append, List.length_cons, List.length_nil]; omega) | (simp; done)))))
  refine call_w h0 ?_
  simp -implicitDefEqProofs (disch := omega) only [go_sem, ↓reduceIte, Nat.reduceEqDiff, Nat.reduceAdd, Nat.reduceLeDiff, Nat.reduceSub, Nat.reduceMul, Nat.reduceBEq, Int.reduceEq, Int.reduceLT, Int.reduceLE, Int.reduceGT, Int.reduceGE, Int.reduceNeg, Int.reduceToNat]
  rw [show tvarsL [] [t] = tvars [] t by simp [tvarsL, tvars, nodesL]]
theorem l4Vars_all : ∀ n : Nat, ∀ t : MType, SizeOf.sizeOf t < n → t.sz ≤ 4194304 → ∀ (out : List (List UInt8)) (l j : Nat) (S : Store), getO S (l, j) = some (.tok 1 (out.map encS)) → out.length + t.cnt ≤ 1073741824 →
    ACall Try.prog 152 [t.v, .c (.tsl (l, j) (out.map encS))] S (fun r S' => r = .c (.tsl (l, j) ((tvars out t).map encS)) ∧ S' = setO S (l, j) (.tok 1 ((tvars out t).map encS)))
  | 0 => fun t h => by omega
  | n + 1 => by
    have ih := l4Vars_all n
    intro t hn hsz out l j S hk hc
    have lArgs := MType.lt_Args t
    have hts := ty_szT hsz
    have hcn := MType.cnt_eq t
    -- the loop, from whatever list
    have hkS : ∀ x : Ab.Obj, getO (setO S (l, j) x) (l, j) = some x := fun x => getO_setO_eq _ _ _ _ hk
    have hS0 : setO S (l, j) (.tok 1 (out.map encS)) = S := setO_self _ _ hk
    have fin : tvars out t = tvarsL (addV out t) t.fArgs := tvars_eq out t
    have hal := addV_len out t
    have e0 : (out ++ [t.fName]).map encS = out.map encS ++ [[D.s t.fName]] := by simp [encS]
    refine acall_cw (rs := [.tmp 4]) Try.checked.mixed Try.func152 Try.ntmps152 rfl rfl rfl rfl rfl ?_
    simp -implicitDefEqProofs (disch := omega) only [go_sem, hk, ↓reduceIte, Nat.reduceEqDiff, Nat.reduceAdd, Nat.reduceLeDiff, Nat.reduceSub, Nat.reduceMul, Nat.reduceBEq, Int.reduceEq, Int.reduceLT, Int.reduceLE, Int.reduceGT, Int.reduceGE, Int.reduceNeg, Int.reduceToNat]
    repeat' (first
      | (with_reducible refine split2 (fun hb => ?_) (fun hb => ?_) <;> have h := hb <;> (try simp only [decide_eq_true_eq, decide_eq_false_iff_not, Bool.not_eq_true, Bool.not_eq_false, Bool.not_eq_eq_eq_not, Bool.not_true, Bool.not_false, dec_eq_true, dec_eq_false, Classical.not_not] at h) <;> simp -implicitDefEqProofs (disch := omega) only [go_sem, hb, hk, ↓reduceIte, Nat.reduceEqDiff, Nat.reduceAdd, Nat.reduceLeDiff, Nat.reduceSub, Nat.reduceMul, Nat.reduceBEq, Int.reduceEq, Int.reduceLT, Int.reduceLE, Int.reduceGT, Int.reduceGE, Int.reduceNeg, Int.reduceToNat] <;> (repeat ((with_reducible refine And.intro ?_ ?_); (focus (first | omega | rfl | assumption | exact ⟨_, rfl, rfl⟩ | (simp only [List.length_take, List.length_map, List.length_append, List.length_cons, List.length_nil]; omega) | (simp; done))))))
      | (refine call_w (l1Has_ok out t.fName (by omega)) ?_; simp -implicitDefEqProofs (disch := omega) only [go_sem, hk, ↓reduceIte, Nat.reduceEqDiff, Nat.reduceAdd, Nat.reduceLeDiff, Nat.reduceSub, Nat.reduceMul, Nat.reduceBEq, Int.reduceEq, Int.reduceLT, Int.reduceLE, Int.reduceGT, Int.reduceGE, Int.reduceNeg, Int.reduceToNat]; (repeat ((with_reducible refine And.intro ?_ ?_); (focus (first | omega | rfl | assumption | exact ⟨_, rfl, rfl⟩ | (simp only [List.length_take, List.length_map, List.length_append, List.length_cons, List.length_nil]; omega) | (simp; done)))))))
    all_goals first
      | (have ha : addV out t = out ++ [t.fName] := if_pos ⟨by assumption, by assumption⟩)
      | (have ha : addV out t = out := if_neg (fun x => by have := x.1; have := x.2; contradiction))
    all_goals
      refine loop_at (ι := Nat × List (List UInt8)) Try.checked.mixed rfl [1, 2, 5] (fun y => [.c (.tsl (1 + l, j) (y.2.map encS)), .c (.ptr (0, 0) 0), .c (.d (.i .i64 y.1))]) (fun y => [.box [.d (.i .i64 t.fKind), .d (.s t.fName), .d (.sl (t.fArgs.map MType.enc))]] :: setO S (l, j) (.tok 1 (y.2.map encS)))
        (fun y => y.1 ≤ t.fArgs.length ∧ y.2.length + MType.cnts (t.fArgs.drop y.1) ≤ 1073741824 ∧ tvarsL y.2 (t.fArgs.drop y.1) = tvars out t) (fun y => t.fArgs.length - y.1) (0, addV out t) (by first | (rw [ha, e0]; rfl) | (rw [ha]; rfl)) (by first | (simp only [ha, e0]; done) | (simp only [ha, hS0]; done)) ⟨Nat.zero_le _, by simp only [List.drop_zero]; omega, by rw [fin]; rfl⟩ ?_
      rintro ⟨i, b⟩ ⟨p1, p2, p3⟩
      simp only at p1 p2 p3
      simp -implicitDefEqProofs (disch := omega) only [go_sem, ↓reduceIte, Nat.reduceEqDiff, Nat.reduceAdd, Nat.reduceLeDiff, Nat.reduceSub, Nat.reduceMul, Nat.reduceBEq, Int.reduceEq, Int.reduceLT, Int.reduceLE, Int.reduceGT, Int.reduceGE, Int.reduceNeg, Int.reduceToNat]
      with_reducible refine split2 (fun hb => ?_) (fun hb => ?_) <;> have h := hb <;> (try simp only [decide_eq_true_eq, decide_eq_false_iff_not, Bool.not_eq_true, Bool.not_eq_false, Bool.not_eq_eq_eq_not, Bool.not_true, Bool.not_false, dec_eq_true, dec_eq_false, Classical.not_not] at h) <;> simp -implicitDefEqProofs (disch := omega) only [go_sem, hb, ↓reduceIte, Nat.reduceEqDiff, Nat.reduceAdd, Nat.reduceLeDiff, Nat.reduceSub, Nat.reduceMul, Nat.reduceBEq, Int.reduceEq, Int.reduceLT, Int.reduceLE, Int.reduceGT, Int.reduceGE, Int.reduceNeg, Int.reduceToNat] <;> (repeat ((with_reducible refine And.intro ?_ ?_); (focus (first | omega | rfl | assumption | exact ⟨_, rfl, rfl⟩ | (simp only [List.length_take, List.length_map, List.length_append, List.length_cons, List.length_nil]; omega) | (simp; done)))))
      · have hi : i < t.fArgs.length := by omega
        have hs := List.sizeOf_lt_of_mem (List.getElem_mem hi)
        rw [tvarsL_drop hi] at p3
        rw [List.drop_eq_getElem_cons hi, MType.cnts] at p2
        have hlen := tvars_len t.fArgs[i] b
        (repeat ((with_reducible refine And.intro ?_ ?_); (focus (first | omega | rfl | assumption | exact ⟨_, rfl, rfl⟩ | (simp only [List.length_take, List.length_map, List.length_append, List.length_cons, List.length_nil]; omega) | (simp; done)))))
        refine call_d rfl (ih t.fArgs[i] (by omega) (arg_szT hi hsz).1 b (1 + l) j _ (by rw [getO_up1]; exact hkS _) (by omega)) ?_
        simp -implicitDefEqProofs (disch := omega) only [go_sem, setO_twice, ↓reduceIte, Nat.reduceEqDiff, Nat.reduceAdd, Nat.reduceLeDiff, Nat.reduceSub, Nat.reduceMul, Nat.reduceBEq, Int.reduceEq, Int.reduceLT, Int.reduceLE, Int.reduceGT, Int.reduceGE, Int.reduceNeg, Int.reduceToNat]
        exact inv_at (i + 1, tvars b t.fArgs[i]) (by simp only; omega) rfl rfl ⟨by simp only; omega, by simp only; omega, p3⟩
      · have hi : i = t.fArgs.length := by omega
        rw [hi, List.drop_length] at p3
        rw [← p3]
        exact ⟨rfl, rfl⟩
theorem specTypeVars_ok (t : MType) (hsz : t.sz ≤ 4194304) : PCall Try.prog 124 [t.v] (.c (.d (.sl ((tvars [] t).map encS)))) := fun S => by
  have hc := cnt_le t
  have h0 : ∀ S, ACall Try.prog 152 [t.v, .c (.fsl [])] S (fun r S' => r = .c (.d (.sl ((tvars [] t).map encS))) ∧ S' = S) := fun S => by
    refine ACall.tok0 1 (es := []) (esz := 1) rfl (by simp) (l4Vars_all _ t (Nat.lt_succ_self _) hsz [] 0 0 ([.tok 1 []] :: S) rfl (by simp; omega)) ?_
    rintro r fr S' ⟨rfl, h2⟩
    injection h2 with h2 h3
    exact ⟨_, rfl, rfl, h3⟩
  refine acall_cw (rs := [.tmp 2]) Try.checked.mixed Try.func124 Try.ntmps124 rfl rfl rfl rfl rfl ?_
  simp -implicitDefEqProofs (disch := omega) only [go_sem, ↓reduceIte, Nat.reduceEqDiff, Nat.reduceAdd, Nat.reduceLeDiff, Nat.reduceSub, Nat.reduceMul, Nat.reduceBEq, Int.reduceEq, Int.reduceLT, Int.reduceLE, Int.reduceGT, Int.reduceGE, Int.reduceNeg, Int.reduceToNat]
  (repeat ((with_reducible refine And.intro ?_ ?_); (focus (first | omega | rfl | assumption | exact ⟨_, rfl, rfl⟩ | (simp only [List.length_take, List.length_map, List.length_append, List.length_cons, List.length_nil]; omega) | (simp; done)))))
  refine call_m [true, true] rfl (h0 _) ?_
  simp -implicitDefEqProofs (disch := omega) only [go_sem, ↓reduceIte, Nat.reduceEqDiff, Nat.reduceAdd, Nat.reduceLeDiff, Nat.reduceSub, Nat.reduceMul, Nat.reduceBEq, Int.reduceEq, Int.reduceLT, Int.reduceLE, Int.reduceGT, Int.reduceGE, Int.reduceNeg, Int.reduceToNat]
end Go.Proofs.Ytjfhgcnoielpfaa
