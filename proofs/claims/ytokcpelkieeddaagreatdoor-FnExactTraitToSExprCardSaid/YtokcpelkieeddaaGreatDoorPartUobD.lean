/-
  SEVERAL TEXTS IN ONE (merged by program): contracts and models, each with its own heading.
-/
import Derived.Test.YtokcpelkieeddaaGreatDoorPartUobC
import Derived.Lib.ItoaNum
set_option linter.unusedSimpArgs false
set_option linter.unusedVariables false
set_option maxRecDepth 4000
namespace Go.Ab
theorem strs_b {s : List UInt8} {xs : List (List UInt8)} (h : s ∈ xs) : s.length ≤ szRows (xs.map encS) := by
  have := szRows_mem (List.mem_map_of_mem (f := encS) h)
  simpa [encS, szRow, D.sz] using this
noncomputable def namesOk (xs : List (List UInt8)) : Bool := dec xs.Nodup && xs.all validName
noncomputable def among (xs ys : List (List UInt8)) : Bool := xs.all fun s => dec (s ∈ ys)
noncomputable def typeOver (vars : List (List UInt8)) (t : MType) : Bool := validType t && among (tvars [] t) vars
noncomputable def typesOver (vars : List (List UInt8)) (ts : List MType) : Bool := ts.all (typeOver vars)
theorem mem_addW {s l : List UInt8} {m : List (List UInt8)} : s ∈ addW l m ↔ s = l ∨ s ∈ m := by
  unfold addW
  split
  · rename_i h
    exact ⟨.inr, fun x => x.elim (fun e => e ▸ h) id⟩
  · rw [List.mem_append, List.mem_singleton]; exact Or.comm
theorem take_snoc {α : Type} {xs : List α} {i : Nat} (hi : i < xs.length) : xs.take (i + 1) = xs.take i ++ [xs[i]] := List.take_succ_eq_append_getElem hi
theorem nodup_snoc {α : Type} {xs : List α} {x : α} : (xs ++ [x]).Nodup ↔ xs.Nodup ∧ x ∉ xs := by
  rw [List.nodup_append]
  constructor
  · rintro ⟨h1, _, h3⟩
    exact ⟨h1, fun hx => h3 x hx x (by simp) rfl⟩
  · rintro ⟨h1, h2⟩
    exact ⟨h1, by simp, fun a ha b hb e => by simp at hb; subst hb; exact h2 (e ▸ ha)⟩
theorem not_nodup {α : Type} {xs : List α} {i : Nat} (hi : i < xs.length) (h : xs[i] ∈ xs.take i) : ¬ xs.Nodup := fun hn => by
  have h1 : (xs.take (i + 1)).Nodup := hn.sublist (List.take_sublist _ _)
  rw [take_snoc hi] at h1
  exact (nodup_snoc.1 h1).2 h
end Go.Ab
namespace Go.Proofs.YtokcpelkieeddaaGreatDoor
open Go Go.Ab
theorem implDistinct_ok (xs : List (List UInt8)) (hl : xs.length ≤ 1073741824) : PCall Tryz.prog 191 [.c (.d (.sl (xs.map encS)))] (.c (.d (.b (dec xs.Nodup)))) := fun S => by
  refine acall_cw (rs := [.tmp 2]) Tryz.checked.mixed Tryz.func191 Tryz.ntmps191 rfl rfl rfl rfl rfl ?_
  simp -implicitDefEqProofs (disch := omega) only [go_sem, encS]
  (repeat (with_reducible refine And.intro ?_ ?_; focus first | omega | rfl | assumption | exact ⟨_, rfl, rfl⟩ | (simp; omega) | (simp; done)))
  refine loop_at (ι := Nat × List (List UInt8)) Tryz.checked.mixed rfl [3, 7, 8, 9] (fun y => [.c (.mp (0, 0)), .c (.d (.sl (xs.map encS))), .c (.d (.i .i64 xs.length)), .c (.d (.i .i64 y.1))]) (fun y => [.mp y.2] :: S)
    (fun y => y.1 ≤ xs.length ∧ (∀ s, s ∈ y.2 ↔ s ∈ xs.take y.1) ∧ (xs.take y.1).Nodup) (fun y => xs.length - y.1) (0, []) rfl rfl ⟨Nat.zero_le _, fun s => by simp, by simp⟩ ?_
  rintro ⟨i, m⟩ ⟨p1, p2, p3⟩
  simp only at p1 p2 p3
  simp -implicitDefEqProofs (disch := omega) only [go_sem, encS]
  with_reducible refine split2 (fun hb => ?_) (fun hb => ?_) <;> have h := hb <;> (try simp only [wf_preprocess] at h) <;> simp -implicitDefEqProofs (disch := omega) only [go_sem, hb, encS] <;> (repeat (with_reducible refine And.intro ?_ ?_; focus first | omega | rfl | assumption | exact ⟨_, rfl, rfl⟩ | (simp; omega) | (simp; done)))
  · have hi : i < xs.length := by omega
    (repeat (with_reducible refine And.intro ?_ ?_; focus first | omega | rfl | assumption | exact ⟨_, rfl, rfl⟩ | (simp; omega) | (simp; done)))
    with_reducible refine split2 (fun hb => ?_) (fun hb => ?_) <;> have h := hb <;> (try simp only [wf_preprocess] at h) <;> simp -implicitDefEqProofs (disch := omega) only [go_sem, hb, encS] <;> (repeat (with_reducible refine And.intro ?_ ?_; focus first | omega | rfl | assumption | exact ⟨_, rfl, rfl⟩ | (simp; omega) | (simp; done)))
    · exact bool_eq (dec_false (not_nodup hi ((p2 _).1 h))).symm
    · refine inv_at (i + 1, addW xs[i] m) (by simp only; omega) rfl rfl ⟨by simp only; omega, fun s => ?_, ?_⟩
      · simp only
        rw [mem_addW, take_snoc hi, List.mem_append, List.mem_singleton, p2]
        exact Or.comm
      · simp only
        rw [take_snoc hi, nodup_snoc]
        exact ⟨p3, fun hx => h ((p2 _).2 hx)⟩
  · rw [List.take_of_length_le (by omega)] at p3
    exact bool_eq (dec_true p3).symm
theorem specDistinct_ok (xs : List (List UInt8)) (hl : xs.length ≤ 1073741824) : PCall Tryz.prog 207 [.c (.d (.sl (xs.map encS)))] (.c (.d (.b (dec xs.Nodup)))) := fun S => by
  refine acall_cw (rs := [.tmp 2]) Tryz.checked.mixed Tryz.func207 Tryz.ntmps207 rfl rfl rfl rfl rfl ?_
  simp -implicitDefEqProofs (disch := omega) only [go_sem, encS]
  refine loop_at (ι := Nat) Tryz.checked.mixed rfl [0, 3] (fun i => [.c (.d (.sl (xs.map encS))), .c (.d (.i .i64 i))]) (fun _ => [] :: S)
    (fun i => i ≤ xs.length ∧ (xs.take i).Nodup) (fun i => xs.length - i) 0 rfl rfl ⟨Nat.zero_le _, by simp⟩ ?_
  rintro i ⟨p1, p3⟩
  simp -implicitDefEqProofs (disch := omega) only [go_sem, encS]
  with_reducible refine split2 (fun hb => ?_) (fun hb => ?_) <;> have h := hb <;> (try simp only [wf_preprocess] at h) <;> simp -implicitDefEqProofs (disch := omega) only [go_sem, hb, encS] <;> (repeat (with_reducible refine And.intro ?_ ?_; focus first | omega | rfl | assumption | exact ⟨_, rfl, rfl⟩ | (simp; omega) | (simp; done)))
  · have hi : i < xs.length := by omega
    have hc : ∀ y ∈ xs.map encS, y.length = 1 := fun y hy => by
      obtain ⟨s, _, rfl⟩ := List.mem_map.1 hy
      rfl
    have e : (xs.map encS).take i = (xs.take i).map encS := List.map_take.symm
    refine And.intro ⟨by omega, by omega, hc⟩ ?_
    (repeat (with_reducible refine And.intro ?_ ?_; focus first | omega | rfl | assumption | exact ⟨_, rfl, rfl⟩ | (simp; omega) | (simp; done)))
    simp -implicitDefEqProofs (disch := omega) only [go_sem, Int.toNat_zero, e]
    refine call_w (l1Has_ok (xs.take i) xs[i] (by simp; omega)) ?_
    simp -implicitDefEqProofs (disch := omega) only [go_sem] <;> (repeat (with_reducible refine And.intro ?_ ?_; focus first | omega | rfl | assumption | exact ⟨_, rfl, rfl⟩ | (simp; omega) | (simp; done)))
    with_reducible refine split2 (fun hb => ?_) (fun hb => ?_) <;> have h := hb <;> (try simp only [wf_preprocess] at h) <;> simp -implicitDefEqProofs (disch := omega) only [go_sem, hb] <;> (repeat (with_reducible refine And.intro ?_ ?_; focus first | omega | rfl | assumption | exact ⟨_, rfl, rfl⟩ | (simp; omega) | (simp; done)))
    · exact bool_eq (dec_false (not_nodup hi h)).symm
    · refine inv_at (i + 1) (by omega) rfl rfl ⟨by omega, ?_⟩
      rw [take_snoc hi, nodup_snoc]
      exact ⟨p3, h⟩
  · rw [List.take_of_length_le (by omega)] at p3
    exact bool_eq (dec_true p3).symm
theorem l3Names_ok (xs : List (List UInt8)) (hl : xs.length ≤ 1073741824) (hs : ∀ s ∈ xs, s.length ≤ 4194304) : PCall Tryz.prog 240 [.c (.d (.sl (xs.map encS)))] (.c (.d (.b (xs.all validName)))) := fun S => by
  refine acall_cw (rs := [.tmp 2]) Tryz.checked.mixed Tryz.func240 Tryz.ntmps240 rfl rfl rfl rfl rfl ?_
  simp -implicitDefEqProofs (disch := omega) only [go_sem, encS]
  refine loop_at (ι := Nat) Tryz.checked.mixed rfl [0, 3] (fun i => [.c (.d (.sl (xs.map encS))), .c (.d (.i .i64 i))]) (fun _ => [] :: S)
    (fun i => i ≤ xs.length ∧ (xs.drop i).all validName = xs.all validName) (fun i => xs.length - i) 0 rfl rfl ⟨Nat.zero_le _, rfl⟩ ?_
  rintro i ⟨p1, p2⟩
  simp -implicitDefEqProofs (disch := omega) only [go_sem, encS]
  with_reducible refine split2 (fun hb => ?_) (fun hb => ?_) <;> have h := hb <;> (try simp only [wf_preprocess] at h) <;> simp -implicitDefEqProofs (disch := omega) only [go_sem, hb, encS] <;> (repeat (with_reducible refine And.intro ?_ ?_; focus first | omega | rfl | assumption | exact ⟨_, rfl, rfl⟩ | (simp; omega) | (simp; done)))
  · have hi : i < xs.length := by omega
    have hz := hs _ (List.getElem_mem hi)
    rw [List.drop_eq_getElem_cons hi, List.all_cons] at p2
    (repeat (with_reducible refine And.intro ?_ ?_; focus first | omega | rfl | assumption | exact ⟨_, rfl, rfl⟩ | (simp; omega) | (simp; done)))
    refine call_w (specValidName_ok xs[i] (by omega)) ?_
    simp -implicitDefEqProofs (disch := omega) only [go_sem] <;> (repeat (with_reducible refine And.intro ?_ ?_; focus first | omega | rfl | assumption | exact ⟨_, rfl, rfl⟩ | (simp; omega) | (simp; done)))
    with_reducible refine split2 (fun hb => ?_) (fun hb => ?_) <;> have h := hb <;> (try simp only [wf_preprocess] at h) <;> simp -implicitDefEqProofs (disch := omega) only [go_sem, hb] <;> (repeat (with_reducible refine And.intro ?_ ?_; focus first | omega | rfl | assumption | exact ⟨_, rfl, rfl⟩ | (simp; omega) | (simp; done)))
    · rw [← p2, h]; rfl
    · exact inv_at (i + 1) (by omega) rfl rfl ⟨by omega, by rw [← p2, h]; rfl⟩
  · rw [List.drop_of_length_le (by omega)] at p2
    rw [← p2]; rfl
theorem areNames_ok (xs : List (List UInt8)) (hl : xs.length ≤ 1073741824) (hs : ∀ s ∈ xs, s.length ≤ 4194304) : PCall Tryz.prog 177 [.c (.d (.sl (xs.map encS)))] (.c (.d (.b (namesOk xs)))) := fun S => by
  have hcl : ∀ s ∈ xs, PCall Tryz.prog 258 [.c (.d (.s s))] (.c (.d (.b (!validName s)))) := fun s hx S => by
    have := hs s hx
    refine acall_cw (rs := [.tmp 2]) Tryz.checked.mixed Tryz.func258 Tryz.ntmps258 rfl rfl rfl rfl rfl ?_
    simp -implicitDefEqProofs (disch := omega) only [go_sem]
    refine call_w (implValidName_ok s (by omega)) ?_
    simp -implicitDefEqProofs (disch := omega) only [go_sem] <;> (repeat (with_reducible refine And.intro ?_ ?_; focus first | omega | rfl | assumption | exact ⟨_, rfl, rfl⟩ | (simp; omega) | (simp; done)))
  have ha : (xs.any fun s => !validName s) = !xs.all validName := by rw [List.not_all_eq_any_not]
  refine acall_cw (rs := [.tmp 2]) Tryz.checked.mixed Tryz.func177 Tryz.ntmps177 rfl rfl rfl rfl rfl ?_
  simp -implicitDefEqProofs (disch := omega) only [go_sem]
  refine call_w (implDistinct_ok xs hl) ?_
  simp -implicitDefEqProofs (disch := omega) only [go_sem] <;> (repeat (with_reducible refine And.intro ?_ ?_; focus first | omega | rfl | assumption | exact ⟨_, rfl, rfl⟩ | (simp; omega) | (simp; done)))
  with_reducible refine split2 (fun hb => ?_) (fun hb => ?_) <;> have h := hb <;> (try simp only [wf_preprocess] at h) <;> simp -implicitDefEqProofs (disch := omega) only [go_sem, hb] <;> (repeat (with_reducible refine And.intro ?_ ?_; focus first | omega | rfl | assumption | exact ⟨_, rfl, rfl⟩ | (simp; omega) | (simp; done)))
  · refine call_d rfl (containsFuncstring_ok 258 [] _ xs (fun s => !validName s) hl fun s hx => FPure.of_pure (hcl s hx)) ?_
    simp -implicitDefEqProofs (disch := omega) only [go_sem]
    rw [ha]
    exact bool_eq (by unfold namesOk; rw [hb]; simp)
  · exact bool_eq (by unfold namesOk; rw [hb]; rfl)
theorem areAmong_ok (xs ys : List (List UInt8)) (hl : xs.length ≤ 1073741824) (hl' : ys.length ≤ 1073741824) : PCall Tryz.prog 200 [.c (.d (.sl (xs.map encS))), .c (.d (.sl (ys.map encS)))] (.c (.d (.b (among xs ys)))) := fun S => by
  have ha : (xs.any fun s => !dec (s ∈ ys)) = !among xs ys := by unfold among; rw [List.not_all_eq_any_not]
  have hcl : ∀ (rest : List Ab.Obj) (s : List UInt8), FPure Tryz.prog 272 [((0, 0), 0)] ((.box [.d (.sl (ys.map encS))] :: rest) :: S) [.c (.d (.s s))] (.c (.d (.b (!dec (s ∈ ys))))) := fun rest s F => by
    refine acall_cw (rs := [.tmp 3]) Tryz.checked.mixed Tryz.func272 Tryz.ntmps272 rfl rfl rfl rfl rfl ?_
    simp -implicitDefEqProofs (disch := omega) only [go_sem]
    refine call_w (containsS_ok ys s hl') ?_
    simp -implicitDefEqProofs (disch := omega) only [go_sem] <;> (repeat (with_reducible refine And.intro ?_ ?_; focus first | omega | rfl | assumption | exact ⟨_, rfl, rfl⟩ | (simp; omega) | (simp; done)))
  refine acall_cw (rs := [.tmp 4]) Tryz.checked.mixed Tryz.func200 Tryz.ntmps200 rfl rfl rfl rfl rfl ?_
  simp -implicitDefEqProofs (disch := omega) only [go_sem]
  refine call_d rfl (containsFuncstring_ok 272 [((0, 0), 0)] _ xs (fun s => !dec (s ∈ ys)) hl fun s hx => hcl [] s) ?_
  simp -implicitDefEqProofs (disch := omega) only [go_sem]
  rw [ha]
  exact bool_eq (by simp)
theorem isTypeOver_ok (t : MType) (vars : List (List UInt8)) (hsz : t.sz ≤ 4194304) (hv : vars.length ≤ 1073741824) : PCall Tryz.prog 181 [t.v, .c (.d (.sl (vars.map encS)))] (.c (.d (.b (typeOver vars t)))) := fun S => by
  have h1 := tvars_len t []
  have h2 := cnt_le t
  refine acall_cw (rs := [.tmp 4]) Tryz.checked.mixed Tryz.func181 Tryz.ntmps181 rfl rfl rfl rfl rfl ?_
  simp -implicitDefEqProofs (disch := omega) only [go_sem]
  refine call_w (implValidType_ok t hsz) ?_
  simp -implicitDefEqProofs (disch := omega) only [go_sem] <;> (repeat (with_reducible refine And.intro ?_ ?_; focus first | omega | rfl | assumption | exact ⟨_, rfl, rfl⟩ | (simp; omega) | (simp; done)))
  with_reducible refine split2 (fun hb => ?_) (fun hb => ?_) <;> have h := hb <;> (try simp only [wf_preprocess] at h) <;> simp -implicitDefEqProofs (disch := omega) only [go_sem, hb] <;> (repeat (with_reducible refine And.intro ?_ ?_; focus first | omega | rfl | assumption | exact ⟨_, rfl, rfl⟩ | (simp; omega) | (simp; done)))
  · refine call_w (implTypeVars_ok t hsz) ?_
    simp -implicitDefEqProofs (disch := omega) only [go_sem] <;> (repeat (with_reducible refine And.intro ?_ ?_; focus first | omega | rfl | assumption | exact ⟨_, rfl, rfl⟩ | (simp; omega) | (simp; done)))
    refine call_w (areAmong_ok (tvars [] t) vars (by simp at h1; omega) hv) ?_
    simp -implicitDefEqProofs (disch := omega) only [go_sem] <;> (repeat (with_reducible refine And.intro ?_ ?_; focus first | omega | rfl | assumption | exact ⟨_, rfl, rfl⟩ | (simp; omega) | (simp; done)))
    exact bool_eq (by unfold typeOver; rw [hb]; rfl)
  · exact bool_eq (by unfold typeOver; rw [hb]; rfl)
theorem areTypesOver_ok (ts : List MType) (vars : List (List UInt8)) (hl : ts.length ≤ 1073741824) (hsz : ∀ t ∈ ts, t.sz ≤ 4194304) (hv : vars.length ≤ 1073741824) : PCall Tryz.prog 179 [.c (.d (.sl (ts.map MType.enc))), .c (.d (.sl (vars.map encS)))] (.c (.d (.b (typesOver vars ts)))) := fun S => by
  have ha : (ts.any fun t => !typeOver vars t) = !typesOver vars ts := by unfold typesOver; rw [List.not_all_eq_any_not]
  have hcl : ∀ (rest : List Ab.Obj) (t : MType), t.sz ≤ 4194304 → FPure Tryz.prog 263 [((0, 0), 0)] ((.box [.d (.sl (vars.map encS))] :: rest) :: S) [t.v] (.c (.d (.b (!typeOver vars t)))) := fun rest t ht F => by
    refine acall_cw (rs := [.tmp 3]) Tryz.checked.mixed Tryz.func263 Tryz.ntmps263 rfl rfl rfl rfl rfl ?_
    simp -implicitDefEqProofs (disch := omega) only [go_sem]
    refine call_w (isTypeOver_ok t vars ht hv) ?_
    simp -implicitDefEqProofs (disch := omega) only [go_sem] <;> (repeat (with_reducible refine And.intro ?_ ?_; focus first | omega | rfl | assumption | exact ⟨_, rfl, rfl⟩ | (simp; omega) | (simp; done)))
  refine acall_cw (rs := [.tmp 4]) Tryz.checked.mixed Tryz.func179 Tryz.ntmps179 rfl rfl rfl rfl rfl ?_
  simp -implicitDefEqProofs (disch := omega) only [go_sem]
  refine call_d rfl (containsFuncType_ok 263 [((0, 0), 0)] _ ts (fun t => !typeOver vars t) hl fun t hx => hcl [] t (hsz t hx)) ?_
  simp -implicitDefEqProofs (disch := omega) only [go_sem]
  rw [ha]
  exact bool_eq (by simp)
theorem l13Words_ok (xs : List (List UInt8)) (most : Int) (hl : xs.length ≤ 1073741824) (hs : ∀ s ∈ xs, s.length ≤ 4194304) : PCall Tryz.prog 171 [.c (.d (.sl (xs.map encS))), .c (.d (.i .i64 most))] (.c (.d (.b (dec ((xs.length : Int) ≤ most) && namesOk xs)))) := fun S => by
  refine acall_cw (rs := [.tmp 4]) Tryz.checked.mixed Tryz.func171 Tryz.ntmps171 rfl rfl rfl rfl rfl ?_
  simp -implicitDefEqProofs (disch := omega) only [go_sem]
  with_reducible refine split2 (fun hb => ?_) (fun hb => ?_) <;> have h := hb <;> (try simp only [wf_preprocess] at h) <;> simp -implicitDefEqProofs (disch := omega) only [go_sem, hb] <;> (repeat (with_reducible refine And.intro ?_ ?_; focus first | omega | rfl | assumption | exact ⟨_, rfl, rfl⟩ | (simp; omega) | (simp; done)))
  · have h1 := h
    refine call_w (l3Names_ok xs hl hs) ?_
    simp -implicitDefEqProofs (disch := omega) only [go_sem] <;> (repeat (with_reducible refine And.intro ?_ ?_; focus first | omega | rfl | assumption | exact ⟨_, rfl, rfl⟩ | (simp; omega) | (simp; done)))
    with_reducible refine split2 (fun hb => ?_) (fun hb => ?_) <;> have h := hb <;> (try simp only [wf_preprocess] at h) <;> simp -implicitDefEqProofs (disch := omega) only [go_sem, hb] <;> (repeat (with_reducible refine And.intro ?_ ?_; focus first | omega | rfl | assumption | exact ⟨_, rfl, rfl⟩ | (simp; omega) | (simp; done)))
    · refine call_w (specDistinct_ok xs hl) ?_
      simp -implicitDefEqProofs (disch := omega) only [go_sem] <;> (repeat (with_reducible refine And.intro ?_ ?_; focus first | omega | rfl | assumption | exact ⟨_, rfl, rfl⟩ | (simp; omega) | (simp; done)))
      exact bool_eq (by rw [dec_true h1]; unfold namesOk; rw [hb]; simp)
    · exact bool_eq (by rw [dec_true h1]; unfold namesOk; rw [hb]; simp)
  · exact bool_eq (by rw [dec_false h]; rfl)
theorem l13Vars_ok (t : MType) (vars : List (List UInt8)) (hsz : t.sz ≤ 4194304) (hv : vars.length ≤ 1073741824) : PCall Tryz.prog 169 [t.v, .c (.d (.sl (vars.map encS)))] (.c (.d (.b (typeOver vars t)))) := fun S => by
  have h1 := tvars_len t []
  have h2 := cnt_le t
  have hlen : (tvars [] t).length ≤ 1073741824 := by simp at h1; omega
  refine acall_cw (rs := [.tmp 4]) Tryz.checked.mixed Tryz.func169 Tryz.ntmps169 rfl rfl rfl rfl rfl ?_
  simp -implicitDefEqProofs (disch := omega) only [go_sem]
  refine call_w (specTypeVars_ok t hsz) ?_
  simp -implicitDefEqProofs (disch := omega) only [go_sem] <;> (repeat (with_reducible refine And.intro ?_ ?_; focus first | omega | rfl | assumption | exact ⟨_, rfl, rfl⟩ | (simp; omega) | (simp; done)))
  generalize hxs : tvars [] t = xs at hlen
  refine loop_at (ι := Nat) Tryz.checked.mixed rfl [1, 2, 5, 6] (fun i => [.c (.d (.sl (vars.map encS))), .c (.ptr (0, 0) 0), .c (.d (.sl (xs.map encS))), .c (.d (.i .i64 i))]) (fun _ => [.box [.d (.i .i64 t.fKind), .d (.s t.fName), .d (.sl (t.fArgs.map MType.enc))]] :: S)
    (fun i => i ≤ xs.length ∧ among (xs.drop i) vars = among xs vars) (fun i => xs.length - i) 0 rfl rfl ⟨Nat.zero_le _, rfl⟩ ?_
  rintro i ⟨p1, p2⟩
  simp -implicitDefEqProofs (disch := omega) only [go_sem, encS]
  with_reducible refine split2 (fun hb => ?_) (fun hb => ?_) <;> have h := hb <;> (try simp only [wf_preprocess] at h) <;> simp -implicitDefEqProofs (disch := omega) only [go_sem, hb, encS] <;> (repeat (with_reducible refine And.intro ?_ ?_; focus first | omega | rfl | assumption | exact ⟨_, rfl, rfl⟩ | (simp; omega) | (simp; done)))
  · have hi : i < xs.length := by omega
    rw [List.drop_eq_getElem_cons hi] at p2
    have p3 : among xs vars = (dec (xs[i] ∈ vars) && among (xs.drop (i + 1)) vars) := p2.symm
    (repeat (with_reducible refine And.intro ?_ ?_; focus first | omega | rfl | assumption | exact ⟨_, rfl, rfl⟩ | (simp; omega) | (simp; done)))
    refine call_w (l1Has_ok vars xs[i] hv) ?_
    simp -implicitDefEqProofs (disch := omega) only [go_sem] <;> (repeat (with_reducible refine And.intro ?_ ?_; focus first | omega | rfl | assumption | exact ⟨_, rfl, rfl⟩ | (simp; omega) | (simp; done)))
    with_reducible refine split2 (fun hb => ?_) (fun hb => ?_) <;> have h := hb <;> (try simp only [wf_preprocess] at h) <;> simp -implicitDefEqProofs (disch := omega) only [go_sem, hb] <;> (repeat (with_reducible refine And.intro ?_ ?_; focus first | omega | rfl | assumption | exact ⟨_, rfl, rfl⟩ | (simp; omega) | (simp; done)))
    · exact bool_eq (by unfold typeOver; rw [hxs, p3, dec_false h]; simp)
    · exact inv_at (i + 1) (by omega) rfl rfl ⟨by omega, by rw [p3, dec_true h]; rfl⟩
  · rw [List.drop_of_length_le (by omega)] at p2
    have p3 : among xs vars = true := p2.symm
    (repeat (with_reducible refine And.intro ?_ ?_; focus first | omega | rfl | assumption | exact ⟨_, rfl, rfl⟩ | (simp; omega) | (simp; done)))
    refine call_w (specValidType_ok t hsz) ?_
    simp -implicitDefEqProofs (disch := omega) only [go_sem] <;> (repeat (with_reducible refine And.intro ?_ ?_; focus first | omega | rfl | assumption | exact ⟨_, rfl, rfl⟩ | (simp; omega) | (simp; done)))
    exact bool_eq (by unfold typeOver; rw [hxs, p3]; simp)
theorem l13All_ok (ts : List MType) (vars : List (List UInt8)) (hl : ts.length ≤ 1073741824) (hsz : ∀ t ∈ ts, t.sz ≤ 4194304) (hv : vars.length ≤ 1073741824) : PCall Tryz.prog 266 [.c (.d (.sl (ts.map MType.enc))), .c (.d (.sl (vars.map encS)))] (.c (.d (.b (typesOver vars ts)))) := fun S => by
  refine acall_cw (rs := [.tmp 4]) Tryz.checked.mixed Tryz.func266 Tryz.ntmps266 rfl rfl rfl rfl rfl ?_
  simp -implicitDefEqProofs (disch := omega) only [go_sem]
  refine loop_at (ι := Nat) Tryz.checked.mixed rfl [0, 1, 5] (fun i => [.c (.d (.sl (ts.map MType.enc))), .c (.d (.sl (vars.map encS))), .c (.d (.i .i64 i))]) (fun _ => [] :: S)
    (fun i => i ≤ ts.length ∧ typesOver vars (ts.drop i) = typesOver vars ts) (fun i => ts.length - i) 0 rfl rfl ⟨Nat.zero_le _, rfl⟩ ?_
  rintro i ⟨p1, p2⟩
  simp -implicitDefEqProofs (disch := omega) only [go_sem]
  with_reducible refine split2 (fun hb => ?_) (fun hb => ?_) <;> have h := hb <;> (try simp only [wf_preprocess] at h) <;> simp -implicitDefEqProofs (disch := omega) only [go_sem, hb] <;> (repeat (with_reducible refine And.intro ?_ ?_; focus first | omega | rfl | assumption | exact ⟨_, rfl, rfl⟩ | (simp; omega) | (simp; done)))
  · have hi : i < ts.length := by omega
    rw [List.drop_eq_getElem_cons hi] at p2
    have p3 : typesOver vars ts = (typeOver vars ts[i] && typesOver vars (ts.drop (i + 1))) := p2.symm
    (repeat (with_reducible refine And.intro ?_ ?_; focus first | omega | rfl | assumption | exact ⟨_, rfl, rfl⟩ | (simp; omega) | (simp; done)))
    refine call_w (l13Vars_ok ts[i] vars (hsz _ (List.getElem_mem hi)) hv) ?_
    simp -implicitDefEqProofs (disch := omega) only [go_sem] <;> (repeat (with_reducible refine And.intro ?_ ?_; focus first | omega | rfl | assumption | exact ⟨_, rfl, rfl⟩ | (simp; omega) | (simp; done)))
    with_reducible refine split2 (fun hb => ?_) (fun hb => ?_) <;> have h := hb <;> (try simp only [wf_preprocess] at h) <;> simp -implicitDefEqProofs (disch := omega) only [go_sem, hb] <;> (repeat (with_reducible refine And.intro ?_ ?_; focus first | omega | rfl | assumption | exact ⟨_, rfl, rfl⟩ | (simp; omega) | (simp; done)))
    · rw [p3, h]; rfl
    · exact inv_at (i + 1) (by omega) rfl rfl ⟨by omega, by rw [p3, h]; rfl⟩
  · rw [List.drop_of_length_le (by omega)] at p2
    rw [← p2]; rfl
end Go.Proofs.YtokcpelkieeddaaGreatDoor

namespace Go.Ab
def ops : List (List UInt8) := [[43], [45], [42], [60], [61]]
def zeroT (t : MType) : Prop := t.fKind = 0 ∧ t.fName = [] ∧ t.fArgs.length = 0
def fieldsP (e : MExpr) : Prop :=
  (1 ≤ e.fKind ∧ e.fKind ≤ 12) ∧
  (if e.fKind = 5 ∨ e.fKind = 11 then validName e.fTrait = true else e.fTrait = []) ∧
  (if e.fKind = 3 ∨ e.fKind = 4 ∨ e.fKind = 5 ∨ e.fKind = 6 ∨ e.fKind = 8 then validName e.fName = true else if e.fKind = 10 then e.fName ∈ ops else e.fName = []) ∧
  (if e.fKind = 1 then -999999 ≤ e.fN ∧ e.fN ≤ 999999 else if e.fKind = 2 then e.fN = 0 ∨ e.fN = 1 else e.fN = 0) ∧
  (if e.fKind = 12 then validType e.fType = true else zeroT e.fType) ∧
  (if e.fKind = 4 ∨ e.fKind = 6 then True else if e.fKind = 5 then 1 ≤ e.fArgs.length else if e.fKind = 7 ∨ e.fKind = 11 ∨ e.fKind = 12 then e.fArgs.length = 1 else if e.fKind = 8 ∨ e.fKind = 10 then e.fArgs.length = 2 else if e.fKind = 9 then e.fArgs.length = 3 else e.fArgs.length = 0) ∧
  (e.fKind = 7 ↔ 0 < e.fArms.length)
mutual
noncomputable def exprOk : MExpr → Bool
  | .mk k t n m ty a b => dec (fieldsP (.mk k t n m ty a b)) && (exprsOk a && armsOk b)
noncomputable def exprsOk : List MExpr → Bool
  | [] => true
  | x :: xs => exprOk x && exprsOk xs
noncomputable def armOk : MArm → Bool
  | .mk c v b => validName c && (namesOk v && exprOk b)
noncomputable def armsOk : List MArm → Bool
  | [] => true
  | x :: xs => armOk x && armsOk xs
end
theorem exprOk_eq (x : MExpr) : exprOk x = (dec (fieldsP x) && (exprsOk x.fArgs && armsOk x.fArms)) := by cases x; rw [exprOk]; rfl
theorem armOk_eq (x : MArm) : armOk x = (validName x.fConstructor && (namesOk x.fVars && exprOk x.fBody)) := by cases x; rw [armOk]; rfl
theorem exprsOk_drop {xs : List MExpr} {i : Nat} (hi : i < xs.length) : exprsOk (xs.drop i) = (exprOk xs[i] && exprsOk (xs.drop (i + 1))) := by rw [List.drop_eq_getElem_cons hi, exprsOk]
theorem armsOk_drop {xs : List MArm} {i : Nat} (hi : i < xs.length) : armsOk (xs.drop i) = (armOk xs[i] && armsOk (xs.drop (i + 1))) := by rw [List.drop_eq_getElem_cons hi, armsOk]
theorem exprsOk_any : ∀ {xs : List MExpr}, (xs.any fun t => !exprOk t) = !exprsOk xs
  | [] => rfl
  | t :: ts => by rw [List.any_cons, exprsOk_any (xs := ts), exprsOk]; simp
theorem armsOk_any : ∀ {xs : List MArm}, (xs.any fun t => !armOk t) = !armsOk xs
  | [] => rfl
  | t :: ts => by rw [List.any_cons, armsOk_any (xs := ts), armsOk]; simp
noncomputable def validExpr (e : MExpr) : Bool := dec (e.cnt ≤ 300) && exprOk e
def subE (l : Int) (c : Nat) : Int := if l < 0 then -1 else if c ≤ l then l - c else -1
theorem subE_add {l : Int} {a b : Nat} : subE (subE l a) b = subE l (a + b) := by unfold subE; split <;> split <;> (try split) <;> (try split) <;> omega
theorem subE_neg {l : Int} {a : Nat} (h : l < 0) : subE l a = -1 := if_pos h
theorem subE_zero {l : Int} (h : -1 ≤ l) : subE l 0 = l := by unfold subE; split <;> (try split) <;> omega
theorem subE_le {l : Int} {c : Nat} (h : 0 ≤ l) : -1 ≤ subE l c ∧ subE l c ≤ l := by unfold subE; split <;> (try split) <;> omega
theorem subE_pos {l : Int} {c : Nat} (h : 0 ≤ l) : decide (subE l c ≥ 0) = decide ((c : Int) ≤ l) := by unfold subE; rw [if_neg (by omega)]; split <;> simp <;> omega
theorem not_valid_nil : validName [] = false := dec_false fun h => by have := h.1.1; simp at this
theorem op_len {s : List UInt8} (h : s ∈ ops) : s.length = 1 := by simp [ops] at h; rcases h with h | h | h | h | h <;> rw [h] <;> rfl
theorem op_not_valid {s : List UInt8} (h : s ∈ ops) : validName s = false := dec_false fun x => by
  have h1 := x.2.2 0 (by have := x.1.1; omega)
  simp [ops] at h; rcases h with h | h | h | h | h <;> rw [h] at h1 <;> simp [lowerB, digitB] at h1
theorem zeroT_not_valid {t : MType} (h : zeroT t) : validType t = false := dec_false fun x => by
  have h1 := x.1
  rw [formed_eq, Bool.and_eq_true] at h1
  have h2 := of_dec h1.1
  rw [h.1] at h2
  omega
end Go.Ab
namespace Go.Ab
structure Hold (p : Prop) : Prop where
  out : p
theorem aw_canon {P : Program} {N : Nat} {c : Code} {Q : Exit → St → Prop} {tm : List (Nat × V)} {st st' : Store} (ts : List Nat) (vs : List V) (hv : ts.map (look tm) = vs) (hs : st = st')
    (h : AW P N c Q ⟨zipTm ts vs, st'⟩) : AW P N c Q ⟨tm, st⟩ := by
  subst hs
  refine aw_ghost h ?_
  rw [← hv]
  exact tm_ghost fun t => look_zip _ ts t
end Go.Ab

namespace Go.Ab
def wTrue : List UInt8 := [116, 114, 117, 101]
def wFalse : List UInt8 := [102, 97, 108, 115, 101]
def wCall : List UInt8 := [99, 97, 108, 108]
def wMethod : List UInt8 := [109, 101, 116, 104, 111, 100]
def wNew : List UInt8 := [110, 101, 119]
def wCase : List UInt8 := [99, 97, 115, 101]
def wLet : List UInt8 := [108, 101, 116]
def wIf : List UInt8 := [105, 102]
def wPack : List UInt8 := [112, 97, 99, 107]
def wThe : List UInt8 := [116, 104, 101]
def headE (k : Int) (tr nm : List UInt8) (ty : MType) : List MSExpr :=
  if k = 4 then wordsX [wCall, nm] else if k = 5 then wordsX [wMethod, tr, nm] else if k = 6 then wordsX [wNew, nm] else if k = 8 then wordsX [wLet, nm] else
  if k = 9 then wordsX [wIf] else if k = 10 then wordsX [nm] else if k = 11 then wordsX [wPack, tr] else if k = 12 then [atomX wThe, sxT ty] else wordsX [wCase]
mutual
def sxE : MExpr → MSExpr
  | .mk k tr nm n ty zs ms => if k = 1 then atomX (Lib.itoa n) else if k = 2 then atomX (if n = 1 then wTrue else wFalse) else if k = 3 then atomX nm else
    listX (headE k tr nm ty ++ sxEs zs ++ (if k = 4 ∨ k = 5 ∨ k = 6 ∨ k = 8 ∨ k = 9 ∨ k = 10 ∨ k = 11 ∨ k = 12 then [] else sxMs ms))
def sxEs : List MExpr → List MSExpr
  | [] => []
  | t :: ts => sxE t :: sxEs ts
def sxM : MArm → MSExpr
  | .mk c vs b => listX ([atomX c] ++ wordsX vs ++ [sxE b])
def sxMs : List MArm → List MSExpr
  | [] => []
  | t :: ts => sxM t :: sxMs ts
end
theorem sxEs_map : ∀ l, sxEs l = l.map sxE
  | [] => rfl
  | t :: ts => by rw [sxEs, List.map_cons, sxEs_map ts]
theorem sxMs_map : ∀ l, sxMs l = l.map sxM
  | [] => rfl
  | t :: ts => by rw [sxMs, List.map_cons, sxMs_map ts]
theorem sxE_eq (x : MExpr) : sxE x = if x.fKind = 1 then atomX (Lib.itoa x.fN) else if x.fKind = 2 then atomX (if x.fN = 1 then wTrue else wFalse) else if x.fKind = 3 then atomX x.fName else
    listX (headE x.fKind x.fTrait x.fName x.fType ++ x.fArgs.map sxE ++ (if x.fKind = 4 ∨ x.fKind = 5 ∨ x.fKind = 6 ∨ x.fKind = 8 ∨ x.fKind = 9 ∨ x.fKind = 10 ∨ x.fKind = 11 ∨ x.fKind = 12 then [] else x.fArms.map sxM)) := by
  cases x; rw [sxE, sxEs_map, sxMs_map]; rfl
theorem sxM_eq (x : MArm) : sxM x = listX ([atomX x.fConstructor] ++ wordsX x.fVars ++ [sxE x.fBody]) := by cases x; rw [sxM]; rfl
def szE : List MExpr → Nat
  | [] => 0
  | x :: xs => x.sz + szE xs
theorem szE_rows : ∀ l, szRows (l.map MExpr.enc) = szE l
  | [] => rfl
  | x :: xs => by rw [List.map_cons, szRows, szE, szE_rows xs]; rfl
def szM : List MArm → Nat
  | [] => 0
  | x :: xs => x.sz + szM xs
theorem szM_rows : ∀ l, szRows (l.map MArm.enc) = szM l
  | [] => rfl
  | x :: xs => by rw [List.map_cons, szRows, szM, szM_rows xs]; rfl
theorem ex_sz_eq (x : MExpr) : x.sz = x.fTrait.length + x.fName.length + x.fType.sz + (x.fArgs.length + szE x.fArgs) + (x.fArms.length + szM x.fArms) := by
  rw [← szE_rows, ← szM_rows]; simp only [MExpr.sz, MExpr.enc_eq, szRow, szRow_append, D.sz, List.length_map, MType.sz_def]; omega
theorem arm_sz_eq (x : MArm) : x.sz = x.fConstructor.length + (x.fVars.length + (x.fVars.map List.length).sum) + x.fBody.sz := by
  rw [← szRows_encS]; simp only [MArm.sz, MArm.enc_eq, szRow, szRow_append, D.sz, List.length_map, MExpr.sz_def]; omega
theorem dec_len : ∀ (k n : Nat), n < 10 ^ (k + 1) → (Lib.decDigits n).length ≤ k + 1
  | 0, n, h => by rw [Lib.decDigits, dif_pos (by simpa using h)]; simp
  | k + 1, n, h => by
    rw [Lib.decDigits]
    split
    · simp
    · rw [List.length_append]
      have := dec_len k (n / 10) (by rw [Nat.pow_succ] at h; omega)
      simp; omega
theorem itoa_len {n : Int} (h : -999999 ≤ n ∧ n ≤ 999999) : (Lib.itoa n).length ≤ 7 := by
  unfold Lib.itoa
  split
  · have := dec_len 5 n.natAbs (by omega)
    simp; omega
  · have := dec_len 5 n.toNat (by omega)
    omega
theorem headE_len (k : Int) (tr nm : List UInt8) (ty : MType) : (headE k tr nm ty).length ≤ 3 ∧ szX (headE k tr nm ty) ≤ 18 + tr.length + nm.length + 16 * ty.sz := by
  have h := sxT_le ty
  unfold headE
  repeat' (first | (split; · refine ⟨by simp [wordsX], ?_⟩; simp [szX, wordsX, sz_atom, wCall, wMethod, wNew, wLet, wIf, wPack, wThe, wCase]; omega) )
  refine ⟨by simp [wordsX], ?_⟩; simp [szX, wordsX, sz_atom, wCase]; omega
mutual
theorem sxE_le : ∀ x : MExpr, exprOk x = true → (sxE x).sz ≤ 24 + 32 * x.sz
  | .mk k tr nm n ty zs ms => fun hok => by
    rw [exprOk, Bool.and_eq_true, Bool.and_eq_true] at hok
    have hf := of_dec hok.1
    have h1 := sxEs_le zs hok.2.1
    have h2 := sxMs_le ms hok.2.2
    have h3 := headE_len k tr nm ty
    rw [ex_sz_eq]
    simp only [MExpr.fName, MExpr.fArgs, MExpr.fTrait, MExpr.fType, MExpr.fArms]
    rw [sxE]
    split
    · rename_i hk
      have h4 := hf.2.2.2.1
      simp only [MExpr.fKind, MExpr.fN, hk, if_true] at h4
      have := itoa_len h4
      rw [sz_atom]; omega
    · split
      · rw [sz_atom]; split <;> simp [wTrue, wFalse] <;> omega
      · split
        · rw [sz_atom]; omega
        · rw [sz_list, szX_append, szX_append, List.length_append, List.length_append, sxEs_map, List.length_map, ← sxEs_map]
          split
          · simp [szX]; omega
          · rw [sxMs_map, List.length_map, ← sxMs_map]; omega
theorem sxEs_le : ∀ xs : List MExpr, exprsOk xs = true → szX (sxEs xs) ≤ 24 * xs.length + 32 * szE xs
  | [], _ => by simp [sxEs, szX]
  | x :: xs, h => by
    rw [exprsOk, Bool.and_eq_true] at h
    have h1 := sxE_le x h.1
    have h2 := sxEs_le xs h.2
    rw [sxEs, szX, szE, List.length_cons]; omega
theorem sxM_le : ∀ x : MArm, armOk x = true → (sxM x).sz ≤ 26 + 32 * x.sz
  | .mk c vs b => fun hok => by
    rw [armOk, Bool.and_eq_true, Bool.and_eq_true] at hok
    have h1 := sxE_le b hok.2.2
    rw [arm_sz_eq]
    simp only [MArm.fConstructor, MArm.fVars, MArm.fBody]
    rw [sxM, sz_list, szX_append, szX_append, List.length_append, List.length_append, words_len, szX_words]
    simp [szX, sz_atom]; omega
theorem sxMs_le : ∀ xs : List MArm, armsOk xs = true → szX (sxMs xs) ≤ 26 * xs.length + 32 * szM xs
  | [], _ => by simp [sxMs, szX]
  | x :: xs, h => by
    rw [armsOk, Bool.and_eq_true] at h
    have h1 := sxM_le x h.1
    have h2 := sxMs_le xs h.2
    rw [sxMs, szX, szM, List.length_cons]; omega
end
end Go.Ab

namespace Go.Ab
def mgK (n : Nat) : Key → Key
  | (0, j) => (0, n + j)
  | (l + 1, j) => (l, j)
def C.mg (n : Nat) : C → C
  | .d x => .d x
  | .any => .any
  | .tsl k es => .tsl (mgK n k) es
  | .fsl es => .fsl es
  | .ptr k off => .ptr (mgK n k) off
  | .rptr cs => .rptr cs
  | .eptr k i off => .eptr (mgK n k) i off
  | .msl k => .msl (mgK n k)
  | .fn f caps => .fn f (caps.map fun x => (mgK n x.1, x.2))
  | .mp k => .mp (mgK n k)
  | .lfl m es => .lfl m es
  | .xp k r p => .xp (mgK n k) r p
  | .xq k r p z i off => .xq (mgK n k) r p z i off
def V.mg (n : Nat) : V → V
  | .c x => .c (x.mg n)
  | .agg cs => .agg (cs.map (C.mg n))
  | .tup xs => .tup (xs.map fun y => (y.1, y.2.map (C.mg n)))
  | .any => .any
def Obj.mg (n : Nat) : Obj → Obj
  | .box cs => .box (cs.map (C.mg n))
  | o => o
section
variable {P : Program} {w : World} {σ : Nat → Nat} {own own0 : List Obj} {Ω : Store} {bo bo0 : List Value} {bΩ : Hs}
theorem owns_mg {n : Nat} {o : Obj} {h : Value} {b : Nat} : owns (o.mg n) h b ↔ owns o h b := by
  cases o with
  | box cs =>
    cases h with
    | pointer a => cases a <;> exact Iff.rfl
    | _ => exact Iff.rfl
  | _ => exact Iff.rfl
theorem mg_at {k : Key} {o : Obj} (h : getO (own :: own0 :: Ω) k = some o) :
    getO ((own0 ++ own.map (Obj.mg own0.length)) :: Ω) (mgK own0.length k) = some (if k.1 = 0 then o.mg own0.length else o) := by
  obtain ⟨l, j⟩ := k
  cases l with
  | zero =>
    rw [getO_zero] at h
    show getO _ (0, own0.length + j) = _
    rw [getO_zero, List.getElem?_append_right (by omega), show own0.length + j - own0.length = j by omega, List.getElem?_map, h]
    rfl
  | succ l =>
    rw [getO_succ] at h
    show getO _ (l, j) = some o
    cases l with
    | zero =>
      rw [getO_zero] at h ⊢
      rw [List.getElem?_append_left (List.getElem?_eq_some_iff.1 h).1]
      exact h
    | succ l => rw [getO_succ] at h ⊢; exact h
theorem mg_hs (hl : bo0.length = own0.length) {k : Key} {h : Value} (e : getO (bo :: bo0 :: bΩ) k = some h) : getO ((bo0 ++ bo) :: bΩ) (mgK own0.length k) = some h := by
  obtain ⟨l, j⟩ := k
  cases l with
  | zero =>
    rw [getO_zero] at e
    show getO _ (0, own0.length + j) = _
    rw [getO_zero, List.getElem?_append_right (by omega), show own0.length + j - bo0.length = j by omega, e]
  | succ l =>
    rw [getO_succ] at e
    show getO _ (l, j) = some h
    cases l with
    | zero =>
      rw [getO_zero] at e ⊢
      rw [List.getElem?_append_left (List.getElem?_eq_some_iff.1 e).1]
      exact e
    | succ l => rw [getO_succ] at e ⊢; exact e
theorem mg_from (hl : bo0.length = own0.length) (hlo : bo.length = own.length) {k : Key} {o : Obj} (h : getO ((own0 ++ own.map (Obj.mg own0.length)) :: Ω) k = some o) :
    ∃ k0 o0, mgK own0.length k0 = k ∧ getO (own :: own0 :: Ω) k0 = some o0 ∧ o = (if k0.1 = 0 then o0.mg own0.length else o0) ∧ getO ((bo0 ++ bo) :: bΩ) k = getO (bo :: bo0 :: bΩ) k0 := by
  obtain ⟨l, j⟩ := k
  cases l with
  | zero =>
    rw [getO_zero] at h
    by_cases hj : j < own0.length
    · rw [List.getElem?_append_left hj] at h
      refine ⟨(1, j), o, rfl, by rw [getO_succ, getO_zero]; exact h, rfl, ?_⟩
      rw [getO_zero, getO_succ, getO_zero, List.getElem?_append_left (by omega)]
    · rw [List.getElem?_append_right (by omega), List.getElem?_map] at h
      cases hx : own[j - own0.length]? with
      | none => rw [hx] at h; cases h
      | some x =>
        rw [hx] at h; cases h
        refine ⟨(0, j - own0.length), x, ?_, by rw [getO_zero]; exact hx, rfl, ?_⟩
        · show (0, own0.length + (j - own0.length)) = (0, j)
          rw [show own0.length + (j - own0.length) = j by omega]
        · rw [getO_zero, getO_zero, List.getElem?_append_right (by omega), hl]
  | succ l =>
    rw [getO_succ] at h
    exact ⟨(l + 2, j), o, rfl, by rw [getO_succ, getO_succ]; exact h, rfl, by rw [getO_succ, getO_succ, getO_succ]⟩
theorem mg_kind {n : Nat} {k : Key} {o : Obj} : (∀ esz es, IsTok (if k.1 = 0 then o.mg n else o) esz es → IsTok o esz es) ∧ (∀ esz es, (if k.1 = 0 then o.mg n else o) = .mrow esz es → o = .mrow esz es) ∧
    (∀ m, (if k.1 = 0 then o.mg n else o) = .mp m → o = .mp m) ∧ (∀ cs, (if k.1 = 0 then o.mg n else o) = .box cs → ∃ cs', o = .box cs') ∧ (∀ rs, (if k.1 = 0 then o.mg n else o) = .xf rs → o = .xf rs) := by
  by_cases e : k.1 = 0
  · simp only [if_pos e]
    cases o <;> simp [Obj.mg, IsTok]
  · simp only [if_neg e]
    exact ⟨fun _ _ h => h, fun _ _ h => h, fun _ h => h, fun cs h => ⟨cs, h⟩, fun _ h => h⟩
theorem mg_C (hl : bo0.length = own0.length) {c : C} {v : Value} (h : RepC w σ (own :: own0 :: Ω) (bo :: bo0 :: bΩ) c v) :
    RepC w σ ((own0 ++ own.map (Obj.mg own0.length)) :: Ω) ((bo0 ++ bo) :: bΩ) (c.mg own0.length) v := by
  cases c with
  | d x => exact h
  | any => exact trivial
  | fsl es => exact h
  | rptr cs => exact h
  | lfl m es => exact h
  | xp k r p =>
    obtain ⟨o, ho, h2⟩ := h
    refine ⟨_, mg_at ho, fun rs e => ?_⟩
    obtain ⟨hh, q1, q2⟩ := h2 rs (mg_kind.2.2.2.2 _ e)
    exact ⟨hh, mg_hs hl q1, q2⟩
  | xq k r p z i off =>
    obtain ⟨o, ho, h2⟩ := h
    refine ⟨_, mg_at ho, fun rs e => ?_⟩
    obtain ⟨hh, b, a, n, cap, q1, q2⟩ := h2 rs (mg_kind.2.2.2.2 _ e)
    exact ⟨hh, b, a, n, cap, mg_hs hl q1, q2⟩
  | tsl k es =>
    obtain ⟨h1, o, ho, h2⟩ := h
    refine ⟨h1, _, mg_at ho, fun esz es' e => ?_⟩
    obtain ⟨q1, q2⟩ := h2 esz es' (mg_kind.1 _ _ e)
    exact ⟨q1, fun e' => mg_hs hl (q2 e')⟩
  | ptr k off =>
    obtain ⟨o, ho, h2⟩ := h
    refine ⟨_, mg_at ho, fun cs e => ?_⟩
    obtain ⟨cs', e'⟩ := mg_kind.2.2.2.1 _ e
    obtain ⟨b, q1, q2⟩ := h2 cs' e'
    exact ⟨b, mg_hs hl q1, q2⟩
  | eptr k i off =>
    obtain ⟨o, ho, h2⟩ := h
    refine ⟨_, mg_at ho, fun esz es e => ?_⟩
    obtain ⟨b, n, cap, q1, q2⟩ := h2 esz es (mg_kind.2.1 _ _ e)
    exact ⟨b, n, cap, mg_hs hl q1, q2⟩
  | msl k =>
    obtain ⟨o, ho, h2⟩ := h
    exact ⟨_, mg_at ho, fun esz es e => mg_hs hl (h2 esz es (mg_kind.2.1 _ _ e))⟩
  | mp k =>
    obtain ⟨o, ho, h2⟩ := h
    exact ⟨_, mg_at ho, fun m e => mg_hs hl (h2 m (mg_kind.2.2.1 _ e))⟩
  | fn f caps =>
    obtain ⟨vs, e, hsz, hc⟩ := h
    refine ⟨vs, e, by rw [hsz, List.length_map], fun j k off hj => ?_⟩
    rw [List.getElem?_map] at hj
    cases hx : caps[j]? with
    | none => rw [hx] at hj; cases hj
    | some y =>
      rw [hx] at hj
      injection hj with hj
      injection hj with e1 e2
      obtain ⟨u, q1, q2, o, q3, q4⟩ := hc j y.1 y.2 hx
      refine ⟨u, q1, q2, _, by rw [← e1]; exact mg_at q3, fun cs e => ?_⟩
      obtain ⟨cs', e'⟩ := mg_kind.2.2.2.1 _ e
      obtain ⟨b, q5, q6⟩ := q4 cs' e'
      exact ⟨b, by rw [← e1]; exact mg_hs hl q5, by rw [← e2]; exact q6⟩
theorem mg_Cs (hl : bo0.length = own0.length) {cs : List C} {vs : List Value} (h : RepCs w σ (own :: own0 :: Ω) (bo :: bo0 :: bΩ) cs vs) :
    RepCs w σ ((own0 ++ own.map (Obj.mg own0.length)) :: Ω) ((bo0 ++ bo) :: bΩ) (cs.map (C.mg own0.length)) vs := by
  refine ⟨by rw [List.length_map]; exact h.1, fun j x hj => ?_⟩
  rw [List.getElem?_map] at hj
  cases hx : cs[j]? with
  | none => rw [hx] at hj; cases hj
  | some y =>
    rw [hx] at hj; cases hj
    obtain ⟨v, h1, h2, h3⟩ := h.2 j y hx
    exact ⟨v, h1, mg_C hl h2, h3⟩
theorem mg_V (hl : bo0.length = own0.length) {x : V} {v : Value} (h : RepV w σ (own :: own0 :: Ω) (bo :: bo0 :: bΩ) x v) :
    RepV w σ ((own0 ++ own.map (Obj.mg own0.length)) :: Ω) ((bo0 ++ bo) :: bΩ) (x.mg own0.length) v := by
  cases x with
  | c x => exact ⟨mg_C hl h.1, h.2⟩
  | agg cs => obtain ⟨a, ha, hc⟩ := h; exact ⟨a, ha, mg_Cs hl hc⟩
  | any => exact trivial
  | tup xs =>
    obtain ⟨a, ha, hlen, hc⟩ := h
    refine ⟨a, ha, by rw [List.length_map]; exact hlen, fun j y hj => ?_⟩
    rw [List.getElem?_map] at hj
    cases hx : xs[j]? with
    | none => rw [hx] at hj; cases hj
    | some z =>
      rw [hx] at hj; cases hj
      obtain ⟨u, hu, hr⟩ := hc j z hx
      refine ⟨u, hu, ?_⟩
      obtain ⟨b, cs⟩ := z
      cases b with
      | true => obtain ⟨a', e, hcs⟩ := hr; exact ⟨a', e, mg_Cs hl hcs⟩
      | false => obtain ⟨x1, e, hx1, ho⟩ := hr; subst e; exact ⟨_, rfl, mg_C hl hx1, ho⟩
theorem mg_keep (hl : bo0.length = own0.length) : Keep (own0 :: Ω) (bo0 :: bΩ) ((own0 ++ own.map (Obj.mg own0.length)) :: Ω) ((bo0 ++ bo) :: bΩ) := by
  rintro ⟨l, j⟩ o h
  cases l with
  | zero =>
    rw [getO_zero] at h
    have hj := (List.getElem?_eq_some_iff.1 h).1
    refine ⟨o, by rw [getO_zero, List.getElem?_append_left hj]; exact h, ?_⟩
    rw [getO_zero, getO_zero, List.getElem?_append_left (by omega)]
    exact KeepO.refl _ _
  | succ l =>
    rw [getO_succ] at h
    exact ⟨o, by rw [getO_succ]; exact h, by rw [getO_succ, getO_succ]; exact KeepO.refl _ _⟩
theorem mg_S (hS : RepS w σ (own :: own0 :: Ω) (bo :: bo0 :: bΩ)) : RepS w σ ((own0 ++ own.map (Obj.mg own0.length)) :: Ω) ((bo0 ++ bo) :: bΩ) := by
  have hlo : bo.length = own.length := by
    obtain ⟨gr, h1, h2⟩ := hS.shape.2 0 own rfl
    simp at h1; rw [h1]; exact h2
  have hl : bo0.length = own0.length := by
    obtain ⟨gr, h1, h2⟩ := hS.shape.2 1 own0 rfl
    simp at h1; rw [h1]; exact h2
  have hn : Near w σ w σ := Near.refl _ _
  refine ⟨fun k o ho => ?_, fun k k' o o' h h' b e1 e2 e3 e4 e5 e6 => ?_, ⟨by have := hS.shape.1; simpa using this, fun l fr hfr => ?_⟩, hS.live, hS.glob⟩
  · obtain ⟨k0, o0, hk, ho0, rfl, hh⟩ := mg_from (bo := bo) (bΩ := bΩ) hl hlo ho
    obtain ⟨h, h1, h2⟩ := hS.obj k0 o0 ho0
    refine ⟨h, by rw [hh]; exact h1, ?_⟩
    obtain ⟨l0, j0⟩ := k0
    cases l0 with
    | zero =>
      subst hk
      have h2 : RepObj w σ (own :: own0 :: Ω) (bo :: bo0 :: bΩ) o0 h := h2
      show RepObj w σ ((own0 ++ own.map (Obj.mg own0.length)) :: Ω) ((bo0 ++ bo) :: bΩ) (o0.mg own0.length) h
      cases o0 with
      | box cs =>
        obtain ⟨b, c, t, e, q1, q2, q3⟩ := h2
        exact ⟨b, c, t, e, q1, q2, mg_Cs hl q3⟩
      | dead => exact trivial
      | tok esz es => exact h2
      | mrow esz es => exact h2
      | mp m => exact h2
      | ltok n esz es => exact h2
      | seed n => exact trivial
      | xf rs => exact h2
    | succ l0 =>
      have hk' : k = (l0, j0) := hk.symm
      subst hk'
      have h2 : RepObj w σ ((own0 :: Ω).drop l0) ((bo0 :: bΩ).drop l0) o0 h := h2
      exact h2.mono hn ((mg_keep hl).drop l0) fun _ _ => ⟨rfl, rfl⟩
  · obtain ⟨k0, o0, hk, ho0, ho, hh⟩ := mg_from (bo := bo) (bΩ := bΩ) hl hlo e1
    obtain ⟨k1, o1, hk1, ho1, ho', hh1⟩ := mg_from (bo := bo) (bΩ := bΩ) hl hlo e4
    rw [hh] at e2
    rw [hh1] at e5
    have b0 : owns o0 h b := by
      rw [ho] at e3
      split at e3
      · rw [owns_mg] at e3; exact e3
      · exact e3
    have b1 : owns o1 h' b := by
      rw [ho'] at e6
      split at e6
      · rw [owns_mg] at e6; exact e6
      · exact e6
    have := hS.apart k0 k1 o0 o1 h h' b ho0 e2 b0 ho1 e5 b1
    rw [← hk, ← hk1, this]
  · cases l with
    | zero =>
      simp at hfr
      exact ⟨_, rfl, by rw [← hfr]; simp [hl, hlo]⟩
    | succ l => exact hS.shape.2 (l + 2) fr (by simpa using hfr)
theorem mg_own (hS : RepS w σ (own :: own0 :: Ω) (bo :: bo0 :: bΩ)) {b : Nat} (h : Own ((own0 ++ own.map (Obj.mg own0.length)) :: Ω) ((bo0 ++ bo) :: bΩ) b) : Own (own :: own0 :: Ω) (bo :: bo0 :: bΩ) b := by
  have hlo : bo.length = own.length := by
    obtain ⟨gr, h1, h2⟩ := hS.shape.2 0 own rfl
    simp at h1; rw [h1]; exact h2
  have hl : bo0.length = own0.length := by
    obtain ⟨gr, h1, h2⟩ := hS.shape.2 1 own0 rfl
    simp at h1; rw [h1]; exact h2
  obtain ⟨k, o, hv, e1, e2, e3⟩ := h
  obtain ⟨k0, o0, hk, ho0, ho, hh⟩ := mg_from (bo := bo) (bΩ := bΩ) hl hlo e1
  rw [hh] at e2
  refine ⟨k0, o0, hv, ho0, e2, ?_⟩
  rw [ho] at e3
  split at e3
  · rw [owns_mg] at e3; exact e3
  · exact e3
end
def escQ (P : Program) (rs : List ResultVar) (post : V → Store → Prop) (e : Exit) (s : St) : Prop :=
  match e with
  | .normal | .ret => (resV P rs s).1 ∧ match s.st with
    | own :: own0 :: Ω => post ((resV P rs s).2.mg own0.length) ((own0 ++ own.map (Obj.mg own0.length)) :: Ω)
    | _ => False
  | _ => False
section
variable {P : Program} {N : Nat} {s : St}
theorem acall_esc {f : FuncId} {fn : Func} {c : Code} {args : List V} {own0 : List Obj} {Ω : Store} {post : V → Store → Prop} (hf : P.funcs[f]? = some fn) (hb : fn.body = some c) (hn : (fn.name == "runtime.NumGoroutine") = false)
    (hl : args.length ≤ fn.ntmps) (h : AW P fn.ntmps c (escQ P fn.results.toList post) ⟨argTm (args.map (V.up 1)) 0, [] :: own0 :: Ω⟩) : ACall P f args (own0 :: Ω) post := by
  refine ⟨⟨fn, hf, hn, by simp [hb]⟩, fun w σ β vs hS hargs => ?_⟩
  refine calls_of_wp hf hb ?_
  have hlen : vs.length = args.length := hargs.1.symm
  have hRep : Rep fn.ntmps ⟨argTm (args.map (V.up 1)) 0, [] :: own0 :: Ω⟩ { tmps := vs.toArray ++ Array.replicate (fn.ntmps - vs.toArray.size) undef, defers := [] } w σ ([] :: β) := by
    refine ⟨by simp; omega, rfl, hS.up1, fun t => ?_⟩
    show RepV w σ ([] :: own0 :: Ω) ([] :: β) (look (argTm (args.map (V.up 1)) 0) t) _
    rw [look_argTm, if_pos (Nat.zero_le _), Nat.sub_zero, List.getElem?_map]
    cases ha : args[t]? with
    | none => exact trivial
    | some x =>
      obtain ⟨v, hv, hr⟩ := hargs.2 t x ha
      have ht := (List.getElem?_eq_some_iff.1 hv).1
      have : (vs.toArray ++ Array.replicate (fn.ntmps - vs.toArray.size) undef).getD t undef = v := by
        rw [Array.getD_eq_getD_getElem?, Array.getElem?_append_left (by simpa using ht)]
        simp [hv]
      rw [this]
      exact rep_upV (S := [] :: own0 :: Ω) (β := [] :: β) 1 hr
  refine wp_mono (h _ w σ ([] :: β) hRep) ?_
  rintro e a' w' ⟨s', σ', β', hR, hst, hkp, hq⟩
  have main : ((resV P fn.results.toList s').1 ∧ match s'.st with
    | own :: own0 :: Ω => post ((resV P fn.results.toList s').2.mg own0.length) ((own0 ++ own.map (Obj.mg own0.length)) :: Ω)
    | _ => False) →
      a'.defers = [] ∧ ∃ v, (results fn a'.tmps).run P w' = .ok v w' ∧ ∃ v_1 r S' σ' β', Ending.returned v = Ending.returned v_1 ∧ RepS w' σ' S' β' ∧ Keep (own0 :: Ω) β S' β' ∧ Step (own0 :: Ω) β σ w S' β' σ' w' ∧ RepV w' σ' S' β' r v_1 ∧ post r S' := by
    rintro ⟨q1, q2⟩
    obtain ⟨v, hv, hrep⟩ := res_sound (fn := fn) hR q1
    obtain ⟨tm, st⟩ := s'
    simp only at q2
    split at q2
    · rename_i own own1 Ω1
      obtain ⟨bo, bΩ', rfl, hlo⟩ := frames hR
      cases bΩ' with
      | nil => have := hR.S.shape.1; simp at this
      | cons bo1 bΩ1 =>
        have hl1 : bo1.length = own1.length := by
          obtain ⟨gr, h1, h2⟩ := hR.S.shape.2 1 own1 rfl
          simp at h1; rw [h1]; exact h2
        have hkp' : Keep (own0 :: Ω) β (own1 :: Ω1) (bo1 :: bΩ1) := hkp
        have hst' : Step ([] :: own0 :: Ω) ([] :: β) σ w (own :: own1 :: Ω1) (bo :: bo1 :: bΩ1) σ' w' := hst
        exact ⟨hR.defers, v, hv, v, _, _, σ', _, rfl, mg_S hR.S, hkp'.trans (mg_keep hl1), ⟨hst'.size, hst'.os, hst'.output, fun b hb ho => hst'.far b hb (fun x => ho (own_up1 x)), hst'.near, fun b hb => (hst'.own b (mg_own hR.S hb)).imp own_up1 id⟩, mg_V hl1 hrep, q2⟩
    · exact q2.elim
  cases e with
  | normal => exact main hq
  | ret => exact main hq
  | _ => exact hq.elim
def escS (P : Program) (rs : List ResultVar) (post : V → Store → Prop) (s : St) (r : R) : Prop := r.1 ∧ match s.st with
  | own :: own0 :: Ω => post (r.2.mg own0.length) ((own0 ++ own.map (Obj.mg own0.length)) :: Ω)
  | _ => False
@[congr] theorem escS_congr {rs : List ResultVar} {post : V → Store → Prop} {s s' : St} {r r' : R} (h1 : s = s') (h2 : r = r') : escS P rs post s r = escS P rs post s' r' := by rw [h1, h2]
theorem escQ_ret {rs : List ResultVar} {post : V → Store → Prop} {tm : List (Nat × V)} {S : Store} : escQ P rs post .ret ⟨tm, S⟩ = escS P rs post ⟨tm, S⟩ (resV P rs ⟨tm, S⟩) := rfl
theorem escQ_normal {rs : List ResultVar} {post : V → Store → Prop} {tm : List (Nat × V)} {S : Store} : escQ P rs post .normal ⟨tm, S⟩ = escS P rs post ⟨tm, S⟩ (resV P rs ⟨tm, S⟩) := rfl
theorem escS_mk {rs : List ResultVar} {post : V → Store → Prop} {tm : List (Nat × V)} {own own0 : List Obj} {Ω : Store} {p : Prop} {v : V} :
    escS P rs post ⟨tm, own :: own0 :: Ω⟩ (p, v) = (p ∧ post (v.mg own0.length) ((own0 ++ own.map (Obj.mg own0.length)) :: Ω)) := rfl
theorem acall_cwe {f : FuncId} {fn : Func} {c : Code} {args : List V} {own0 : List Obj} {Ω : Store} {post : V → Store → Prop} {rs : List ResultVar} (hmix : P.follows .mixedOrders = true) (hf : P.funcs[f]? = some fn) (hN : fn.ntmps = N)
    (hb : fn.body = some c) (hn : (fn.name == "runtime.NumGoroutine") = false) (hr : fn.results.toList = rs) (hl : Nat.ble args.length N = true) (hok : codeOk N c = true)
    (h : CW P N c (escQ P rs post) ⟨argTm (args.map (V.up 1)) 0, [] :: own0 :: Ω⟩) : ACall P f args (own0 :: Ω) post := by
  subst hN
  subst hr
  exact acall_esc hf hb hn (Nat.le_of_ble_eq_true hl) (cw_sound hmix c _ _ hok h)
theorem mgK_0 {n j : Nat} : mgK n (0, j) = (0, n + j) := rfl
theorem mgK_1 {n l j : Nat} : mgK n (1 + l, j) = (l, j) := by rw [Nat.add_comm]; rfl
end
attribute [go_sem ↓] escQ_ret escQ_normal
attribute [go_sem] escS_mk V.mg C.mg Obj.mg mgK_0 mgK_1
end Go.Ab

namespace Go.Ab
mutual
def cntD : D → Nat
  | .sl es => cntRs es + 1
  | .ol _ _ => 0
  | .b _ => 0
  | .i _ _ => 0
  | .s _ => 0
  | .o _ => 0
def cntR : List D → Nat
  | [] => 0
  | d :: ds => cntD d + cntR ds
def cntRs : List (List D) → Nat
  | [] => 0
  | r :: rs => cntR r + cntRs rs
end
mutual
def labD : D → Nat → D
  | .sl es, n => .ol n (labRs es (n + 1))
  | .ol m es, _ => .ol m es
  | .b x, _ => .b x
  | .i k x, _ => .i k x
  | .s l, _ => .s l
  | .o v, _ => .o v
def labR : List D → Nat → List D
  | [], _ => []
  | d :: ds, n => labD d n :: labR ds (n + cntD d)
def labRs : List (List D) → Nat → List (List D)
  | [], _ => []
  | r :: rs, n => labR r n :: labRs rs (n + cntR r)
end
mutual
def plD : D → Bool
  | .sl es => plRs es
  | .ol _ _ => false
  | .b _ => true
  | .i _ _ => true
  | .s _ => true
  | .o _ => false
def plR : List D → Bool
  | [] => true
  | d :: ds => plD d && plR ds
def plRs : List (List D) → Bool
  | [] => true
  | r :: rs => plR r && plRs rs
end
theorem labRs_append : ∀ a b n, labRs (a ++ b) n = labRs a n ++ labRs b (n + cntRs a)
  | [], b, n => by simp [labRs, cntRs]
  | d :: ds, b, n => by rw [List.cons_append, labRs, labRs, labRs_append ds b, cntRs, Nat.add_assoc]; rfl
theorem labR_length : ∀ r n, (labR r n).length = r.length
  | [], _ => rfl
  | d :: ds, n => by rw [labR, List.length_cons, labR_length ds, List.length_cons]
theorem labRs_length : ∀ rs n, (labRs rs n).length = rs.length
  | [], _ => rfl
  | r :: rs, n => by rw [labRs, List.length_cons, labRs_length rs, List.length_cons]
theorem labRs_rows {z : Nat} : ∀ {rs : List (List D)} {n : Nat}, (∀ r ∈ rs, r.length = z) → ∀ r ∈ labRs rs n, r.length = z
  | [], _, _, r, h => by rw [labRs] at h; cases h
  | a :: rs, n, ha, r, h => by
    rw [labRs] at h
    rcases List.mem_cons.1 h with e | h
    · rw [e, labR_length]; exact ha a (by simp)
    · exact labRs_rows (fun r hr => ha r (by simp [hr])) r h
theorem plR_append : ∀ a b, plR (a ++ b) = (plR a && plR b)
  | [], b => by simp [plR]
  | d :: ds, b => by rw [List.cons_append, plR, plR, plR_append ds b, Bool.and_assoc]
theorem plRs_map {α : Type} {f : α → List D} : ∀ {xs : List α}, (∀ x ∈ xs, plR (f x) = true) → plRs (xs.map f) = true
  | [], _ => rfl
  | x :: xs, h => by
    rw [List.map_cons, plRs, h x (by simp), plRs_map fun y hy => h y (by simp [hy])]; rfl
section
variable {P : Program} {w : World} {σ σ' : Nat → Nat} {S : Store} {β : Hs} {N : Nat} {s : St}
mutual
theorem er_D : ∀ (d : D) (n : Nat) (v : Value), RepD w σ (labD d n) v → RepD w σ d v
  | .sl es, n, v, h => by
    rw [labD] at h
    have hl := labRs_length es (n + 1)
    have hrec := er_Rs es (n + 1)
    generalize labRs es (n + 1) = q at h hl hrec
    cases h with
    | onil n a cap =>
      have : es = [] := List.eq_nil_of_length_eq_zero (by simpa using hl.symm)
      subst this
      exact .nil a cap
    | ol n b off cap esz q vals c t hcap hlen hb hσ hfit hc hv =>
      obtain ⟨r1, r2⟩ := hrec vals hv
      rw [hl] at hcap hfit hc ⊢
      refine .sl b off cap esz es vals c t (0, 0) hcap (fun e he => ?_) hb (by omega) hc r2
      obtain ⟨e', h1, h2⟩ := r1 e he
      rw [← h2]; exact hlen e' h1
  | .ol m es, n, v, h => h
  | .b x, n, v, h => h
  | .i k x, n, v, h => h
  | .s l, n, v, h => h
  | .o u, n, v, h => h
theorem er_R : ∀ (r : List D) (n : Nat) (vals : Nat → Value), (∀ j d, (labR r n)[j]? = some d → RepD w σ d (vals j)) → ∀ (j : Nat) d, r[j]? = some d → RepD w σ d (vals j)
  | [], n, vals, h, j, d, hd => by simp at hd
  | a :: r, n, vals, h, j, d, hd => by
    cases j with
    | zero =>
      simp at hd; subst hd
      exact er_D a n _ (h 0 _ rfl)
    | succ j => exact er_R r (n + cntD a) (fun i => vals (i + 1)) (fun i d hi => h (i + 1) d (by rw [labR]; exact hi)) j d hd
theorem er_Rs : ∀ (rs : List (List D)) (n : Nat) (vals : Nat → Value), (∀ j d, (labRs rs n).flatten[j]? = some d → RepD w σ d (vals j)) →
    (∀ e ∈ rs, ∃ e' ∈ labRs rs n, e'.length = e.length) ∧ ∀ (j : Nat) d, rs.flatten[j]? = some d → RepD w σ d (vals j)
  | [], n, vals, h => ⟨fun e he => (by cases he), fun j d hd => (by simp at hd)⟩
  | r :: rs, n, vals, h => by
    rw [labRs, List.flatten_cons] at h
    have h1 := er_R r n vals fun j d hd => h j d (by rw [List.getElem?_append_left (List.getElem?_eq_some_iff.1 hd).1]; exact hd)
    obtain ⟨h2, h3⟩ := er_Rs rs (n + cntR r) (fun i => vals (r.length + i)) fun j d hd => h (r.length + j) d (by rw [List.getElem?_append_right (by rw [labR_length]; omega), labR_length, Nat.add_sub_cancel_left]; exact hd)
    refine ⟨fun e he => ?_, fun j d hd => ?_⟩
    · rcases List.mem_cons.1 he with e1 | he
      · subst e1; exact ⟨_, by rw [labRs]; exact List.mem_cons_self .., labR_length _ _⟩
      · obtain ⟨e', q1, q2⟩ := h2 e he
        exact ⟨e', by rw [labRs]; exact List.mem_cons_of_mem _ q1, q2⟩
    · rw [List.flatten_cons] at hd
      by_cases hj : j < r.length
      · rw [List.getElem?_append_left hj] at hd; exact h1 j d hd
      · rw [List.getElem?_append_right (by omega)] at hd
        have := h3 (j - r.length) d hd
        rwa [show r.length + (j - r.length) = j by omega] at this
end
theorem less_lab {r : List D} {n : Nat} : Less (.agg ((labR r n).map .d)) (.agg (r.map .d)) := by
  rintro w σ S β v ⟨a, ha, hl, hc⟩
  rw [List.length_map, labR_length] at hl
  refine ⟨a, ha, by rw [List.length_map]; exact hl, ?_⟩
  have key : ∀ (r : List D) (n : Nat) (vs : List Value), (∀ (j : Nat) (x : C), ((labR r n).map C.d)[j]? = some x → ∃ v : Value, vs[j]? = some v ∧ RepC w σ S β x v ∧ v.oneCell' = true) →
      ∀ (j : Nat) (x : C), (r.map C.d)[j]? = some x → ∃ v : Value, vs[j]? = some v ∧ RepC w σ S β x v ∧ v.oneCell' = true := by
    intro r
    induction r with
    | nil => intro n vs h j x hx; simp at hx
    | cons d ds ih =>
      intro n vs h j x hx
      cases j with
      | zero =>
        simp at hx; subst hx
        obtain ⟨v, h1, h2, h3⟩ := h 0 (.d (labD d n)) rfl
        exact ⟨v, h1, er_D d n v h2, h3⟩
      | succ j =>
        have := ih (n + cntD d) vs.tail (fun i y hy => by
          obtain ⟨v, h1, h2⟩ := h (i + 1) y (by rw [labR, List.map_cons]; exact hy)
          refine ⟨v, ?_, h2⟩
          cases vs with
          | nil => simp at h1
          | cons a b => exact h1) j x hx
        obtain ⟨v, h1, h2⟩ := this
        refine ⟨v, ?_, h2⟩
        cases vs with
        | nil => simp at h1
        | cons a b => exact h1
  exact key r n _ hc
inductive Lesses : List V → List V → Prop
  | nil : Lesses [] []
  | cons {x y : V} {xs ys : List V} : Less x y → Lesses xs ys → Lesses (x :: xs) (y :: ys)
theorem Lesses.length : ∀ {xs ys : List V}, Lesses xs ys → xs.length = ys.length
  | _, _, .nil => rfl
  | _, _, .cons _ h => by rw [List.length_cons, List.length_cons, Lesses.length h]
theorem Lesses.at : ∀ {xs ys : List V}, Lesses xs ys → ∀ (j : Nat) (x y : V), xs[j]? = some x → ys[j]? = some y → Less x y
  | _, _, .nil, j, x, y, h, _ => by simp at h
  | _, _, .cons a h, 0, x, y, h1, h2 => by simp at h1 h2; subst h1; subst h2; exact a
  | _, _, .cons a h, j + 1, x, y, h1, h2 => Lesses.at h j x y (by simpa using h1) (by simpa using h2)
theorem PCall.args {f : FuncId} {args args' : List V} {r : V} (h : PCall P f args' r) (hl : Lesses args args') : PCall P f args r := fun S => (h S).weaken hl.length fun j x y hx hy w σ β v hr => hl.at j x y hx hy w σ S β v hr
theorem call_l {dr : Option Nat} {f : FuncId} {args args' : List V} {dst : Option Nat} {K : St → Prop} {r : V} (h : PCall P f args' r) (hl : Lesses (args.map V.bor) args') (hK : K (s.put dst r)) : CallG P dr f args s dst K := call_w (h.args hl) hK
def mapL (row : Bool) (j n : Nat) (es : List (List D)) (tm : List (Nat × V)) : List (Nat × V) := tm.map fun x => (x.1, x.2.mapC (C.lab row j n es))
theorem look_mapL {row : Bool} {j n : Nat} {es : List (List D)} {tm : List (Nat × V)} {t : Nat} : look (mapL row j n es tm) t = (look tm t).mapC (C.lab row j n es) := look_map (f := V.mapC (C.lab row j n es)) rfl tm t
def labC (j n : Nat) (tm : List (Nat × V)) (own : List Obj) (Ω : Store) : Option Obj → St
  | some (.mrow _ es) => ⟨mapL true j n es tm, (own.map (Obj.mapC (C.lab true j n es))).set j .dead :: Ω⟩
  | some (.ltok m _ es) => ⟨mapL false j m es tm, (own.map (Obj.mapC (C.lab false j m es))).set j .dead :: Ω⟩
  | _ => ⟨tm, own :: Ω⟩
def labAt (j n : Nat) (s : St) : St :=
  match s.st with
  | own :: Ω => labC j n s.tm own Ω (own[j]?)
  | [] => s
def labUp : Nat → Nat → St → St
  | 0, _, s => s
  | k + 1, n, s => labUp k n (labAt k n s)
def labAll (n : Nat) (s : St) : St :=
  match s.st with
  | own :: _ => labUp own.length n s
  | [] => s
theorem labAt_ghost (j n : Nat) (s : St) : Ghost N s (labAt j n s) := by
  obtain ⟨tm, st⟩ := s
  cases st with
  | nil => exact Ghost.refl _ _
  | cons own Ω =>
    show Ghost N ⟨tm, own :: Ω⟩ (labC j n tm own Ω (own[j]?))
    cases ho : own[j]? with
    | none => exact Ghost.refl _ _
    | some o =>
      cases o with
      | mrow z es => exact fun a w σ β hR => lab_rep j n z es true ho hR
      | ltok m z es => exact fun a w σ β hR => lab_rep j m z es false ho hR
      | _ => exact Ghost.refl _ _
theorem labUp_ghost : ∀ (k n : Nat) (s : St), Ghost N s (labUp k n s)
  | 0, n, s => Ghost.refl _ _
  | k + 1, n, s => (labAt_ghost k n s).trans (labUp_ghost k n _)
theorem labAll_ghost (n : Nat) (s : St) : Ghost N s (labAll n s) := by
  unfold labAll
  split
  · exact labUp_ghost _ _ _
  · exact Ghost.refl _ _
theorem labAt_mk {j n : Nat} {tm : List (Nat × V)} {own : List Obj} {Ω : Store} : labAt j n ⟨tm, own :: Ω⟩ = labC j n tm own Ω (own[j]?) := rfl
theorem labAll_mk {n : Nat} {tm : List (Nat × V)} {own : List Obj} {Ω : Store} : labAll n ⟨tm, own :: Ω⟩ = labUp own.length n ⟨tm, own :: Ω⟩ := rfl
def retL (P : Program) (n : Nat) (rs : List ResultVar) (post : V → Store → Prop) (e : Exit) (s : St) : Prop := retQ P rs post e (labAll n s)
theorem retL_ret {n : Nat} {rs : List ResultVar} {post : V → Store → Prop} : retL P n rs post .ret s = retS P rs post (labAll n s) := rfl
theorem retL_normal {n : Nat} {rs : List ResultVar} {post : V → Store → Prop} : retL P n rs post .normal s = retS P rs post (labAll n s) := rfl
theorem acall_cwL (n : Nat) {f : FuncId} {fn : Func} {c : Code} {args : List V} {post : V → Store → Prop} {rs : List ResultVar} (hmix : P.follows .mixedOrders = true) (hf : P.funcs[f]? = some fn) (hN : fn.ntmps = N)
    (hb : fn.body = some c) (hn : (fn.name == "runtime.NumGoroutine") = false) (hr : fn.results.toList = rs) (hl : Nat.ble args.length N = true) (hok : codeOk N c = true)
    (h : CW P N c (retL P n rs post) ⟨argTm (args.map (V.up 1)) 0, [.seed n] :: S⟩) : ACall P f args S post := by
  subst hN
  subst hr
  exact acall_enter hf hb hn (Nat.le_of_ble_eq_true hl) (aw_seed n (aw_end (labAll_ghost n) (cw_sound hmix c _ _ hok h)))
theorem lab_tsl1 {row : Bool} {j n l i : Nat} {es es' : List (List D)} : C.lab row j n es (.tsl (1 + l, i) es') = .tsl (1 + l, i) es' := by rw [Nat.add_comm]; rfl
theorem lab_tsl0 {row : Bool} {j n i : Nat} {es es' : List (List D)} : C.lab row j n es (.tsl (0, i) es') = if i = j ∧ row = false ∧ es'.length = es.length then .d (.ol n es) else .tsl (0, i) es' := rfl
theorem lab_msl1 {row : Bool} {j n l i : Nat} {es : List (List D)} : C.lab row j n es (.msl (1 + l, i)) = .msl (1 + l, i) := by rw [Nat.add_comm]; rfl
theorem lab_msl0 {row : Bool} {j n i : Nat} {es : List (List D)} : C.lab row j n es (.msl (0, i)) = if i = j ∧ row = true then .d (.ol n es) else .msl (0, i) := rfl
theorem lab_d {row : Bool} {j n : Nat} {es : List (List D)} {x : D} : C.lab row j n es (.d x) = .d x := rfl
theorem lab_any {row : Bool} {j n : Nat} {es : List (List D)} : C.lab row j n es .any = .any := rfl
theorem lab_fsl {row : Bool} {j n : Nat} {es es' : List (List D)} : C.lab row j n es (.fsl es') = .fsl es' := rfl
theorem lab_lfl {row : Bool} {j n m : Nat} {es es' : List (List D)} : C.lab row j n es (.lfl m es') = .lfl m es' := rfl
theorem lab_ptr {row : Bool} {j n off : Nat} {es : List (List D)} {k : Key} : C.lab row j n es (.ptr k off) = .ptr k off := rfl
theorem lab_fn {row : Bool} {j n f : Nat} {es : List (List D)} {caps : List (Key × Nat)} : C.lab row j n es (.fn f caps) = .fn f caps := rfl
theorem lab_rptr {row : Bool} {j n : Nat} {es : List (List D)} {cs : List D} : C.lab row j n es (.rptr cs) = .rptr cs := rfl
theorem inv_seed {ι : Type} {ts : List Nat} {f : ι → List V} {g : ι → Store} {p : ι → Prop} {μ : ι → Nat} {i : ι} {tm : List (Nat × V)} {own : List Obj} {Ω : Store} {m : Nat} (m' n : Nat) (hnd : ts.Nodup) (j : ι) (h1 : μ j < μ i) (h2 : ts.map (look tm) = f j) (h3 : (Obj.seed m' :: own.take n) :: Ω = g j)
    (hr : tmRefs (n + 1) (zipTm ts (f j)) = true) (ho : (own.take n).all (Obj.refs (n + 1)) = true) (h4 : p j) : Inv N ts f g p μ i ⟨tm, (.seed m :: own) :: Ω⟩ := by
  refine ⟨j, ⟨zipTm ts (f j), (.seed m' :: own.take n) :: Ω⟩, h1, ?_, ?_, h3, h4⟩
  · have hg : Ghost N ⟨tm, (.seed m :: own) :: Ω⟩ ⟨zipTm ts (f j), (.seed m :: own) :: Ω⟩ := by
      rw [← h2]
      exact tm_ghost fun t => look_zip _ ts t
    refine hg.trans ((drop_ghost (n + 1) hr ?_).trans (reseed_ghost m'))
    rw [List.take_succ_cons, List.all_cons, ho]; rfl
  · exact map_look_zip ts (f j) hnd (by rw [← h2]; simp)
end
attribute [go_sem ↓] retL_ret retL_normal labAll_mk
attribute [go_sem] labUp labAt_mk labC look_mapL V.mapC Obj.mapC lab_tsl1 lab_tsl0 lab_msl1 lab_msl0 lab_d lab_any lab_fsl lab_lfl lab_ptr lab_fn lab_rptr
end Go.Ab

namespace Go.Ab
section
variable {P : Program} {N : Nat} {S : Store} {s : St} {tm : List (Nat × V)}
def loneK (E : Md) (R : Array Oper) (K : St → Prop) (s : St) : Prop := loneB E R s.tm = true ∧ K s
@[congr] theorem loneK_congr {E : Md} {R : Array Oper} {K : St → Prop} {s s' : St} (h2 : s = s') : loneK E R K s = loneK E R K s' := by rw [h2]
def CWL (P : Program) (N : Nat) : Code → (Exit → St → Prop) → St → Prop
  | .seq x y, Q, s => CWL P N x (thenK (CWL P N y Q) Q) s
  | .region _ R true, Q, s => dops P (autoEL R N) R R.toList s (loneK (autoEL R N) R (Q .normal))
  | .region id R false, Q, s => CW P N (.region id R false) Q s
  | .cond c x y, Q, s => CW P N (.cond c x y) Q s
  | .block id c, Q, s => CW P N (.block id c) Q s
  | .exit id, Q, s => CW P N (.exit id) Q s
  | .ret, Q, s => CW P N .ret Q s
  | .skip, Q, s => CW P N .skip Q s
  | .loop c, Q, s => CW P N (.loop c) Q s
  | _, _, _ => False
theorem cwl_seq {x y : Code} {Q : Exit → St → Prop} : CWL P N (.seq x y) Q s = CWL P N x (thenK (CWL P N y Q) Q) s := by rw [CWL]
theorem cwl_draw {id : Nat} {l : List Oper} {Q : Exit → St → Prop} : CWL P N (.region id ⟨l⟩ true) Q s = dops P (autoEL ⟨l⟩ N) ⟨l⟩ l s (loneK (autoEL ⟨l⟩ N) ⟨l⟩ (Q .normal)) := by rw [CWL]
theorem cwl_region {id : Nat} {l : List Oper} {Q : Exit → St → Prop} : CWL P N (.region id ⟨l⟩ false) Q s = CW P N (.region id ⟨l⟩ false) Q s := by rw [CWL]
theorem cwl_cond {c : Operand} {x y : Code} {Q : Exit → St → Prop} : CWL P N (.cond c x y) Q s = CW P N (.cond c x y) Q s := by rw [CWL]
theorem cwl_ret {Q : Exit → St → Prop} : CWL P N .ret Q s = CW P N .ret Q s := by rw [CWL]
theorem cwl_skip {Q : Exit → St → Prop} : CWL P N .skip Q s = CW P N .skip Q s := by rw [CWL]
end
attribute [go_sem ↓] cwl_seq cwl_draw cwl_region cwl_cond cwl_ret cwl_skip
end Go.Ab

namespace Go.Ab
section
variable {P : Program} {N : Nat} {S : Store} {s : St} {tm : List (Nat × V)}
def CWM (P : Program) (N : Nat) : Code → (Exit → St → Prop) → St → Prop
  | .seq x y, Q, s => CWM P N x (thenK (CWM P N y Q) Q) s
  | .region _ R true, Q, s => dops P (autoEL R N) R R.toList s (loneK (autoEL R N) R (Q .normal))
  | .region id R false, Q, s => CW P N (.region id R false) Q s
  | .cond c x y, Q, s => condW (ev s.tm c) (CWM P N x Q) (CWM P N y Q) s
  | .block id c, Q, s => CWM P N c (inBlk id Q) s
  | .exit id, Q, s => CW P N (.exit id) Q s
  | .ret, Q, s => CW P N .ret Q s
  | .skip, Q, s => CW P N .skip Q s
  | .loop c, Q, s => CW P N (.loop c) Q s
  | _, _, _ => False
theorem cwm_seq {x y : Code} {Q : Exit → St → Prop} : CWM P N (.seq x y) Q s = CWM P N x (thenK (CWM P N y Q) Q) s := by rw [CWM]
theorem cwm_draw {id : Nat} {l : List Oper} {Q : Exit → St → Prop} : CWM P N (.region id ⟨l⟩ true) Q s = dops P (autoEL ⟨l⟩ N) ⟨l⟩ l s (loneK (autoEL ⟨l⟩ N) ⟨l⟩ (Q .normal)) := by rw [CWM]
theorem cwm_region {id : Nat} {l : List Oper} {Q : Exit → St → Prop} : CWM P N (.region id ⟨l⟩ false) Q s = CW P N (.region id ⟨l⟩ false) Q s := by rw [CWM]
theorem cwm_cond {c : Operand} {x y : Code} {Q : Exit → St → Prop} : CWM P N (.cond c x y) Q s = condW (ev s.tm c) (CWM P N x Q) (CWM P N y Q) s := by rw [CWM]
theorem cwm_block {id : Nat} {c : Code} {Q : Exit → St → Prop} : CWM P N (.block id c) Q s = CWM P N c (inBlk id Q) s := by rw [CWM]
theorem cwm_exit {id : Nat} {Q : Exit → St → Prop} : CWM P N (.exit id) Q s = CW P N (.exit id) Q s := by rw [CWM]
theorem cwm_ret {Q : Exit → St → Prop} : CWM P N .ret Q s = CW P N .ret Q s := by rw [CWM]
theorem cwm_skip {Q : Exit → St → Prop} : CWM P N .skip Q s = CW P N .skip Q s := by rw [CWM]
theorem cwm_loop {c : Code} {Q : Exit → St → Prop} : CWM P N (.loop c) Q s = CW P N (.loop c) Q s := by rw [CWM]
end
attribute [go_sem ↓] cwm_seq cwm_draw cwm_region cwm_cond cwm_block cwm_exit cwm_ret cwm_skip cwm_loop
end Go.Ab

namespace Go.Ab
section
variable {P : Program} {N : Nat} {S : Store} {s : St} {tm : List (Nat × V)}
end
end Go.Ab

namespace Go.Ab
theorem acall_cwLe {P : Program} {N : Nat} (n : Nat) {f : FuncId} {fn : Func} {c : Code} {args : List V} {own0 : List Obj} {Ω : Store} {post : V → Store → Prop} {rs : List ResultVar} (hmix : P.follows .mixedOrders = true) (hf : P.funcs[f]? = some fn) (hN : fn.ntmps = N)
    (hb : fn.body = some c) (hn : (fn.name == "runtime.NumGoroutine") = false) (hr : fn.results.toList = rs) (hl : Nat.ble args.length N = true) (hok : codeOk N c = true)
    (h : CW P N c (escQ P rs post) ⟨argTm (args.map (V.up 1)) 0, [.seed n] :: own0 :: Ω⟩) : ACall P f args (own0 :: Ω) post := by
  subst hN
  subst hr
  exact acall_esc hf hb hn (Nat.le_of_ble_eq_true hl) (aw_seed n (cw_sound hmix c _ _ hok h))
theorem aw_seeds {P : Program} {N : Nat} {c : Code} {Q : Exit → St → Prop} {tm : List (Nat × V)} {Ω : Store} (n k : Nat) (h : AW P N c Q ⟨tm, [.seed n, .seed k] :: Ω⟩) : AW P N c Q ⟨tm, [] :: Ω⟩ := by
  refine aw_seed n (aw_ghost h fun a w σ β hR => ?_)
  obtain ⟨bo, bΩ, rfl, hlen⟩ := frames hR
  obtain ⟨hS', hk, hst⟩ := hR.S.push (o := .seed k) (h := undef) (Grow.refl hR.S.live) hlen trivial (fun b hb => by cases hb)
  exact ⟨σ, _, ⟨hR.size, hR.defers, hS', fun u => (hR.T u).mono (Near.refl _ _) hk⟩, hst, Keep.refl _ _⟩
section
variable {P : Program} {N : Nat} {S : Store}
theorem acall_cwLs (n k : Nat) {f : FuncId} {fn : Func} {c : Code} {args : List V} {post : V → Store → Prop} {rs : List ResultVar} (hmix : P.follows .mixedOrders = true) (hf : P.funcs[f]? = some fn) (hN : fn.ntmps = N)
    (hb : fn.body = some c) (hn : (fn.name == "runtime.NumGoroutine") = false) (hr : fn.results.toList = rs) (hl : Nat.ble args.length N = true) (hok : codeOk N c = true)
    (h : CW P N c (retL P n rs post) ⟨argTm (args.map (V.up 1)) 0, [.seed n, .seed k] :: S⟩) : ACall P f args S post := by
  subst hN
  subst hr
  exact acall_enter hf hb hn (Nat.le_of_ble_eq_true hl) (aw_seeds n k (aw_end (labAll_ghost n) (cw_sound hmix c _ _ hok h)))
end
end Go.Ab

namespace Go.Ab
section
variable {P : Program} {w w' : World} {σ σ' : Nat → Nat} {S : Store} {β : Hs}
def Sealed (w : World) (σ : Nat → Nat) (lo hi b : Nat) : Prop := ∃ c t fz m, w.heap[b]? = some (.cells c t fz) ∧ σ b = c.size + 1 + m ∧ lo ≤ m ∧ m < hi
theorem Sealed.mono {lo hi lo' hi' b : Nat} (h : Sealed w σ lo hi b) (h1 : lo' ≤ lo) (h2 : hi ≤ hi') : Sealed w σ lo' hi' b := by
  obtain ⟨c, t, fz, m, a1, a2, a3, a4⟩ := h
  exact ⟨c, t, fz, m, a1, a2, by omega, by omega⟩
theorem Sealed.apart {lo hi lo' hi' b : Nat} (h : Sealed w σ lo hi b) (h' : Sealed w σ lo' hi' b) (ho : hi ≤ lo') : False := by
  obtain ⟨c, t, fz, m, a1, a2, a3, a4⟩ := h
  obtain ⟨c', t', fz', m', b1, b2, b3, b4⟩ := h'
  rw [a1] at b1; cases b1
  omega
abbrev Kids := List (List (Option Value))
def kidAt (rows : Kids) (i o : Nat) : Option Value := ((rows[i]?).bind fun r => r[o]?).bind id
def rowsV (rows : Kids) : Array Value := (rows.map fun r => Value.tuple (r.map fun u => u.getD (.bool false)).toArray).toArray
def mkT (v : Value) (rows : Kids) : Value := .tuple #[v, .tuple (rowsV rows)]
theorem hdr_mkT {v : Value} {rows : Kids} : hdr (mkT v rows) = some v := rfl
def IsT (v : Value) : Prop := ∃ a, v = .tuple a
theorem kid_mkT {v : Value} {rows : Kids} (h : ∀ i o u, kidAt rows i o = some u → IsT u) (i o : Nat) : kid (mkT v rows) i o = kidAt rows i o := by
  have h' := h i o
  unfold kid mkT rowsV kidAt at *
  simp only [List.getElem?_toArray, List.getElem?_cons_succ, List.getElem?_cons_zero, List.getElem?_map]
  cases hr : rows[i]? with
  | none => rfl
  | some r =>
    rw [hr] at h'
    simp only [Option.map_some, List.getElem?_toArray, List.getElem?_map]
    cases hu : r[o]? with
    | none => simp [hu]
    | some u =>
      simp only [Option.bind_some, hu, id] at h'
      cases u with
      | none => simp [hu]
      | some u =>
        obtain ⟨a, rfl⟩ := h' u rfl
        simp [hu]
def CellT (w : World) (d : D) (v : Value) (u : Option Value) : Prop :=
  match d with
  | .sl es => ∃ T, u = some T ∧ IsT T ∧ hdr T = some v ∧ ExT w es T
  | d => u = none ∧ SD d v
theorem rows_lab {z : Nat} : ∀ {rs : List (List D)} {n : Nat}, (∀ r ∈ labRs rs n, r.length = z) → ∀ r ∈ rs, r.length = z
  | [], _, _, r, h => by cases h
  | a :: rs, n, ha, r, h => by
    rw [labRs] at ha
    rcases List.mem_cons.1 h with e | h
    · subst e; rw [← labR_length r n]; exact ha _ (by simp)
    · exact rows_lab (n := n + cntR a) (fun r hr => ha r (by simp [hr])) r h
structure RowT (w : World) (σ : Nat → Nat) (r : List D) (n m : Nat) (vals : Nat → Value) (us : List (Option Value)) : Prop where
  len : us.length = r.length
  cell : ∀ (j : Nat) (d : D), r[j]? = some d → ∃ u, us[j]? = some u ∧ CellT w d (vals j) u
  own : ∀ (j : Nat) (u : Value), us[j]? = some (some u) → ∀ b, Owns u b → Sealed w σ n m b
  apart : ∀ (j j' : Nat) (u u' : Value) (b : Nat), j ≠ j' → us[j]? = some (some u) → us[j']? = some (some u') → Owns u b → Owns u' b → False
structure RowsT (w : World) (σ : Nat → Nat) (z : Nat) (rs : List (List D)) (n m : Nat) (vals : Nat → Value) (U : Kids) : Prop where
  cell : ∀ (i o : Nat) (d : D), cellAt rs i o = some d → ∃ u, ((U[i]?).bind fun r => r[o]?) = some u ∧ CellT w d (vals (i * z + o)) u
  kid : ∀ (i o : Nat) (u : Value), kidAt U i o = some u → ∃ es, cellAt rs i o = some (.sl es)
  own : ∀ (i o : Nat) (u : Value), kidAt U i o = some u → ∀ b, Owns u b → Sealed w σ n m b
  apart : ∀ (i o i' o' : Nat) (u u' : Value) (b : Nat), (i, o) ≠ (i', o') → kidAt U i o = some u → kidAt U i' o' = some u' → Owns u b → Owns u' b → False
theorem kidAt_zero {us : List (Option Value)} {U : Kids} {o : Nat} {u : Value} : kidAt (us :: U) 0 o = some u ↔ us[o]? = some (some u) := by
  show (us[o]?).bind id = some u ↔ _
  cases us[o]? with
  | none => simp
  | some x => simp
mutual
theorem lab_D : ∀ (d : D) (n : Nat) (v : Value), plD d = true → RepD w σ (labD d n) v → ∃ u, CellT w d v u ∧ ∀ T, u = some T → ∀ b, Owns T b → Sealed w σ n (n + cntD d) b
  | .sl es, n, v, hp, h => by
    rw [labD] at h
    have hl := labRs_length es (n + 1)
    have hrec := lab_Rs es (n + 1)
    have hrow := fun z => rows_lab (z := z) (rs := es) (n := n + 1)
    generalize labRs es (n + 1) = q at h hl hrec hrow
    have hempty : ∀ a cap, es = [] → v = .slice a 0 cap → ∃ u, CellT w (.sl es) v u ∧ ∀ T, u = some T → ∀ b, Owns T b → Sealed w σ n (n + cntD (.sl es)) b := by
      rintro a cap rfl rfl
      have hk : ∀ i o, kid (mkT (.slice a 0 cap) []) i o = none := fun i o => by rw [kid_mkT (fun i o u h => by simp [kidAt] at h)]; simp [kidAt]
      refine ⟨some (mkT (.slice a 0 cap) []), ⟨_, rfl, ⟨_, rfl⟩, rfl, .nil a cap _ rfl hk⟩, fun T hT b hb => ?_⟩
      cases hT
      exfalso
      cases hb with
      | here h1 h2 => rw [hdr_mkT] at h1; cases h1; omega
      | kid h1 h2 => rw [hk] at h1; cases h1
    cases h with
    | onil n a cap => exact hempty a cap (List.eq_nil_of_length_eq_zero (by simpa using hl.symm)) rfl
    | ol n b off cap z q vals c t hcap hlen hb hσ hfit hc hv =>
      by_cases hne : es = []
      · subst hne
        have hq0 : q.length = 0 := by simpa using hl
        exact hempty _ _ rfl (by rw [hq0])
      rw [hl] at hcap hfit hc ⊢
      obtain ⟨U, hU⟩ := hrec z vals (hrow z hlen) (by simpa [plD] using hp) hv
      have hrl := hrow z hlen
      have hT : ∀ i o u, kidAt U i o = some u → IsT u := fun i o u hu => by
        obtain ⟨es', he⟩ := hU.kid i o u hu
        obtain ⟨u', h1, h2⟩ := hU.cell i o _ he
        obtain ⟨T, h3, h4, _⟩ := h2
        unfold kidAt at hu
        rw [h1, h3] at hu
        cases hu; exact h4
      have hkid : ∀ i o, kid (mkT (.slice (some ⟨b, off, none⟩) es.length cap) U) i o = kidAt U i o := kid_mkT hT
      have hcell : ∀ i o es', cellAt es i o = some (.sl es') → ∃ T, kidAt U i o = some T ∧ hdr T = some (vals (i * z + o)) ∧ ExT w es' T := fun i o es' he => by
        obtain ⟨u', h1, T, h3, h4, h5, h6⟩ := hU.cell i o _ he
        refine ⟨T, ?_, h5, h6⟩
        unfold kidAt
        rw [h1, h3]; rfl
      have hself : ∀ x, Sealed w σ (n + 1) (n + 1 + cntRs es) x → x ≠ b := by
        rintro x ⟨c', t', fz', m, a1, a2, a3, a4⟩ rfl
        rw [hb] at a1; cases a1
        omega
      refine ⟨some (mkT (.slice (some ⟨b, off, none⟩) es.length cap) U), ⟨_, rfl, ⟨_, rfl⟩, rfl, ?_⟩, fun T hT' x hx => ?_⟩
      · refine .mk b off cap z es _ c t (fun i o => vals (i * z + o)) (fun i o => (kidAt U i o).getD undef) rfl hne hcap hrl hb hfit (fun i o d hd => ?_) (fun i o d hd => ?_) (fun i o es' he => ?_) (fun i o es' he => ?_) (fun i o u hu hb' => ?_) (fun i o i' o' u u' x hio hu hu' h1 h2 => ?_) (fun i o u hu => ?_)
        · obtain ⟨hi, ho⟩ := cell_row hd
          rw [hrl _ (List.getElem_mem hi)] at ho
          refine hc _ ?_
          have : (i + 1) * z ≤ es.length * z := Nat.mul_le_mul_right _ hi
          rw [Nat.add_mul, Nat.one_mul] at this
          omega
        · obtain ⟨u, h1, h2⟩ := hU.cell i o d hd
          cases d <;> first | exact .inl ⟨_, rfl⟩ | exact .inr h2.2
        · obtain ⟨T, h1, h2, h3⟩ := hcell i o es' he
          rw [hkid, h1]
          exact ⟨rfl, h2⟩
        · obtain ⟨T, h1, h2, h3⟩ := hcell i o es' he
          rw [h1]; exact h3
        · rw [hkid] at hu
          exact hself b (hU.own i o u hu b hb') rfl
        · rw [hkid] at hu hu'
          exact hU.apart i o i' o' u u' x hio hu hu' h1 h2
        · rw [hkid] at hu
          exact hU.kid i o u hu
      · cases hT'
        cases hx with
        | here h1 h2 => rw [hdr_mkT] at h1; cases h1; exact ⟨c, t, (0, 0), n, hb, hσ, Nat.le_refl _, by rw [cntD]; omega⟩
        | kid h1 h2 =>
          rw [hkid] at h1
          exact (hU.own _ _ _ h1 _ h2).mono (by omega) (by rw [cntD]; omega)
  | .ol m es, n, v, hp, h => by simp [plD] at hp
  | .b x, n, v, hp, h => by rw [labD] at h; cases h; exact ⟨none, ⟨rfl, rfl⟩, fun T h => by cases h⟩
  | .i k x, n, v, hp, h => by rw [labD] at h; cases h; exact ⟨none, ⟨rfl, rfl⟩, fun T h => by cases h⟩
  | .s l, n, v, hp, h => by rw [labD] at h; cases h; exact ⟨none, ⟨rfl, rfl⟩, fun T h => by cases h⟩
  | .o u, n, v, hp, h => by simp [plD] at hp
theorem lab_R : ∀ (r : List D) (n : Nat) (vals : Nat → Value), plR r = true → (∀ (j : Nat) (d : D), (labR r n)[j]? = some d → RepD w σ d (vals j)) → ∃ us, RowT w σ r n (n + cntR r) vals us
  | [], n, vals, hp, h => ⟨[], rfl, fun j d h => by simp at h, fun j u h => by simp at h, fun j j' u u' b _ h => by simp at h⟩
  | d :: r, n, vals, hp, h => by
    rw [plR, Bool.and_eq_true] at hp
    rw [labR] at h
    obtain ⟨u, h1, h2⟩ := lab_D d n (vals 0) hp.1 (h 0 _ rfl)
    obtain ⟨us, hus⟩ := lab_R r (n + cntD d) (fun j => vals (j + 1)) hp.2 fun j x hx => h (j + 1) x hx
    rw [cntR]
    have hown : ∀ (j : Nat) (T : Value), us[j]? = some (some T) → ∀ b, Owns T b → Sealed w σ (n + cntD d) (n + cntD d + cntR r) b := hus.own
    refine ⟨u :: us, by rw [List.length_cons, List.length_cons, hus.len], fun j x hx => ?_, fun j T hT b hb => ?_, fun j j' T T' b hj hT hT' hb hb' => ?_⟩
    · cases j with
      | zero => simp at hx; subst hx; exact ⟨u, rfl, h1⟩
      | succ j => exact hus.cell j x hx
    · cases j with
      | zero => simp at hT; exact (h2 T hT b hb).mono (Nat.le_refl _) (by omega)
      | succ j => exact (hown j T hT b hb).mono (by omega) (by omega)
    · cases j with
      | zero =>
        cases j' with
        | zero => exact hj rfl
        | succ j' => simp at hT; exact (h2 T hT b hb).apart (hown j' T' hT' b hb') (Nat.le_refl _)
      | succ j =>
        cases j' with
        | zero => simp at hT'; exact (h2 T' hT' b hb').apart (hown j T hT b hb) (Nat.le_refl _)
        | succ j' => exact hus.apart j j' T T' b (by omega) hT hT' hb hb'
theorem lab_Rs : ∀ (rs : List (List D)) (n z : Nat) (vals : Nat → Value), (∀ r ∈ rs, r.length = z) → plRs rs = true → (∀ (j : Nat) (d : D), (labRs rs n).flatten[j]? = some d → RepD w σ d (vals j)) → ∃ U, RowsT w σ z rs n (n + cntRs rs) vals U
  | [], n, z, vals, hz, hp, h => ⟨[], fun i o d h => by simp [cellAt] at h, fun i o u h => by simp [kidAt] at h, fun i o u h => by simp [kidAt] at h, fun i o i' o' u u' b _ h => by simp [kidAt] at h⟩
  | r :: rs, n, z, vals, hz, hp, h => by
    rw [plRs, Bool.and_eq_true] at hp
    rw [labRs, List.flatten_cons] at h
    have hrz : r.length = z := hz r (by simp)
    obtain ⟨us, hus⟩ := lab_R r n vals hp.1 fun j d hd => h j d (by rw [List.getElem?_append_left (List.getElem?_eq_some_iff.1 hd).1]; exact hd)
    obtain ⟨U, hU⟩ := lab_Rs rs (n + cntR r) z (fun j => vals (z + j)) (fun r hr => hz r (by simp [hr])) hp.2 fun j d hd => h (z + j) d (by
      rw [List.getElem?_append_right (by rw [labR_length]; omega), labR_length, hrz, Nat.add_sub_cancel_left]; exact hd)
    rw [cntRs]
    have hown : ∀ (i o : Nat) (T : Value), kidAt U i o = some T → ∀ b, Owns T b → Sealed w σ (n + cntR r) (n + cntR r + cntRs rs) b := hU.own
    refine ⟨us :: U, fun i o d hd => ?_, fun i o u hu => ?_, fun i o T hT b hb => ?_, fun i o i' o' T T' b hio hT hT' hb hb' => ?_⟩
    · cases i with
      | zero =>
        obtain ⟨u, h1, h2⟩ := hus.cell o d hd
        exact ⟨u, h1, by rw [Nat.zero_mul, Nat.zero_add]; exact h2⟩
      | succ i =>
        obtain ⟨u, h1, h2⟩ := hU.cell i o d hd
        exact ⟨u, h1, by rw [show (i + 1) * z + o = z + (i * z + o) by rw [Nat.add_mul]; omega]; exact h2⟩
    · cases i with
      | zero =>
        rw [kidAt_zero] at hu
        have ho : o < r.length := by rw [← hus.len]; exact (List.getElem?_eq_some_iff.1 hu).1
        obtain ⟨u', h1, h2⟩ := hus.cell o r[o] (List.getElem?_eq_getElem ho)
        rw [hu] at h1; cases h1
        have hc : cellAt (r :: rs) 0 o = some r[o] := List.getElem?_eq_getElem ho
        rw [hc]
        generalize r[o] = d at h2
        cases d <;> first | exact ⟨_, rfl⟩ | (cases h2.1)
      | succ i => exact hU.kid i o u hu
    · cases i with
      | zero => rw [kidAt_zero] at hT; exact (hus.own o T hT b hb).mono (Nat.le_refl _) (by omega)
      | succ i => exact (hown i o T hT b hb).mono (by omega) (by omega)
    · cases i with
      | zero =>
        rw [kidAt_zero] at hT
        cases i' with
        | zero => rw [kidAt_zero] at hT'; exact hus.apart o o' T T' b (fun e => hio (by rw [e])) hT hT' hb hb'
        | succ i' => exact (hus.own o T hT b hb).apart (hown i' o' T' hT' b hb') (Nat.le_refl _)
      | succ i =>
        cases i' with
        | zero => rw [kidAt_zero] at hT'; exact (hus.own o' T' hT' b hb').apart (hown i o T hT b hb) (Nat.le_refl _)
        | succ i' => exact hU.apart i o i' o' T T' b (fun e => hio (by cases e; rfl)) hT hT' hb hb'
end
end
end Go.Ab

namespace Go.Ab
section
variable {P : Program} {w w' : World} {σ σ' : Nat → Nat} {S : Store} {β : Hs}
def rootD : D → List (List D)
  | .sl es => es
  | _ => []
def cellX (k : Key) (j : Nat) : D → C
  | .sl _ => .xp k j []
  | d => .d d
def rowX (k : Key) : Nat → List D → List C
  | _, [] => []
  | j, d :: ds => cellX k j d :: rowX k (j + 1) ds
theorem rowX_length {k : Key} : ∀ (j : Nat) (r : List D), (rowX k j r).length = r.length
  | _, [] => rfl
  | j, d :: ds => by rw [rowX, List.length_cons, rowX_length, List.length_cons]
theorem rowX_at {k : Key} : ∀ (r : List D) (j i : Nat), (rowX k j r)[i]? = (r[i]?).map (cellX k (j + i))
  | [], j, i => by simp [rowX]
  | d :: ds, j, 0 => rfl
  | d :: ds, j, i + 1 => by
    rw [rowX, List.getElem?_cons_succ, List.getElem?_cons_succ, rowX_at ds (j + 1) i, show j + 1 + i = j + (i + 1) by omega]
def pureC : C → C
  | .d x => .d x
  | .fsl es => .d (.sl es)
  | .tsl _ es => .d (.sl es)
  | .lfl n es => .d (.ol n es)
  | .rptr cs => .rptr cs
  | _ => .any
def pureV : V → V
  | .c x => .c (pureC x)
  | .agg cs => .agg (cs.map pureC)
  | _ => .any
theorem pure_repC {c : C} {v : Value} (h : RepC w σ S β c v) (S' : Store) (β' : Hs) : RepC w σ S' β' (pureC c) v := by
  cases c with
  | d x => exact h
  | fsl es => exact h.1
  | tsl k es => exact h.1
  | lfl n es => exact h.1
  | rptr cs => exact h
  | _ => trivial
theorem pure_rep {x : V} {v : Value} (h : RepV w σ S β x v) (S' : Store) (β' : Hs) : RepV w σ S' β' (pureV x) v := by
  cases x with
  | c x => exact ⟨pure_repC h.1 _ _, h.2⟩
  | agg cs =>
    obtain ⟨a, ha, hl, hc⟩ := h
    refine ⟨a, ha, by rw [List.length_map]; exact hl, fun i x hx => ?_⟩
    rw [List.getElem?_map] at hx
    cases hi : cs[i]? with
    | none => rw [hi] at hx; cases hx
    | some y =>
      rw [hi] at hx; cases hx
      obtain ⟨u, q1, q2, q3⟩ := hc i y hi
      exact ⟨u, q1, pure_repC q2 _ _, q3⟩
  | _ => trivial
theorem repS_empty (hl : ∀ b, b < w.heap.size ∨ σ b = 0) (hg : Glob w σ) : RepS w σ [] [] where
  glob := hg
  obj := fun k o h => by rw [getO_nil] at h; cases h
  apart := fun k k' o o' h h' b h1 => by rw [getO_nil] at h1; cases h1
  shape := ⟨rfl, fun l fr h => by simp at h⟩
  live := hl
theorem no_own0 {β : Hs} {b : Nat} : ¬ Own [] β b := fun ⟨k, o, h, h1, _⟩ => by rw [getO_nil] at h1; cases h1
def Holder (mk : List C → V) (m : Nat) : Prop := ∀ w σ S β cs v, cs.length = m → RepV w σ S β (mk cs) v → ∃ vs, RepCs w σ S β cs vs ∧ ∀ w' σ' S' β' cs', cs'.length = m → RepCs w' σ' S' β' cs' vs → RepV w' σ' S' β' (mk cs') v
theorem holder_agg {m : Nat} : Holder V.agg m := fun w σ S β cs v _ ⟨a, ha, hc⟩ => ⟨a.toList, hc, fun w' σ' S' β' cs' _ hc' => ⟨a, ha, hc'⟩⟩
def plainC : C → Bool
  | .d d => isSD d
  | _ => false
theorem plainC_rep {c : C} {v : Value} (h : plainC c = true) (hr : RepC w σ S β c v) (w' : World) (σ' : Nat → Nat) (S' : Store) (β' : Hs) : RepC w' σ' S' β' c v := by
  cases c with
  | d d => cases d <;> first | (cases h; done) | (cases hr; constructor)
  | _ => cases h
def emptyT : Value := mkT (.slice none 0 0) []
theorem kid_empty (i o : Nat) : kid emptyT i o = none := by
  unfold emptyT
  rw [kid_mkT (fun i o u h => by simp [kidAt] at h)]; simp [kidAt]
theorem owns_empty {b : Nat} : ¬ Owns emptyT b := fun h => by
  cases h with
  | here h1 h2 => cases h1
  | kid h1 h2 => rw [kid_empty] at h1; cases h1
theorem bound_of (σ : Nat → Nat) : ∀ n : Nat, ∃ m, ∀ b, b < n → σ b ≤ m
  | 0 => ⟨0, fun b h => by omega⟩
  | n + 1 => by
    obtain ⟨m, hm⟩ := bound_of σ n
    refine ⟨max m (σ n), fun b hb => ?_⟩
    by_cases e : b = n
    · subst e; omega
    · have := hm b (by omega); omega
open Classical in
theorem ACall.own {f : FuncId} {args : List V} {own0 : List Obj} {Ω : Store} {mk : List C → V} {r : List D} (hm : Holder mk r.length) (hp : plR r = true)
    (h : ∀ n, PCall P f (args.map pureV) (mk ((labR r n).map .d))) :
    ACall P f args (own0 :: Ω) (fun r' S' => r' = mk (rowX (0, own0.length) 0 r) ∧ S' = (own0 ++ [.xf (r.map rootD)]) :: Ω) := by
  refine ⟨(h 0 []).1, fun w σ β vs hS hargs => ?_⟩
  obtain ⟨n, hn⟩ := bound_of σ w.heap.size
  have hargs0 : RepVs w σ [] [] (args.map pureV) vs := by
    refine ⟨by rw [List.length_map]; exact hargs.1, fun j x hx => ?_⟩
    rw [List.getElem?_map] at hx
    cases ha : args[j]? with
    | none => rw [ha] at hx; cases hx
    | some y =>
      rw [ha] at hx; cases hx
      obtain ⟨v, h1, h2⟩ := hargs.2 j y ha
      exact ⟨v, h1, pure_rep h2 _ _⟩
  refine ((h n []).2 w σ [] vs (repS_empty hS.live hS.glob) hargs0).mono fun e w' ⟨v, r', S', σ', β', he, hS', hk, hst, hv, hr', hS2⟩ => ?_
  subst hr'; subst hS2
  obtain ⟨us0, hcs, hback⟩ := hm w' σ' _ β' _ v (by rw [List.length_map, labR_length]) hv
  have hus0 : us0.length = r.length := by rw [← hcs.1, List.length_map, labR_length]
  obtain ⟨us, hus⟩ := lab_R r n (fun j => us0.getD j undef) hp (fun j d hd => by
    obtain ⟨u, h1, h2, _⟩ := hcs.2 j (.d d) (by rw [List.getElem?_map, hd]; rfl)
    simp only [List.getD_eq_getElem?_getD, h1, Option.getD_some]
    exact h2)
  let h0 : Value := .tuple (us.map fun u => u.getD emptyT).toArray
  have hroot : ∀ j, rootAt h0 j = (us[j]?).map fun u => u.getD emptyT := fun j => by simp [h0, rootAt]
  have hfresh : ∀ b, XOwns h0 b → w.heap.size ≤ b := by
    rintro b ⟨j, T, h1, h2⟩
    rw [hroot] at h1
    cases hu : us[j]? with
    | none => rw [hu] at h1; cases h1
    | some u =>
      rw [hu] at h1
      simp only [Option.map_some, Option.some.injEq] at h1
      cases u with
      | none => subst h1; exact absurd h2 owns_empty
      | some u =>
        simp at h1; subst h1
        obtain ⟨c, t, fz, m, a1, a2, a3, a4⟩ := hus.own j u hu b h2
        refine Nat.le_of_not_lt fun hlt => ?_
        have h1 := (hst.far b hlt no_own0).2
        have h2 := hn b hlt
        omega
  let σ2 : Nat → Nat := fun b => if XOwns h0 b then 0 else σ' b
  have hg : Grow w σ w' σ2 := ⟨hst.size, hst.os, hst.output, fun b hb => by
    obtain ⟨h1, h2⟩ := hst.far b hb no_own0
    exact ⟨h1, (if_neg fun hx => by have := hfresh b hx; omega).trans h2⟩, fun b => by
    rcases hS'.live b with hb | hb
    · exact .inl hb
    · right; show (if XOwns h0 b then 0 else σ' b) = 0; rw [hb]; split <;> rfl⟩
  cases β with
  | nil => have := hS.shape.1; simp at this
  | cons bo bΩ =>
  have hlen : bo.length = own0.length := by
    obtain ⟨gr, g1, g2⟩ := hS.shape.2 0 own0 rfl
    simp at g1; rw [g1]; exact g2
  obtain ⟨hS3, hk3, hst3⟩ := hS.push (o := .xf (r.map rootD)) (h := h0) hg hlen (by
    refine ⟨fun j es hj => ?_, fun j T hT => ?_, fun b hb => if_pos hb, fun j j' T T' x hjj hT hT' hx hx' => ?_⟩
    · rw [List.getElem?_map] at hj
      cases hd : r[j]? with
      | none => rw [hd] at hj; cases hj
      | some d =>
        rw [hd] at hj
        simp only [Option.map_some, Option.some.injEq] at hj
        subst hj
        obtain ⟨u, h1, h2⟩ := hus.cell j d hd
        rw [hroot, h1]
        have hsc : (∀ es, d ≠ .sl es) → ∃ T, Option.map (fun u => Option.getD u emptyT) (some u) = some T ∧ ExT w' (rootD d) T := fun hne => by
          have hu : u = none := by cases d <;> first | exact absurd rfl (hne _) | exact h2.1
          have hr0 : rootD d = [] := by cases d <;> first | exact absurd rfl (hne _) | rfl
          subst hu
          rw [hr0]
          exact ⟨emptyT, rfl, .nil none 0 _ rfl kid_empty⟩
        cases d with
        | sl es => obtain ⟨T, rfl, _, _, h6⟩ := h2; exact ⟨T, rfl, h6⟩
        | _ => exact hsc (fun es e => by cases e)
    · rw [List.length_map]
      rw [hroot] at hT
      cases hu : us[j]? with
      | none => rw [hu] at hT; cases hT
      | some u => rw [← hus.len]; exact (List.getElem?_eq_some_iff.1 hu).1
    · rw [hroot] at hT hT'
      cases hu : us[j]? with
      | none => rw [hu] at hT; cases hT
      | some u =>
        cases hu' : us[j']? with
        | none => rw [hu'] at hT'; cases hT'
        | some u' =>
          rw [hu] at hT; rw [hu'] at hT'
          simp only [Option.map_some, Option.some.injEq] at hT hT'
          cases u with
          | none => subst hT; exact owns_empty hx
          | some u =>
            cases u' with
            | none => subst hT'; exact owns_empty hx'
            | some u' => simp at hT hT'; subst hT; subst hT'; exact hus.apart j j' u u' x hjj hu hu' hx hx') (fun b hb => hfresh b hb)
  refine ⟨v, _, _, σ2, (bo ++ [h0]) :: bΩ, he, hS3, hk3, hst3, ?_, rfl, rfl⟩
  refine hback _ _ _ _ _ (by rw [rowX_length]) ⟨by rw [rowX_length, hus0], fun j x hx => ?_⟩
  rw [rowX_at, Nat.zero_add] at hx
  cases hd : r[j]? with
  | none => rw [hd] at hx; cases hx
  | some d =>
    rw [hd] at hx
    simp only [Option.map_some, Option.some.injEq] at hx
    obtain ⟨u, h1, h2⟩ := hus.cell j d hd
    have hjl : j < (labR r n).length := by rw [labR_length]; exact (List.getElem?_eq_some_iff.1 hd).1
    obtain ⟨v0, h3, _, h4⟩ := hcs.2 j (.d (labR r n)[j]) (by rw [List.getElem?_map, List.getElem?_eq_getElem hjl]; rfl)
    have hv0 : us0.getD j undef = v0 := by rw [List.getD_eq_getElem?_getD, h3]; rfl
    simp only [hv0] at h2
    refine ⟨v0, h3, ?_, h4⟩
    have hsc : (∀ es, d ≠ .sl es) → RepC w' σ2 ((own0 ++ [.xf (r.map rootD)]) :: Ω) ((bo ++ [h0]) :: bΩ) (.d d) v0 := fun hne => by
      have : SD d v0 := by cases d <;> first | exact absurd rfl (hne _) | exact h2.2
      exact rep_SD this
    cases d with
    | sl es =>
      subst hx
      obtain ⟨T, rfl, _, h5, _⟩ := h2
      refine ⟨_, getO_push_new _ _ _, fun rs _ => ⟨h0, by rw [← hlen, getO_push_new], ?_⟩⟩
      unfold hdrAt
      rw [hroot, h1]
      exact h5
    | _ => subst hx; exact hsc (fun es e => by cases e)
end
end Go.Ab

namespace Go.Ab
section
variable {P : Program} {w w' : World} {σ σ' : Nat → Nat} {S : Store} {β : Hs}
def Stay (r : V) : Prop := ∀ w σ σ2 S β S2 β2 v, (∀ b c t fz, w.heap[b]? = some (.cells c t fz) → c.size < σ b → σ2 b = σ b) → RepV w σ S β r v → RepV w σ2 S2 β2 r v
mutual
theorem st_D {σ2 : Nat → Nat} (hs : ∀ b c t fz, w.heap[b]? = some (.cells c t fz) → c.size < σ b → σ2 b = σ b) : ∀ (d : D) (n : Nat) (v : Value), plD d = true → RepD w σ (labD d n) v → RepD w σ2 (labD d n) v
  | .sl es, n, v, hp, h => by
    rw [labD] at h ⊢
    have hrec := st_Rs hs es (n + 1)
    generalize labRs es (n + 1) = q at h hrec ⊢
    cases h with
    | onil n a cap => exact .onil n a cap
    | ol n b off cap z q vals c t hcap hlen hb hσ hfit hc hv => exact .ol n b off cap z q vals c t hcap hlen hb ((hs b c t _ hb (by omega)).trans hσ) hfit hc (hrec vals (by simpa [plD] using hp) hv)
  | .ol m es, n, v, hp, h => by simp [plD] at hp
  | .b x, n, v, hp, h => by rw [labD] at h ⊢; cases h; constructor
  | .i k x, n, v, hp, h => by rw [labD] at h ⊢; cases h; constructor
  | .s l, n, v, hp, h => by rw [labD] at h ⊢; cases h; constructor
  | .o u, n, v, hp, h => by simp [plD] at hp
theorem st_R {σ2 : Nat → Nat} (hs : ∀ b c t fz, w.heap[b]? = some (.cells c t fz) → c.size < σ b → σ2 b = σ b) : ∀ (r : List D) (n : Nat) (vals : Nat → Value), plR r = true → (∀ (j : Nat) (d : D), (labR r n)[j]? = some d → RepD w σ d (vals j)) →
    ∀ (j : Nat) (d : D), (labR r n)[j]? = some d → RepD w σ2 d (vals j)
  | [], n, vals, hp, h, j, d, hd => by simp [labR] at hd
  | a :: r, n, vals, hp, h, j, d, hd => by
    rw [plR, Bool.and_eq_true] at hp
    rw [labR] at h hd
    cases j with
    | zero =>
      simp at hd; subst hd
      exact st_D hs a n _ hp.1 (h 0 _ rfl)
    | succ j => exact st_R hs r (n + cntD a) (fun i => vals (i + 1)) hp.2 (fun i d hi => h (i + 1) d hi) j d hd
theorem st_Rs {σ2 : Nat → Nat} (hs : ∀ b c t fz, w.heap[b]? = some (.cells c t fz) → c.size < σ b → σ2 b = σ b) : ∀ (rs : List (List D)) (n : Nat) (vals : Nat → Value), plRs rs = true → (∀ (j : Nat) (d : D), (labRs rs n).flatten[j]? = some d → RepD w σ d (vals j)) →
    ∀ (j : Nat) (d : D), (labRs rs n).flatten[j]? = some d → RepD w σ2 d (vals j)
  | [], n, vals, hp, h, j, d, hd => by simp [labRs] at hd
  | r :: rs, n, vals, hp, h, j, d, hd => by
    rw [plRs, Bool.and_eq_true] at hp
    rw [labRs, List.flatten_cons] at h hd
    by_cases hj : j < (labR r n).length
    · rw [List.getElem?_append_left hj] at hd
      exact st_R hs r n vals hp.1 (fun j d hd => h j d (by rw [List.getElem?_append_left (List.getElem?_eq_some_iff.1 hd).1]; exact hd)) j d hd
    · rw [List.getElem?_append_right (by omega)] at hd
      have := st_Rs hs rs (n + cntR r) (fun i => vals ((labR r n).length + i)) hp.2 (fun j d hd => h _ d (by rw [List.getElem?_append_right (by omega), Nat.add_sub_cancel_left]; exact hd)) (j - (labR r n).length) d hd
      rwa [show (labR r n).length + (j - (labR r n).length) = j by omega] at this
end
theorem stay_plain {c : C} (h : plainC c = true) : Stay (.c c) := fun w σ σ2 S β S2 β2 v _ hv => ⟨plainC_rep h hv.1 _ _ _ _, hv.2⟩
theorem ExT.data {es : List (List D)} {T v : Value} (h : ExT w es T) (hv : hdr T = some v) (hσ : ∀ b c t fz, Owns T b → w.heap[b]? = some (.cells c t fz) → c.size ≤ σ b) : RepD w σ (.sl es) v := by
  induction h generalizing v with
  | nil a cap T h hk => rw [h] at hv; cases hv; exact .nil a cap
  | mk b off cap z es T c t vals kids hh hne hcap hlen hb hfit hc hs hk hx hself hap hkid ih =>
    rw [hh] at hv; cases hv
    have hpos : 0 < es.length := List.length_pos_iff.2 hne
    have hfl := flat_len es z hlen
    have hidx : ∀ j, j < es.length * z → ∃ hi : j / z < es.length, j % z < z ∧ j / z * z + j % z = j := fun j hj => by
      have hz : 0 < z := by rcases Nat.eq_zero_or_pos z with h | h; · rw [h] at hj; simp at hj
                            · exact h
      exact ⟨(Nat.div_lt_iff_lt_mul hz).2 hj, Nat.mod_lt _ hz, by rw [Nat.mul_comm]; exact Nat.div_add_mod j z⟩
    have hcell : ∀ j d, es.flatten[j]? = some d → ∃ hi : j / z < es.length, cellAt es (j / z) (j % z) = some d ∧ j / z * z + j % z = j := fun j d hd => by
      have hj : j < es.length * z := by rw [← hfl]; exact (List.getElem?_eq_some_iff.1 hd).1
      obtain ⟨hi, hm, he⟩ := hidx j hj
      refine ⟨hi, ?_, he⟩
      have := flat_get es z hlen (j / z) (j % z) hi hm
      rw [he, hd] at this
      unfold cellAt
      rw [List.getElem?_eq_getElem hi]
      exact this.symm
    refine .sl b off cap z es (fun j => vals (j / z) (j % z)) c t (0, 0) hcap hlen hb (Nat.le_trans hfit (hσ b c t _ (.here hh hpos) hb)) (fun j hj => ?_) (fun j d hd => ?_)
    · obtain ⟨hi, hce, he⟩ := hcell j _ (List.getElem?_eq_getElem (by rw [hfl]; exact hj))
      have := hc _ _ _ hce
      rwa [he] at this
    · obtain ⟨hi, hce, he⟩ := hcell j d hd
      rcases hs _ _ _ hce with ⟨es', rfl⟩ | hsd
      · obtain ⟨k1, k2⟩ := hk _ _ _ hce
        exact ih _ _ _ hce k2 fun b' c' t' fz' ho hb' => hσ b' c' t' fz' (.kid k1 ho) hb'
      · exact rep_SD hsd
def lendC (k : Key) (rs : List (List (List D))) : C → C
  | .xp k' r [] => if k' = k then (match rs[r]? with | some es => .d (.sl es) | none => .any) else .any
  | .d x => .d x
  | _ => .any
def lendV (k : Key) (rs : List (List (List D))) : V → V
  | .c x => .c (lendC k rs x)
  | .agg cs => .agg (cs.map (lendC k rs))
  | _ => .any
open Classical in
theorem ACall.lend {f : FuncId} {args : List V} {k : Key} {rs : List (List (List D))} {r : V} (hk : getO S k = some (.xf rs)) (hr : Stay r) (h : PCall P f (args.map (lendV k rs)) r) : ACall P f args S (fun r' S' => r' = r ∧ S' = S) := by
  refine ⟨(h S).1, fun w σ β vs hS hargs => ?_⟩
  obtain ⟨hh, hb, hobj⟩ := hS.obj k _ hk
  obtain ⟨hX1, hX2, hX3, hX4⟩ := hobj
  let siz : Nat → Nat := fun b => match w.heap[b]? with
    | some (.cells c _ _) => c.size
    | _ => 0
  have hsiz : ∀ b c t fz, w.heap[b]? = some (.cells c t fz) → siz b = c.size := fun b c t fz e => by simp [siz, e]
  have hXlt : ∀ b, XOwns hh b → b < w.heap.size := fun b hb' => blk_some (o := .xf rs) (S := S) (β := β) ⟨hX1, hX2, hX3, hX4⟩ hb'
  let σ1 : Nat → Nat := fun b => if XOwns hh b then siz b else σ b
  have hn1 : Near w σ w σ1 := fun b c t fz e => by
    refine ⟨?_, fun hlt => ?_, c, e, rfl, fun _ _ => rfl⟩
    · show σ b ≤ if XOwns hh b then siz b else σ b
      split
      · rename_i hx; rw [hX3 b hx]; exact Nat.zero_le _
      · exact Nat.le_refl _
    · show (if XOwns hh b then siz b else σ b) = σ b
      rw [if_neg fun hx => by have := hX3 b hx; omega]
  have hS1 : RepS w σ1 [] [] := by
    refine repS_empty (fun b => ?_) (hS.glob.near hn1)
    by_cases hx : XOwns hh b
    · exact .inl (hXlt b hx)
    · rcases hS.live b with h' | h'
      · exact .inl h'
      · right; show (if XOwns hh b then siz b else σ b) = 0; rw [if_neg hx]; exact h'
  have hlc : ∀ c v, RepC w σ S β c v → RepC w σ1 [] [] (lendC k rs c) v := by
    intro c v hc
    unfold lendC
    split
    · rename_i k' r'
      split
      · rename_i e
        subst e
        split
        · rename_i es hes
          obtain ⟨o, ho, h2⟩ := hc
          rw [hk] at ho; cases ho
          obtain ⟨h', e1, e2⟩ := h2 rs rfl
          rw [hb] at e1; cases e1
          obtain ⟨T, q1, q2⟩ := hX1 r' es hes
          unfold hdrAt at e2
          rw [q1] at e2
          refine q2.data e2 fun b c t fz ho hb' => ?_
          show c.size ≤ if XOwns hh b then siz b else σ b
          rw [if_pos ⟨r', T, q1, ho⟩, hsiz b c t fz hb']
          exact Nat.le_refl _
        · trivial
      · trivial
    · exact RepD.mono hn1 hc
    · trivial
  have hargs1 : RepVs w σ1 [] [] (args.map (lendV k rs)) vs := by
    refine ⟨by rw [List.length_map]; exact hargs.1, fun j x hx => ?_⟩
    rw [List.getElem?_map] at hx
    cases ha : args[j]? with
    | none => rw [ha] at hx; cases hx
    | some y =>
      rw [ha] at hx; cases hx
      obtain ⟨v, h1, h2⟩ := hargs.2 j y ha
      refine ⟨v, h1, ?_⟩
      cases y with
      | c x => exact ⟨hlc x v h2.1, h2.2⟩
      | agg cs =>
        obtain ⟨a, e, hl, hc⟩ := h2
        refine ⟨a, e, by rw [List.length_map]; exact hl, fun i x hx => ?_⟩
        rw [List.getElem?_map] at hx
        cases hi : cs[i]? with
        | none => rw [hi] at hx; cases hx
        | some y =>
          rw [hi] at hx; cases hx
          obtain ⟨u, q1, q2, q3⟩ := hc i y hi
          exact ⟨u, q1, hlc y u q2, q3⟩
      | _ => trivial
  refine ((h []).2 w σ1 [] vs hS1 hargs1).mono fun e w' ⟨v, r', S', σ', β', he, hS', hk', hst, hv, hr', hS2⟩ => ?_
  subst hr'; subst hS2
  let σ2 : Nat → Nat := fun b => if XOwns hh b then 0 else σ' b
  have hg : Grow w σ w' σ2 := ⟨hst.size, hst.os, hst.output, fun b hlt => by
    obtain ⟨h1, h2⟩ := hst.far b hlt no_own0
    refine ⟨h1, ?_⟩
    show (if XOwns hh b then 0 else σ' b) = σ b
    by_cases hx : XOwns hh b
    · rw [if_pos hx, hX3 b hx]
    · rw [if_neg hx, h2]
      exact if_neg hx, fun b => by
    rcases hS'.live b with h' | h'
    · exact .inl h'
    · right; show (if XOwns hh b then 0 else σ' b) = 0; rw [h']; split <;> rfl⟩
  refine ⟨v, _, _, σ2, β, he, hS.grow hg, Keep.refl _ _, Step.of_grow hg, ?_, rfl, rfl⟩
  refine hr w' σ' σ2 _ _ _ _ v (fun b c t fz e hlt => ?_) hv
  by_cases hx : XOwns hh b
  · obtain ⟨h1, h2⟩ := hst.far b (hXlt b hx) no_own0
    rw [h1] at e
    have : σ1 b = siz b := if_pos hx
    rw [h2, this, hsiz b c t fz e] at hlt
    omega
  · exact if_neg hx
end
end Go.Ab

namespace Go.Ab
section
variable {P : Program} {w w' : World} {σ σ' : Nat → Nat} {S : Store} {β : Hs}
open Classical in
theorem lend_world {args : List V} {k : Key} {rs : List (List (List D))} (hk : getO S k = some (.xf rs)) {vs : List Value} (hS : RepS w σ S β) (hargs : RepVs w σ S β args vs) :
    ∃ (σ1 : Nat → Nat) (X : Nat → Prop), (∀ b, ¬ X b → σ1 b = σ b) ∧ (∀ b, X b → σ b = 0 ∧ b < w.heap.size) ∧ (∀ b c t fz, X b → w.heap[b]? = some (.cells c t fz) → σ1 b ≤ c.size) ∧ RepS w σ1 [] [] ∧ RepVs w σ1 [] [] (args.map (lendV k rs)) vs := by
  obtain ⟨hh, hb, hobj⟩ := hS.obj k _ hk
  obtain ⟨hX1, hX2, hX3, hX4⟩ := hobj
  let siz : Nat → Nat := fun b => match w.heap[b]? with
    | some (.cells c _ _) => c.size
    | _ => 0
  have hsiz : ∀ b c t fz, w.heap[b]? = some (.cells c t fz) → siz b = c.size := fun b c t fz e => by simp [siz, e]
  have hXlt : ∀ b, XOwns hh b → b < w.heap.size := fun b hb' => blk_some (o := .xf rs) (S := S) (β := β) ⟨hX1, hX2, hX3, hX4⟩ hb'
  let σ1 : Nat → Nat := fun b => if XOwns hh b then siz b else σ b
  have hn1 : Near w σ w σ1 := fun b c t fz e => by
    refine ⟨?_, fun hlt => ?_, c, e, rfl, fun _ _ => rfl⟩
    · show σ b ≤ if XOwns hh b then siz b else σ b
      split
      · rename_i hx; rw [hX3 b hx]; exact Nat.zero_le _
      · exact Nat.le_refl _
    · show (if XOwns hh b then siz b else σ b) = σ b
      rw [if_neg fun hx => by have := hX3 b hx; omega]
  have hS1 : RepS w σ1 [] [] := by
    refine repS_empty (fun b => ?_) (hS.glob.near hn1)
    by_cases hx : XOwns hh b
    · exact .inl (hXlt b hx)
    · rcases hS.live b with h' | h'
      · exact .inl h'
      · right; show (if XOwns hh b then siz b else σ b) = 0; rw [if_neg hx]; exact h'
  have hlc : ∀ c v, RepC w σ S β c v → RepC w σ1 [] [] (lendC k rs c) v := by
    intro c v hc
    unfold lendC
    split
    · rename_i k' r'
      split
      · rename_i e
        subst e
        split
        · rename_i es hes
          obtain ⟨o, ho, h2⟩ := hc
          rw [hk] at ho; cases ho
          obtain ⟨h', e1, e2⟩ := h2 rs rfl
          rw [hb] at e1; cases e1
          obtain ⟨T, q1, q2⟩ := hX1 r' es hes
          unfold hdrAt at e2
          rw [q1] at e2
          refine q2.data e2 fun b c t fz ho hb' => ?_
          show c.size ≤ if XOwns hh b then siz b else σ b
          rw [if_pos ⟨r', T, q1, ho⟩, hsiz b c t fz hb']
          exact Nat.le_refl _
        · trivial
      · trivial
    · exact RepD.mono hn1 hc
    · trivial
  have hargs1 : RepVs w σ1 [] [] (args.map (lendV k rs)) vs := by
    refine ⟨by rw [List.length_map]; exact hargs.1, fun j x hx => ?_⟩
    rw [List.getElem?_map] at hx
    cases ha : args[j]? with
    | none => rw [ha] at hx; cases hx
    | some y =>
      rw [ha] at hx; cases hx
      obtain ⟨v, h1, h2⟩ := hargs.2 j y ha
      refine ⟨v, h1, ?_⟩
      cases y with
      | c x => exact ⟨hlc x v h2.1, h2.2⟩
      | agg cs =>
        obtain ⟨a, e, hl, hc⟩ := h2
        refine ⟨a, e, by rw [List.length_map]; exact hl, fun i x hx => ?_⟩
        rw [List.getElem?_map] at hx
        cases hi : cs[i]? with
        | none => rw [hi] at hx; cases hx
        | some y =>
          rw [hi] at hx; cases hx
          obtain ⟨u, q1, q2, q3⟩ := hc i y hi
          exact ⟨u, q1, hlc y u q2, q3⟩
      | _ => trivial
  exact ⟨σ1, fun b => XOwns hh b, fun b hx => if_neg hx, fun b hx => ⟨hX3 b hx, hXlt b hx⟩, fun b c t fz hx e => by
    show (if XOwns hh b then siz b else σ b) ≤ c.size
    rw [if_pos hx, hsiz b c t fz e]
    exact Nat.le_refl _, hS1, hargs1⟩
open Classical in
theorem ACall.ownL {f : FuncId} {args : List V} {own0 : List Obj} {Ω : Store} {mk : List C → V} {r : List D} {k : Key} {rs : List (List (List D))} (hk : getO (own0 :: Ω) k = some (.xf rs)) (hm : Holder mk r.length) (hp : plR r = true)
    (h : ∀ n, PCall P f (args.map (lendV k rs)) (mk ((labR r n).map .d))) :
    ACall P f args (own0 :: Ω) (fun r' S' => r' = mk (rowX (0, own0.length) 0 r) ∧ S' = (own0 ++ [.xf (r.map rootD)]) :: Ω) := by
  refine ⟨(h 0 []).1, fun w σ β vs hS hargs => ?_⟩
  obtain ⟨σ1, X, hl1, hl2, hl3, hS1, hargs1⟩ := lend_world hk hS hargs
  obtain ⟨n, hn⟩ := bound_of σ1 w.heap.size
  refine ((h n []).2 w σ1 [] vs hS1 hargs1).mono fun e w' ⟨v, r', S', σ', β', he, hS', hk, hst, hv, hr', hS2⟩ => ?_
  subst hr'; subst hS2
  obtain ⟨us0, hcs, hback⟩ := hm w' σ' _ β' _ v (by rw [List.length_map, labR_length]) hv
  have hus0 : us0.length = r.length := by rw [← hcs.1, List.length_map, labR_length]
  obtain ⟨us, hus⟩ := lab_R r n (fun j => us0.getD j undef) hp (fun j d hd => by
    obtain ⟨u, h1, h2, _⟩ := hcs.2 j (.d d) (by rw [List.getElem?_map, hd]; rfl)
    simp only [List.getD_eq_getElem?_getD, h1, Option.getD_some]
    exact h2)
  let h0 : Value := .tuple (us.map fun u => u.getD emptyT).toArray
  have hroot : ∀ j, rootAt h0 j = (us[j]?).map fun u => u.getD emptyT := fun j => by simp [h0, rootAt]
  have hfresh : ∀ b, XOwns h0 b → w.heap.size ≤ b := by
    rintro b ⟨j, T, h1, h2⟩
    rw [hroot] at h1
    cases hu : us[j]? with
    | none => rw [hu] at h1; cases h1
    | some u =>
      rw [hu] at h1
      simp only [Option.map_some, Option.some.injEq] at h1
      cases u with
      | none => subst h1; exact absurd h2 owns_empty
      | some u =>
        simp at h1; subst h1
        obtain ⟨c, t, fz, m, a1, a2, a3, a4⟩ := hus.own j u hu b h2
        refine Nat.le_of_not_lt fun hlt => ?_
        have h1 := (hst.far b hlt no_own0).2
        have h2 := hn b hlt
        omega
  let σ2 : Nat → Nat := fun b => if XOwns h0 b then 0 else if X b then 0 else σ' b
  have hg : Grow w σ w' σ2 := ⟨hst.size, hst.os, hst.output, fun b hb => by
    obtain ⟨h1, h2⟩ := hst.far b hb no_own0
    refine ⟨h1, (if_neg fun hx => by have := hfresh b hx; omega).trans ?_⟩
    by_cases hx : X b
    · rw [if_pos hx, (hl2 b hx).1]
    · rw [if_neg hx, h2, hl1 b hx], fun b => by
    rcases hS'.live b with hb | hb
    · exact .inl hb
    · right; show (if XOwns h0 b then 0 else if X b then 0 else σ' b) = 0; rw [hb]; split <;> first | rfl | (split <;> rfl)⟩
  cases β with
  | nil => have := hS.shape.1; simp at this
  | cons bo bΩ =>
  have hlen : bo.length = own0.length := by
    obtain ⟨gr, g1, g2⟩ := hS.shape.2 0 own0 rfl
    simp at g1; rw [g1]; exact g2
  obtain ⟨hS3, hk3, hst3⟩ := hS.push (o := .xf (r.map rootD)) (h := h0) hg hlen (by
    refine ⟨fun j es hj => ?_, fun j T hT => ?_, fun b hb => if_pos hb, fun j j' T T' x hjj hT hT' hx hx' => ?_⟩
    · rw [List.getElem?_map] at hj
      cases hd : r[j]? with
      | none => rw [hd] at hj; cases hj
      | some d =>
        rw [hd] at hj
        simp only [Option.map_some, Option.some.injEq] at hj
        subst hj
        obtain ⟨u, h1, h2⟩ := hus.cell j d hd
        rw [hroot, h1]
        have hsc : (∀ es, d ≠ .sl es) → ∃ T, Option.map (fun u => Option.getD u emptyT) (some u) = some T ∧ ExT w' (rootD d) T := fun hne => by
          have hu : u = none := by cases d <;> first | exact absurd rfl (hne _) | exact h2.1
          have hr0 : rootD d = [] := by cases d <;> first | exact absurd rfl (hne _) | rfl
          subst hu
          rw [hr0]
          exact ⟨emptyT, rfl, .nil none 0 _ rfl kid_empty⟩
        cases d with
        | sl es => obtain ⟨T, rfl, _, _, h6⟩ := h2; exact ⟨T, rfl, h6⟩
        | _ => exact hsc (fun es e => by cases e)
    · rw [List.length_map]
      rw [hroot] at hT
      cases hu : us[j]? with
      | none => rw [hu] at hT; cases hT
      | some u => rw [← hus.len]; exact (List.getElem?_eq_some_iff.1 hu).1
    · rw [hroot] at hT hT'
      cases hu : us[j]? with
      | none => rw [hu] at hT; cases hT
      | some u =>
        cases hu' : us[j']? with
        | none => rw [hu'] at hT'; cases hT'
        | some u' =>
          rw [hu] at hT; rw [hu'] at hT'
          simp only [Option.map_some, Option.some.injEq] at hT hT'
          cases u with
          | none => subst hT; exact owns_empty hx
          | some u =>
            cases u' with
            | none => subst hT'; exact owns_empty hx'
            | some u' => simp at hT hT'; subst hT; subst hT'; exact hus.apart j j' u u' x hjj hu hu' hx hx') (fun b hb => hfresh b hb)
  refine ⟨v, _, _, σ2, (bo ++ [h0]) :: bΩ, he, hS3, hk3, hst3, ?_, rfl, rfl⟩
  refine hback _ _ _ _ _ (by rw [rowX_length]) ⟨by rw [rowX_length, hus0], fun j x hx => ?_⟩
  rw [rowX_at, Nat.zero_add] at hx
  cases hd : r[j]? with
  | none => rw [hd] at hx; cases hx
  | some d =>
    rw [hd] at hx
    simp only [Option.map_some, Option.some.injEq] at hx
    obtain ⟨u, h1, h2⟩ := hus.cell j d hd
    have hjl : j < (labR r n).length := by rw [labR_length]; exact (List.getElem?_eq_some_iff.1 hd).1
    obtain ⟨v0, h3, _, h4⟩ := hcs.2 j (.d (labR r n)[j]) (by rw [List.getElem?_map, List.getElem?_eq_getElem hjl]; rfl)
    have hv0 : us0.getD j undef = v0 := by rw [List.getD_eq_getElem?_getD, h3]; rfl
    simp only [hv0] at h2
    refine ⟨v0, h3, ?_, h4⟩
    have hsc : (∀ es, d ≠ .sl es) → RepC w' σ2 ((own0 ++ [.xf (r.map rootD)]) :: Ω) ((bo ++ [h0]) :: bΩ) (.d d) v0 := fun hne => by
      have : SD d v0 := by cases d <;> first | exact absurd rfl (hne _) | exact h2.2
      exact rep_SD this
    cases d with
    | sl es =>
      subst hx
      obtain ⟨T, rfl, _, h5, _⟩ := h2
      refine ⟨_, getO_push_new _ _ _, fun rs _ => ⟨h0, by rw [← hlen, getO_push_new], ?_⟩⟩
      unfold hdrAt
      rw [hroot, h1]
      exact h5
    | _ => subst hx; exact hsc (fun es e => by cases e)
theorem atP_updP : ∀ {p : List (Nat × Nat)} {es old new : List (List D)}, atP es p = some old → atP (updP es p new) p = some new
  | [], _, _, _, _ => rfl
  | (i, o) :: p, es, old, new, h => by
    rw [atP] at h
    rw [updP]
    cases hc : cellAt es i o with
    | none => rw [hc] at h; cases h
    | some d =>
      rw [hc] at h
      cases d with
      | sl es' =>
        simp only at h ⊢
        have hi : i < es.length ∧ o < (es.getD i []).length := by
          unfold cellAt at hc
          cases he : es[i]? with
          | none => rw [he] at hc; cases hc
          | some r =>
            rw [he] at hc
            refine ⟨(List.getElem?_eq_some_iff.1 he).1, ?_⟩
            rw [List.getD_eq_getElem?_getD, he]
            exact (List.getElem?_eq_some_iff.1 hc).1
        have h2 : cellAt (es.set i ((es.getD i []).set o (.sl (updP es' p new)))) i o = some (.sl (updP es' p new)) := by
          unfold cellAt
          rw [List.getElem?_set_self hi.1, Option.bind_some, List.getElem?_set_self hi.2]
        rw [atP, h2]
        exact atP_updP h
      | _ => cases h
theorem updP_at {es es' new : List (List D)} {i o : Nat} {p : List (Nat × Nat)} (h : cellAt es i o = some (.sl es')) : updP es ((i, o) :: p) new = es.set i ((es.getD i []).set o (.sl (updP es' p new))) := by
  rw [updP, h]
theorem updP_updP : ∀ {p : List (Nat × Nat)} {es old a b : List (List D)}, atP es p = some old → updP (updP es p a) p b = updP es p b
  | [], _, _, _, _, _ => rfl
  | (i, o) :: p, es, old, a, b, h => by
    rw [atP] at h
    cases hc : cellAt es i o with
    | none => rw [hc] at h; cases h
    | some d =>
      rw [hc] at h
      cases d with
      | sl es' =>
        simp only at h ⊢
        have hi : i < es.length ∧ o < (es.getD i []).length := by
          unfold cellAt at hc
          cases he : es[i]? with
          | none => rw [he] at hc; cases hc
          | some r =>
            rw [he] at hc
            refine ⟨(List.getElem?_eq_some_iff.1 he).1, ?_⟩
            rw [List.getD_eq_getElem?_getD, he]
            exact (List.getElem?_eq_some_iff.1 hc).1
        have h2 : cellAt (es.set i ((es.getD i []).set o (.sl (updP es' p a)))) i o = some (.sl (updP es' p a)) := by
          unfold cellAt
          rw [List.getElem?_set_self hi.1, Option.bind_some, List.getElem?_set_self hi.2]
        rw [updP_at hc, updP_at hc, updP_at h2, updP_updP h, List.set_set]
        congr 1
        rw [List.getD_eq_getElem?_getD, List.getElem?_set_self hi.1, Option.getD_some, List.set_set]
      | _ => cases h
theorem atP_snoc : ∀ {p : List (Nat × Nat)} {es old es' : List (List D)} {i o : Nat}, atP es p = some old → cellAt old i o = some (.sl es') → atP es (p ++ [(i, o)]) = some es'
  | [], es, old, es', i, o, h, hc => by cases h; rw [List.nil_append, atP, hc]; rfl
  | (i', o') :: p, es, old, es', i, o, h, hc => by
    rw [List.cons_append, atP]
    rw [atP] at h
    cases hd : cellAt es i' o' with
    | none => rw [hd] at h; cases h
    | some d =>
      rw [hd] at h
      cases d with
      | sl e => exact atP_snoc h hc
      | _ => cases h
theorem updP_snoc : ∀ {p : List (Nat × Nat)} {es old es' new : List (List D)} {i o : Nat}, atP es p = some old → cellAt old i o = some (.sl es') → updP es (p ++ [(i, o)]) new = updP es p (old.set i ((old.getD i []).set o (.sl new)))
  | [], es, old, es', new, i, o, h, hc => by cases h; rw [List.nil_append, updP_at hc]; rfl
  | (i', o') :: p, es, old, es', new, i, o, h, hc => by
    rw [List.cons_append]
    rw [atP] at h
    cases hd : cellAt es i' o' with
    | none => rw [hd] at h; cases h
    | some d =>
      rw [hd] at h
      cases d with
      | sl e => simp only at h; rw [updP_at hd, updP_at hd, updP_snoc h hc]
      | _ => cases h
theorem atR_lt {rs : List (List (List D))} {r : Nat} {p : List (Nat × Nat)} {old : List (List D)} (h : atR rs r p = some old) : ∃ hr : r < rs.length, atP rs[r] p = some old := by
  unfold atR at h
  cases hr : rs[r]? with
  | none => rw [hr] at h; cases h
  | some es =>
    rw [hr] at h
    obtain ⟨h1, h2⟩ := List.getElem?_eq_some_iff.1 hr
    exact ⟨h1, by rw [h2]; exact h⟩
theorem atR_updR {rs : List (List (List D))} {r : Nat} {p : List (Nat × Nat)} {old new : List (List D)} (h : atR rs r p = some old) : atR (updR rs r p new) r p = some new := by
  obtain ⟨hr, h⟩ := atR_lt h
  unfold atR updR
  rw [List.getElem?_set_self hr, Option.bind_some, List.getD_eq_getElem?_getD, List.getElem?_eq_getElem hr, Option.getD_some]
  exact atP_updP h
theorem updR_updR {rs : List (List (List D))} {r : Nat} {p : List (Nat × Nat)} {old a b : List (List D)} (h : atR rs r p = some old) : updR (updR rs r p a) r p b = updR rs r p b := by
  obtain ⟨hr, h⟩ := atR_lt h
  unfold updR
  rw [List.set_set, List.getD_eq_getElem?_getD, List.getElem?_set_self hr, List.getD_eq_getElem?_getD, List.getElem?_eq_getElem hr, Option.getD_some, Option.getD_some, updP_updP h]
theorem updP_same : ∀ {p : List (Nat × Nat)} {es old : List (List D)}, atP es p = some old → updP es p old = es
  | [], _, _, h => by cases h; rfl
  | (i, o) :: p, es, old, h => by
    rw [atP] at h
    cases hc : cellAt es i o with
    | none => rw [hc] at h; cases h
    | some d =>
      rw [hc] at h
      cases d with
      | sl es' =>
        simp only at h
        rw [updP_at hc, updP_same h]
        unfold cellAt at hc
        cases he : es[i]? with
        | none => rw [he] at hc; cases hc
        | some r =>
          rw [he] at hc
          obtain ⟨h1, h2⟩ := List.getElem?_eq_some_iff.1 he
          obtain ⟨h3, h4⟩ := List.getElem?_eq_some_iff.1 hc
          rw [List.getD_eq_getElem?_getD, he, Option.getD_some, ← h4, List.set_getElem_self, ← h2, List.set_getElem_self]
      | _ => cases h
theorem updR_same {rs : List (List (List D))} {r : Nat} {p : List (Nat × Nat)} {old : List (List D)} (h : atR rs r p = some old) : updR rs r p old = rs := by
  obtain ⟨hr, h⟩ := atR_lt h
  unfold updR
  rw [List.getD_eq_getElem?_getD, List.getElem?_eq_getElem hr, Option.getD_some, updP_same h, List.set_getElem_self]
theorem atR_snoc {rs : List (List (List D))} {r i o : Nat} {p : List (Nat × Nat)} {old es' : List (List D)} (h : atR rs r p = some old) (hc : cellAt old i o = some (.sl es')) : atR rs r (p ++ [(i, o)]) = some es' := by
  obtain ⟨hr, h⟩ := atR_lt h
  unfold atR
  rw [List.getElem?_eq_getElem hr, Option.bind_some]
  exact atP_snoc h hc
theorem updR_snoc {rs : List (List (List D))} {r i o : Nat} {p : List (Nat × Nat)} {old es' new : List (List D)} (h : atR rs r p = some old) (hc : cellAt old i o = some (.sl es')) :
    updR rs r (p ++ [(i, o)]) new = updR rs r p (old.set i ((old.getD i []).set o (.sl new))) := by
  obtain ⟨hr, h⟩ := atR_lt h
  unfold updR
  rw [List.getD_eq_getElem?_getD, List.getElem?_eq_getElem hr, Option.getD_some, updP_snoc h hc]
theorem atR_ne {rs : List (List (List D))} {r r' : Nat} {p p' : List (Nat × Nat)} {new : List (List D)} (h : r ≠ r') : atR (updR rs r p new) r' p' = atR rs r' p' := by
  unfold atR updR
  rw [List.getElem?_set_ne h]
end
end Go.Ab

namespace Go.Ab
def mdig (n : Nat) (out : List UInt8) : List UInt8 := if h : n = 0 then out else mdig (n / 10) (UInt8.ofNat (48 + n % 10) :: out)
termination_by n
decreasing_by omega
def mtext (k : Int) : List UInt8 := if k ≤ 0 then [109, 48] else 109 :: mdig k.toNat []
theorem mdig_zero {out : List UInt8} : mdig 0 out = out := by rw [mdig]; simp
theorem mdig_pos {n : Nat} {out : List UInt8} (h : n ≠ 0) : mdig n out = mdig (n / 10) (UInt8.ofNat (48 + n % 10) :: out) := by rw [mdig]; simp [h]
-- How many marks.
mutual
def mcD : D → Nat
  | .sl es => mcRs es
  | .b _ => 1
  | .i _ _ => 1
  | .s _ => 1
  | .o _ => 0
  | .ol _ _ => 0
def mcR : List D → Nat
  | [] => 0
  | d :: ds => mcD d + mcR ds
def mcRs : List (List D) → Nat
  | [] => 0
  | r :: rs => mcR r + mcRs rs
end
-- The marks from a number on.
mutual
def mkD : D → Int → D
  | .sl es, k => .sl (mkRs es k)
  | .b _, k => .b (decide (k.tmod 3 = 0))
  | .i kd _, k => .i kd k
  | .s _, k => .s (mtext k)
  | .o v, _ => .o v
  | .ol n es, _ => .ol n es
def mkR : List D → Int → List D
  | [], _ => []
  | d :: ds, k => mkD d k :: mkR ds (k + mcD d)
def mkRs : List (List D) → Int → List (List D)
  | [], _ => []
  | r :: rs, k => mkR r k :: mkRs rs (k + mcR r)
end
-- Rows are not long.
mutual
def nwD : D → Bool
  | .sl es => nwRs es
  | .b _ => true
  | .i _ _ => true
  | .s _ => true
  | .o _ => true
  | .ol _ _ => true
def nwR : List D → Bool
  | [] => true
  | d :: ds => nwD d && nwR ds
def nwRs : List (List D) → Bool
  | [] => true
  | r :: rs => decide (r.length ≤ 32) && nwR r && nwRs rs
end
mutual
theorem mc_sz : ∀ d : D, nwD d = true → mcD d ≤ 32 * d.sz + 1
  | .sl es, h => by
    have := mcs_sz es (by simpa [nwD] using h)
    simp only [mcD, D.sz]; omega
  | .b _, _ => by simp [mcD]
  | .i _ _, _ => by simp [mcD]
  | .s _, _ => by simp [mcD]
  | .o _, _ => by simp [mcD]
  | .ol _ _, _ => by simp [mcD]
theorem mcr_sz : ∀ r : List D, nwR r = true → mcR r ≤ 32 * szRow r + r.length
  | [], _ => by simp [mcR]
  | d :: ds, h => by
    rw [nwR, Bool.and_eq_true] at h
    have h1 := mc_sz d h.1
    have h2 := mcr_sz ds h.2
    simp only [mcR, szRow, List.length_cons]; omega
theorem mcs_sz : ∀ rs : List (List D), nwRs rs = true → mcRs rs ≤ 32 * (rs.length + szRows rs)
  | [], _ => by simp [mcRs]
  | r :: rs, h => by
    rw [nwRs, Bool.and_eq_true, Bool.and_eq_true, decide_eq_true_eq] at h
    have h1 := mcr_sz r h.1.2
    have h2 := mcs_sz rs h.2
    simp only [mcRs, szRows, List.length_cons]; omega
end
theorem nwR_append : ∀ a b, nwR (a ++ b) = (nwR a && nwR b)
  | [], b => by simp [nwR]
  | d :: ds, b => by rw [List.cons_append, nwR, nwR, nwR_append ds b, Bool.and_assoc]
theorem nwRs_map {α : Type} {f : α → List D} : ∀ {xs : List α}, (∀ x ∈ xs, nwR (f x) = true ∧ (f x).length ≤ 32) → nwRs (xs.map f) = true
  | [], _ => rfl
  | x :: xs, h => by
    rw [List.map_cons, nwRs, (h x (by simp)).1, nwRs_map fun y hy => h y (by simp [hy]), decide_eq_true (h x (by simp)).2]; rfl
theorem mcRs_append : ∀ a b, mcRs (a ++ b) = mcRs a + mcRs b
  | [], b => by simp [mcRs]
  | d :: ds, b => by rw [List.cons_append, mcRs, mcRs, mcRs_append ds b]; omega
theorem mkRs_append : ∀ a b k, mkRs (a ++ b) k = mkRs a k ++ mkRs b (k + mcRs a)
  | [], b, k => by simp [mkRs, mcRs]
  | d :: ds, b, k => by rw [List.cons_append, mkRs, mkRs, mkRs_append ds b, mcRs]; simp only [List.cons_append, Int.natCast_add, Int.add_assoc]
theorem mkRs_length : ∀ rs k, (mkRs rs k).length = rs.length
  | [], _ => rfl
  | r :: rs, k => by rw [mkRs, List.length_cons, mkRs_length rs, List.length_cons]
theorem take_row {rows : List (List D)} {i : Nat} (hi : i < rows.length) : rows.take (i + 1) = rows.take i ++ [rows[i]] := List.take_succ_eq_append_getElem hi
theorem mcRs_take {rows : List (List D)} {i : Nat} (hi : i < rows.length) : mcRs (rows.take (i + 1)) = mcRs (rows.take i) + mcR rows[i] := by
  rw [take_row hi, mcRs_append]; simp [mcRs]
theorem mcRs_le {rows : List (List D)} {i : Nat} : mcRs (rows.take i) ≤ mcRs rows := by
  have := mcRs_append (rows.take i) (rows.drop i)
  rw [List.take_append_drop] at this
  omega
def mkTo (rows : List (List D)) (k : Int) (i : Nat) : List (List D) := mkRs (rows.take i) k ++ rows.drop i
theorem mkTo_zero {rows : List (List D)} {k : Int} : mkTo rows k 0 = rows := by simp [mkTo, mkRs]
theorem mkTo_all {rows : List (List D)} {k : Int} {i : Nat} (h : rows.length ≤ i) : mkTo rows k i = mkRs rows k := by
  unfold mkTo; rw [List.take_of_length_le h, List.drop_of_length_le h, List.append_nil]
theorem mkTo_length {rows : List (List D)} {k : Int} {i : Nat} : (mkTo rows k i).length = rows.length := by
  unfold mkTo; rw [List.length_append, mkRs_length, List.length_take, List.length_drop]; omega
theorem mkTo_get {rows : List (List D)} {k : Int} {i : Nat} (hi : i < rows.length) : (mkTo rows k i).getD i [] = rows[i] := by
  unfold mkTo
  rw [List.getD_eq_getElem?_getD, List.getElem?_append_right (by rw [mkRs_length, List.length_take]; omega), mkRs_length, List.length_take, List.getElem?_drop]
  rw [show i + (i - min i rows.length) = i by omega, List.getElem?_eq_getElem hi]; rfl
theorem mkTo_set {rows : List (List D)} {k : Int} {i : Nat} (hi : i < rows.length) : (mkTo rows k i).set i (mkR rows[i] (k + mcRs (rows.take i))) = mkTo rows k (i + 1) := by
  unfold mkTo
  have hl : (mkRs (rows.take i) k).length = i := by rw [mkRs_length, List.length_take]; omega
  rw [List.set_append_right _ _ (by omega), hl, Nat.sub_self, List.drop_eq_getElem_cons hi, List.set_cons_zero, take_row hi, mkRs_append, List.append_assoc]
  rfl
def mkAt (rows : List (List D)) (k : Int) (i : Nat) (row : List D) : List (List D) := (mkTo rows k i).set i row
theorem mkAt_length {rows : List (List D)} {k : Int} {i : Nat} {row : List D} : (mkAt rows k i row).length = rows.length := by unfold mkAt; rw [List.length_set, mkTo_length]
theorem mkAt_get {rows : List (List D)} {k : Int} {i : Nat} {row : List D} (hi : i < rows.length) : (mkAt rows k i row).getD i [] = row := by
  unfold mkAt
  rw [List.getD_eq_getElem?_getD, List.getElem?_set_self (by rw [mkTo_length]; exact hi)]; rfl
theorem mkAt_cell {rows : List (List D)} {k : Int} {i o : Nat} {row : List D} (hi : i < rows.length) : cellAt (mkAt rows k i row) i o = row[o]? := by
  unfold mkAt cellAt
  rw [List.getElem?_set_self (by rw [mkTo_length]; exact hi), Option.bind_some]
theorem mkAt_set {rows : List (List D)} {k : Int} {i : Nat} {row row' : List D} : (mkAt rows k i row).set i row' = mkAt rows k i row' := by unfold mkAt; rw [List.set_set]
theorem mkTo_at {rows : List (List D)} {k : Int} {i : Nat} (hi : i < rows.length) : mkTo rows k i = mkAt rows k i rows[i] := by
  have h := mkTo_get (k := k) hi
  have hl : i < (mkTo rows k i).length := by rw [mkTo_length]; exact hi
  rw [List.getD_eq_getElem?_getD, List.getElem?_eq_getElem hl, Option.getD_some] at h
  unfold mkAt
  rw [← h, List.set_getElem_self]
theorem mkAt_to {rows : List (List D)} {k : Int} {i : Nat} (hi : i < rows.length) : mkAt rows k i (mkR rows[i] (k + mcRs (rows.take i))) = mkTo rows k (i + 1) := mkTo_set hi
theorem at_mkAt {rs : List (List (List D))} {r : Nat} {p : List (Nat × Nat)} {rows es : List (List D)} {k : Int} {i o : Nat} {row : List D} (hp : atR rs r p = some rows) (hi : i < rows.length) (h : row[o]? = some (.sl es)) :
    atR (updR rs r p (mkAt rows k i row)) r (p ++ [(i, o)]) = some es := atR_snoc (atR_updR hp) (by rw [mkAt_cell hi, h])
theorem upd_mkAt {rs : List (List (List D))} {r : Nat} {p : List (Nat × Nat)} {rows es new : List (List D)} {k : Int} {i o : Nat} {row : List D} (hp : atR rs r p = some rows) (hi : i < rows.length) (h : row[o]? = some (.sl es)) :
    updR (updR rs r p (mkAt rows k i row)) r (p ++ [(i, o)]) new = updR rs r p (mkAt rows k i (row.set o (.sl new))) := by
  rw [updR_snoc (atR_updR hp) (by rw [mkAt_cell hi, h]), updR_updR hp, mkAt_get hi, mkAt_set]
theorem mkRs_get : ∀ {rows : List (List D)} {k : Int} {i : Nat} (hi : i < rows.length), (mkRs rows k).getD i [] = mkR rows[i] (k + mcRs (rows.take i))
  | r :: rows, k, 0, _ => by simp [mkRs, mcRs]
  | r :: rows, k, i + 1, hi => by
    have := mkRs_get (rows := rows) (k := k + mcR r) (i := i) (by simpa using hi)
    rw [mkRs, List.getD_cons_succ, this, List.getElem_cons_succ, List.take_succ_cons, mcRs, Int.natCast_add, Int.add_assoc]
theorem len_mc {α : Type} {f : α → List D} (h : ∀ x, 1 ≤ mcR (f x)) : ∀ xs : List α, xs.length ≤ mcRs (xs.map f)
  | [] => Nat.zero_le _
  | x :: xs => by
    have h1 := h x
    have h2 := len_mc h xs
    rw [List.map_cons, mcRs, List.length_cons]
    omega
theorem sub_mk {P : Program} {f : FuncId} {S : Store} {l j r i o : Nat} {p : List (Nat × Nat)} {rs : List (List (List D))} {rows es new : List (List D)} {row : List D} {k : Int} {args : List V} {R : V}
    (hS : getO S (l, j) = some (.xf rs)) (hp : atR rs r p = some rows) (hi : i < rows.length) (h : row[o]? = some (.sl es))
    (hA : ∀ (S' : Store) (rs' : List (List (List D))), getO S' (1 + l, j) = some (.xf rs') → atR rs' r (p ++ [(i, o)]) = some es → ACall P f args S' (fun res S'' => res = R ∧ S'' = setO S' (1 + l, j) (.xf (updR rs' r (p ++ [(i, o)]) new)))) :
    ACall P f args ([] :: setO S (l, j) (.xf (updR rs r p (mkAt rows k i row)))) (fun res S'' => res = R ∧ S'' = [] :: setO S (l, j) (.xf (updR rs r p (mkAt rows k i (row.set o (.sl new)))))) := by
  refine (hA _ _ (by rw [getO_up1]; exact getO_setO_eq _ _ _ _ hS) (at_mkAt (k := k) hp hi h)).mono fun res S'' ⟨h1, h2⟩ => ⟨h1, ?_⟩
  rw [h2, setO_up1, setO_twice, upd_mkAt hp hi h]
theorem labRs_at : ∀ {rows : List (List D)} {n i : Nat} (hi : i < rows.length), (labRs rows n)[i]? = some (labR rows[i] (n + cntRs (rows.take i)))
  | r :: rows, n, 0, _ => by simp [labRs, cntRs]
  | r :: rows, n, i + 1, hi => by
    have := labRs_at (rows := rows) (n := n + cntR r) (i := i) (by simpa using hi)
    rw [labRs, List.getElem?_cons_succ, this, List.getElem_cons_succ, List.take_succ_cons, cntRs, Nat.add_assoc]
theorem mapM_toD : ∀ row : List D, (row.map C.d).mapM toD = some row
  | [] => rfl
  | d :: row => by
    have := mapM_toD row
    rw [List.map_cons, List.mapM_cons, this]; rfl
theorem dec_neg {a : Int} (h : 0 ≤ a) : decide (a < 0) = false := decide_eq_false (by omega)
end Go.Ab
namespace Go.Proofs.YtokcpelkieeddaaGreatDoor
open Go Go.Ab
theorem markText_ok (k : Int) (hk : -9223372036854775808 ≤ k ∧ k ≤ 4611686018427387904) : PCall Tryz.prog 166 [.c (.d (.i .i64 k))] (.c (.d (.s (mtext k)))) := fun S => by
  refine acall_cw (rs := [.tmp 2]) Tryz.checked.mixed Tryz.func166 Tryz.ntmps166 rfl rfl rfl rfl rfl ?_
  simp -implicitDefEqProofs (disch := omega) only [go_sem]
  with_reducible refine split2 (fun hb => ?_) (fun hb => ?_) <;> have h := hb <;> (try simp only [wf_preprocess] at h) <;> simp -implicitDefEqProofs (disch := omega) only [go_sem, hb] <;> (repeat (with_reducible refine And.intro ?_ ?_; focus first | omega | rfl | assumption | exact ⟨_, rfl, rfl⟩ | (simp; omega) | (simp; done)))
  · unfold mtext; rw [if_pos h]
  have hpos : ¬ k ≤ 0 := h
  refine loop_at (ι := Int × List UInt8) Tryz.checked.mixed rfl [0, 3] (fun y => [.c (.d (.i .i64 y.1)), .c (.d (.s y.2))]) (fun _ => [] :: S)
    (fun y => 0 ≤ y.1 ∧ mdig y.1.toNat y.2 = mdig k.toNat [] ∧ y.1 ≤ k ∧ y.1.toNat * 2 ^ y.2.length ≤ 4611686018427387904 ∧ y.2.length ≤ 63) (fun y => y.1.toNat) (k, []) rfl rfl ⟨by simp only; omega, rfl, by simp only; omega, by simp only [List.length_nil]; omega, by simp⟩ ?_
  rintro ⟨n, out⟩ ⟨p1, p2, p3, p4, p5⟩
  simp only at p1 p2 p3 p4 p5
  simp -implicitDefEqProofs (disch := omega) only [go_sem]
  with_reducible refine split2 (fun hb => ?_) (fun hb => ?_) <;> have h := hb <;> (try simp only [wf_preprocess] at h) <;> simp -implicitDefEqProofs (disch := omega) only [go_sem, hb] <;> (repeat (with_reducible refine And.intro ?_ ?_; focus first | omega | rfl | assumption | exact ⟨_, rfl, rfl⟩ | (simp; omega) | (simp; done)))
  · have hn : n.toNat ≠ 0 := by omega
    have hm := Int.tmod_nonneg 10 p1
    have hm2 := Int.tmod_lt_of_pos n (show (0 : Int) < 10 by omega)
    have hm3 : n.tmod 10 = (n.toNat % 10 : Nat) := by
      rw [Int.tmod_eq_emod_of_nonneg p1]
      omega
    have hq : n.tdiv 10 = (n.toNat / 10 : Nat) := by
      rw [Int.tdiv_eq_ediv_of_nonneg p1]
      omega
    have hlen : out.length ≤ 62 := by
      refine Nat.le_of_not_lt fun hgt => ?_
      have h1 : 2 ^ 63 ≤ 2 ^ out.length := Nat.pow_le_pow_right (by omega) (by omega)
      have h2 : 1 * 2 ^ out.length ≤ n.toNat * 2 ^ out.length := Nat.mul_le_mul_right _ (by omega)
      omega
    simp -implicitDefEqProofs (disch := omega) only [go_sem]
    have hc : UInt8.ofNat (IntKind.u8.wrap (48 + n.tmod 10)).toNat = UInt8.ofNat (48 + n.toNat % 10) := by
      rw [wrap_u8 _ (by omega), hm3]
      congr 1
    refine inv_at (ι := Int × List UInt8) (n.tdiv 10, UInt8.ofNat (48 + n.toNat % 10) :: out) (by simp only; omega) (by rw [← hc]; rfl) rfl ?_
    have hq2 : (n.tdiv 10).toNat = n.toNat / 10 := by omega
    refine ⟨by simp only; omega, ?_, by simp only; omega, ?_, by simp only [List.length_cons]; omega⟩
    · simp only
      rw [hq2, ← mdig_pos hn, p2]
    · simp only [List.length_cons]
      rw [hq2, Nat.pow_succ]
      have : n.toNat / 10 * 2 ≤ n.toNat := by omega
      calc n.toNat / 10 * (2 ^ out.length * 2) = n.toNat / 10 * 2 * 2 ^ out.length := by rw [Nat.mul_comm (2 ^ out.length) 2, Nat.mul_assoc]
        _ ≤ n.toNat * 2 ^ out.length := Nat.mul_le_mul_right _ this
        _ ≤ _ := p4
  · have : n.toNat = 0 := by omega
    rw [this, mdig_zero] at p2
    unfold mtext
    rw [if_neg hpos, p2]
end Go.Proofs.YtokcpelkieeddaaGreatDoor

namespace Go.Ab
theorem pl_encS (xs : List (List UInt8)) : plRs (xs.map encS) = true := plRs_map fun _ _ => rfl
theorem nw_encS (xs : List (List UInt8)) : nwRs (xs.map encS) = true := nwRs_map fun _ _ => ⟨rfl, by simp [encS]⟩
mutual
theorem MType.plw : ∀ x : MType, plR x.enc = true ∧ nwR x.enc = true
  | .mk a0 a1 a2 => by simp only [MType.enc, plR, plD, nwR, nwD, plR_append, nwR_append, Bool.and_true, Bool.true_and, Bool.and_self, and_self, and_true, true_and, (MType.plws a2).1, (MType.plws a2).2]
theorem MType.plws : ∀ xs : List MType, plRs (MType.encs xs) = true ∧ nwRs (MType.encs xs) = true
  | [] => ⟨rfl, rfl⟩
  | x :: xs => by
    have h : decide ((MType.enc x).length ≤ 32) = true := by rw [MType.enc_length]; rfl
    simp only [MType.encs, plRs, nwRs, h, (MType.plw x).1, (MType.plw x).2, (MType.plws xs).1, (MType.plws xs).2, Bool.and_self, and_self]
end
theorem MType.plms (xs : List MType) : plRs (xs.map MType.enc) = true ∧ nwRs (xs.map MType.enc) = true := by rw [← MType.encs_map]; exact MType.plws xs
theorem MBinding.plw (x : MBinding) : plR x.enc = true ∧ nwR x.enc = true := by
  rw [MBinding.enc_eq]; simp only [List.cons_append, List.nil_append, plR, plD, nwR, nwD, plR_append, nwR_append, Bool.and_true, Bool.true_and, Bool.and_self, and_self, and_true, true_and, (MType.plw x.fType).1, (MType.plw x.fType).2]
theorem MBinding.plms (xs : List MBinding) : plRs (xs.map MBinding.enc) = true ∧ nwRs (xs.map MBinding.enc) = true := ⟨plRs_map fun x _ => x.plw.1, nwRs_map fun x _ => ⟨x.plw.2, by rw [MBinding.enc_length]; decide⟩⟩
theorem MBound.plw (x : MBound) : plR x.enc = true ∧ nwR x.enc = true := by
  rw [MBound.enc_eq]; simp only [List.cons_append, List.nil_append, plR, plD, nwR, nwD, plR_append, nwR_append, Bool.and_true, Bool.true_and, Bool.and_self, and_self, and_true, true_and, (MType.plw x.fType).1, (MType.plw x.fType).2]
theorem MBound.plms (xs : List MBound) : plRs (xs.map MBound.enc) = true ∧ nwRs (xs.map MBound.enc) = true := ⟨plRs_map fun x _ => x.plw.1, nwRs_map fun x _ => ⟨x.plw.2, by rw [MBound.enc_length]; decide⟩⟩
mutual
theorem MExpr.plw : ∀ x : MExpr, plR x.enc = true ∧ nwR x.enc = true
  | .mk a0 a1 a2 a3 a4 a5 a6 => by simp only [MExpr.enc, plR, plD, nwR, nwD, plR_append, nwR_append, Bool.and_true, Bool.true_and, Bool.and_self, and_self, and_true, true_and, (MType.plw a4).1, (MType.plw a4).2, (MExpr.plws a5).1, (MExpr.plws a5).2, (MArm.plws a6).1, (MArm.plws a6).2]
theorem MExpr.plws : ∀ xs : List MExpr, plRs (MExpr.encs xs) = true ∧ nwRs (MExpr.encs xs) = true
  | [] => ⟨rfl, rfl⟩
  | x :: xs => by
    have h : decide ((MExpr.enc x).length ≤ 32) = true := by rw [MExpr.enc_length]; rfl
    simp only [MExpr.encs, plRs, nwRs, h, (MExpr.plw x).1, (MExpr.plw x).2, (MExpr.plws xs).1, (MExpr.plws xs).2, Bool.and_self, and_self]
theorem MArm.plw : ∀ x : MArm, plR x.enc = true ∧ nwR x.enc = true
  | .mk a0 a1 a2 => by simp only [MArm.enc, plR, plD, nwR, nwD, plR_append, nwR_append, Bool.and_true, Bool.true_and, Bool.and_self, and_self, and_true, true_and, pl_encS a1, nw_encS a1, (MExpr.plw a2).1, (MExpr.plw a2).2]
theorem MArm.plws : ∀ xs : List MArm, plRs (MArm.encs xs) = true ∧ nwRs (MArm.encs xs) = true
  | [] => ⟨rfl, rfl⟩
  | x :: xs => by
    have h : decide ((MArm.enc x).length ≤ 32) = true := by rw [MArm.enc_length]; rfl
    simp only [MArm.encs, plRs, nwRs, h, (MArm.plw x).1, (MArm.plw x).2, (MArm.plws xs).1, (MArm.plws xs).2, Bool.and_self, and_self]
end
theorem MExpr.plms (xs : List MExpr) : plRs (xs.map MExpr.enc) = true ∧ nwRs (xs.map MExpr.enc) = true := by rw [← MExpr.encs_map]; exact MExpr.plws xs
theorem MArm.plms (xs : List MArm) : plRs (xs.map MArm.enc) = true ∧ nwRs (xs.map MArm.enc) = true := by rw [← MArm.encs_map]; exact MArm.plws xs
mutual
theorem MSExpr.plw : ∀ x : MSExpr, plR x.enc = true ∧ nwR x.enc = true
  | .mk a0 a1 => by simp only [MSExpr.enc, plR, plD, nwR, nwD, plR_append, nwR_append, Bool.and_true, Bool.true_and, Bool.and_self, and_self, and_true, true_and, (MSExpr.plws a1).1, (MSExpr.plws a1).2]
theorem MSExpr.plws : ∀ xs : List MSExpr, plRs (MSExpr.encs xs) = true ∧ nwRs (MSExpr.encs xs) = true
  | [] => ⟨rfl, rfl⟩
  | x :: xs => by
    have h : decide ((MSExpr.enc x).length ≤ 32) = true := by rw [MSExpr.enc_length]; rfl
    simp only [MSExpr.encs, plRs, nwRs, h, (MSExpr.plw x).1, (MSExpr.plw x).2, (MSExpr.plws xs).1, (MSExpr.plws xs).2, Bool.and_self, and_self]
end
theorem MSExpr.plms (xs : List MSExpr) : plRs (xs.map MSExpr.enc) = true ∧ nwRs (xs.map MSExpr.enc) = true := by rw [← MSExpr.encs_map]; exact MSExpr.plws xs
theorem MSignature.plw (x : MSignature) : plR x.enc = true ∧ nwR x.enc = true := by
  rw [MSignature.enc_eq]; simp only [List.cons_append, List.nil_append, plR, plD, nwR, nwD, plR_append, nwR_append, Bool.and_true, Bool.true_and, Bool.and_self, and_self, and_true, true_and, (MType.plms x.fParams).1, (MType.plms x.fParams).2, (MType.plw x.fResult).1, (MType.plw x.fResult).2, pl_encS x.fVars, nw_encS x.fVars, (MExpr.plw x.fBody).1, (MExpr.plw x.fBody).2]
theorem MSignature.plms (xs : List MSignature) : plRs (xs.map MSignature.enc) = true ∧ nwRs (xs.map MSignature.enc) = true := ⟨plRs_map fun x _ => x.plw.1, nwRs_map fun x _ => ⟨x.plw.2, by rw [MSignature.enc_length]; decide⟩⟩
theorem MTrait.plw (x : MTrait) : plR x.enc = true ∧ nwR x.enc = true := by
  rw [MTrait.enc_eq]; simp only [List.cons_append, List.nil_append, plR, plD, nwR, nwD, plR_append, nwR_append, Bool.and_true, Bool.true_and, Bool.and_self, and_self, and_true, true_and, pl_encS x.fSupertraits, nw_encS x.fSupertraits, (MSignature.plms x.fSignatures).1, (MSignature.plms x.fSignatures).2]
theorem MTrait.plms (xs : List MTrait) : plRs (xs.map MTrait.enc) = true ∧ nwRs (xs.map MTrait.enc) = true := ⟨plRs_map fun x _ => x.plw.1, nwRs_map fun x _ => ⟨x.plw.2, by rw [MTrait.enc_length]; decide⟩⟩
theorem MConstructor.plw (x : MConstructor) : plR x.enc = true ∧ nwR x.enc = true := by
  rw [MConstructor.enc_eq]; simp only [List.cons_append, List.nil_append, plR, plD, nwR, nwD, plR_append, nwR_append, Bool.and_true, Bool.true_and, Bool.and_self, and_self, and_true, true_and, (MType.plms x.fFields).1, (MType.plms x.fFields).2]
theorem MConstructor.plms (xs : List MConstructor) : plRs (xs.map MConstructor.enc) = true ∧ nwRs (xs.map MConstructor.enc) = true := ⟨plRs_map fun x _ => x.plw.1, nwRs_map fun x _ => ⟨x.plw.2, by rw [MConstructor.enc_length]; decide⟩⟩
theorem MDataType.plw (x : MDataType) : plR x.enc = true ∧ nwR x.enc = true := by
  rw [MDataType.enc_eq]; simp only [List.cons_append, List.nil_append, plR, plD, nwR, nwD, plR_append, nwR_append, Bool.and_true, Bool.true_and, Bool.and_self, and_self, and_true, true_and, pl_encS x.fVars, nw_encS x.fVars, (MConstructor.plms x.fConstructors).1, (MConstructor.plms x.fConstructors).2]
theorem MDataType.plms (xs : List MDataType) : plRs (xs.map MDataType.enc) = true ∧ nwRs (xs.map MDataType.enc) = true := ⟨plRs_map fun x _ => x.plw.1, nwRs_map fun x _ => ⟨x.plw.2, by rw [MDataType.enc_length]; decide⟩⟩
theorem MMethod.plw (x : MMethod) : plR x.enc = true ∧ nwR x.enc = true := by
  rw [MMethod.enc_eq]; simp only [List.cons_append, List.nil_append, plR, plD, nwR, nwD, plR_append, nwR_append, Bool.and_true, Bool.true_and, Bool.and_self, and_self, and_true, true_and, pl_encS x.fVars, nw_encS x.fVars, (MExpr.plw x.fBody).1, (MExpr.plw x.fBody).2]
theorem MMethod.plms (xs : List MMethod) : plRs (xs.map MMethod.enc) = true ∧ nwRs (xs.map MMethod.enc) = true := ⟨plRs_map fun x _ => x.plw.1, nwRs_map fun x _ => ⟨x.plw.2, by rw [MMethod.enc_length]; decide⟩⟩
theorem MInstance.plw (x : MInstance) : plR x.enc = true ∧ nwR x.enc = true := by
  rw [MInstance.enc_eq]; simp only [List.cons_append, List.nil_append, plR, plD, nwR, nwD, plR_append, nwR_append, Bool.and_true, Bool.true_and, Bool.and_self, and_self, and_true, true_and, pl_encS x.fVars, nw_encS x.fVars, (MType.plw x.fHead).1, (MType.plw x.fHead).2, (MBound.plms x.fWhere).1, (MBound.plms x.fWhere).2, (MType.plw x.fAssoc).1, (MType.plw x.fAssoc).2, (MMethod.plms x.fMethods).1, (MMethod.plms x.fMethods).2]
theorem MInstance.plms (xs : List MInstance) : plRs (xs.map MInstance.enc) = true ∧ nwRs (xs.map MInstance.enc) = true := ⟨plRs_map fun x _ => x.plw.1, nwRs_map fun x _ => ⟨x.plw.2, by rw [MInstance.enc_length]; decide⟩⟩
theorem MParam.plw (x : MParam) : plR x.enc = true ∧ nwR x.enc = true := by
  rw [MParam.enc_eq]; simp only [List.cons_append, List.nil_append, plR, plD, nwR, nwD, plR_append, nwR_append, Bool.and_true, Bool.true_and, Bool.and_self, and_self, and_true, true_and, (MType.plw x.fType).1, (MType.plw x.fType).2]
theorem MParam.plms (xs : List MParam) : plRs (xs.map MParam.enc) = true ∧ nwRs (xs.map MParam.enc) = true := ⟨plRs_map fun x _ => x.plw.1, nwRs_map fun x _ => ⟨x.plw.2, by rw [MParam.enc_length]; decide⟩⟩
theorem MFunction.plw (x : MFunction) : plR x.enc = true ∧ nwR x.enc = true := by
  rw [MFunction.enc_eq]; simp only [List.cons_append, List.nil_append, plR, plD, nwR, nwD, plR_append, nwR_append, Bool.and_true, Bool.true_and, Bool.and_self, and_self, and_true, true_and, pl_encS x.fVars, nw_encS x.fVars, (MBound.plms x.fWhere).1, (MBound.plms x.fWhere).2, (MParam.plms x.fParams).1, (MParam.plms x.fParams).2, (MType.plw x.fResult).1, (MType.plw x.fResult).2, (MExpr.plw x.fBody).1, (MExpr.plw x.fBody).2]
theorem MFunction.plms (xs : List MFunction) : plRs (xs.map MFunction.enc) = true ∧ nwRs (xs.map MFunction.enc) = true := ⟨plRs_map fun x _ => x.plw.1, nwRs_map fun x _ => ⟨x.plw.2, by rw [MFunction.enc_length]; decide⟩⟩
theorem MPackage.plw (x : MPackage) : plR x.enc = true ∧ nwR x.enc = true := by
  rw [MPackage.enc_eq]; simp only [List.cons_append, List.nil_append, plR, plD, nwR, nwD, plR_append, nwR_append, Bool.and_true, Bool.true_and, Bool.and_self, and_self, and_true, true_and, pl_encS x.fDeps, nw_encS x.fDeps, (MTrait.plms x.fTraits).1, (MTrait.plms x.fTraits).2, (MDataType.plms x.fDataTypes).1, (MDataType.plms x.fDataTypes).2, (MInstance.plms x.fInstances).1, (MInstance.plms x.fInstances).2, (MFunction.plms x.fFunctions).1, (MFunction.plms x.fFunctions).2]
theorem MPackage.plms (xs : List MPackage) : plRs (xs.map MPackage.enc) = true ∧ nwRs (xs.map MPackage.enc) = true := ⟨plRs_map fun x _ => x.plw.1, nwRs_map fun x _ => ⟨x.plw.2, by rw [MPackage.enc_length]; decide⟩⟩
theorem MProgram.plw (x : MProgram) : plR x.enc = true ∧ nwR x.enc = true := by
  rw [MProgram.enc_eq]; simp only [List.cons_append, List.nil_append, plR, plD, nwR, nwD, plR_append, nwR_append, Bool.and_true, Bool.true_and, Bool.and_self, and_self, and_true, true_and, (MPackage.plms x.fPackages).1, (MPackage.plms x.fPackages).2]
theorem MProgram.plms (xs : List MProgram) : plRs (xs.map MProgram.enc) = true ∧ nwRs (xs.map MProgram.enc) = true := ⟨plRs_map fun x _ => x.plw.1, nwRs_map fun x _ => ⟨x.plw.2, by rw [MProgram.enc_length]; decide⟩⟩
theorem MInstanceRef.plw (x : MInstanceRef) : plR x.enc = true ∧ nwR x.enc = true := by
  rw [MInstanceRef.enc_eq]; simp only [List.cons_append, List.nil_append, plR, plD, nwR, nwD, plR_append, nwR_append, Bool.and_true, Bool.true_and, Bool.and_self, and_self, and_true, true_and]
theorem MInstanceRef.plms (xs : List MInstanceRef) : plRs (xs.map MInstanceRef.enc) = true ∧ nwRs (xs.map MInstanceRef.enc) = true := ⟨plRs_map fun x _ => x.plw.1, nwRs_map fun x _ => ⟨x.plw.2, by rw [MInstanceRef.enc_length]; decide⟩⟩
end Go.Ab

namespace Go.Proofs.YtokcpelkieeddaaGreatDoor
open Go Go.Ab
theorem eqSExpr_all : ∀ n : Nat, (∀ x : MSExpr, SizeOf.sizeOf x < n → ∀ y : MSExpr, x.sz ≤ 1048576 → PCall Tryz.prog 15 [x.v, y.v] (.c (.d (.b (dec (x = y)))))) ∧
    (∀ xs : List MSExpr, SizeOf.sizeOf xs < n → ∀ ys : List MSExpr, xs.length + szRows (xs.map MSExpr.enc) ≤ 1048576 → PCall Tryz.prog 65 [.c (.d (.sl (xs.map MSExpr.enc))), .c (.d (.sl (ys.map MSExpr.enc)))] (.c (.d (.b (dec (xs = ys))))))
  | 0 => ⟨fun x h => by omega, fun x h => by omega⟩
  | n + 1 => by
    obtain ⟨ihSExpr, ihSSExpr⟩ := eqSExpr_all n
    refine ⟨fun x hn y hsz S => ?_, fun xs hn ys hsz S => ?_⟩
    · have lList := MSExpr.lt_List x
      simp only [MSExpr.sz, MSExpr.enc_eq, szRow, szRow_append, D.sz, List.length_map] at hsz
      refine acall_cw (rs := [.tmp 4]) Tryz.checked.mixed Tryz.func15 Tryz.ntmps15 rfl rfl rfl rfl rfl ?_
      simp -implicitDefEqProofs (disch := omega) only [go_sem]
      with_reducible refine split2 (fun hb => ?_) (fun hb => ?_) <;> have h := hb <;> (try simp only [wf_preprocess] at h) <;> simp -implicitDefEqProofs (disch := omega) only [go_sem, hb] <;> (repeat (with_reducible refine And.intro ?_ ?_; focus first | omega | rfl | assumption | exact ⟨_, rfl, rfl⟩ | (simp; omega) | (simp; done)))
      · exact bool_eq (dec_false (fun e => h (by rw [e]))).symm
      have eAtom := h
      clear h
      refine call_w (ihSSExpr x.fList (by omega) _ (by omega)) ?_
      simp -implicitDefEqProofs (disch := omega) only [go_sem]
      with_reducible refine split2 (fun hb => ?_) (fun hb => ?_) <;> have h := hb <;> (try simp only [wf_preprocess] at h) <;> simp -implicitDefEqProofs (disch := omega) only [go_sem, hb] <;> (repeat (with_reducible refine And.intro ?_ ?_; focus first | omega | rfl | assumption | exact ⟨_, rfl, rfl⟩ | (simp; omega) | (simp; done)))
      · exact bool_eq (dec_false (fun e => h (by rw [e]))).symm
      have eList := h
      clear h
      exact bool_eq (dec_true (MSExpr.ext eAtom eList)).symm
    · refine acall_cw (rs := [.tmp 4]) Tryz.checked.mixed Tryz.func65 Tryz.ntmps65 rfl rfl rfl rfl rfl ?_
      simp -implicitDefEqProofs (disch := omega) only [go_sem]
      with_reducible refine split2 (fun hb => ?_) (fun hb => ?_) <;> have h := hb <;> (try simp only [wf_preprocess] at h) <;> simp -implicitDefEqProofs (disch := omega) only [go_sem, hb] <;> (repeat (with_reducible refine And.intro ?_ ?_; focus first | omega | rfl | assumption | exact ⟨_, rfl, rfl⟩ | (simp; omega) | (simp; done)))
      · exact bool_eq (dec_false (fun e => h (by rw [e]))).symm
      have hl : xs.length = ys.length := by omega
      refine loop_at (ι := Nat) Tryz.checked.mixed rfl [0, 1, 5] (fun y => [.c (.d (.sl (xs.map MSExpr.enc))), .c (.d (.sl (ys.map MSExpr.enc))), .c (.d (.i .i64 y))]) (fun y => [] :: S)
        (fun i => i ≤ xs.length ∧ ∀ j, j < i → xs[j]? = ys[j]?) (fun y => xs.length - y) 0 rfl rfl ⟨Nat.zero_le _, fun j h => by omega⟩ ?_
      rintro i ⟨p1, p2⟩
      simp -implicitDefEqProofs (disch := omega) only [go_sem]
      with_reducible refine split2 (fun hb => ?_) (fun hb => ?_) <;> have h := hb <;> (try simp only [wf_preprocess] at h) <;> simp -implicitDefEqProofs (disch := omega) only [go_sem, hb] <;> (repeat (with_reducible refine And.intro ?_ ?_; focus first | omega | rfl | assumption | exact ⟨_, rfl, rfl⟩ | (simp; omega) | (simp; done)))
      · have hi : i < xs.length := by omega
        have hi' : i < ys.length := by omega
        have hx : xs[i].sz ≤ szRows (xs.map MSExpr.enc) := szRows_mem (List.mem_map_of_mem (List.getElem_mem hi))
        (repeat (with_reducible refine And.intro ?_ ?_; focus first | omega | rfl | assumption | exact ⟨_, rfl, rfl⟩ | (simp; omega) | (simp; done)))
        refine call_w (ihSExpr xs[i] (by have := List.sizeOf_lt_of_mem (List.getElem_mem hi); omega) ys[i] (by omega)) ?_
        simp -implicitDefEqProofs (disch := omega) only [go_sem]
        with_reducible refine split2 (fun hb => ?_) (fun hb => ?_) <;> have h := hb <;> (try simp only [wf_preprocess] at h) <;> simp -implicitDefEqProofs (disch := omega) only [go_sem, hb] <;> (repeat (with_reducible refine And.intro ?_ ?_; focus first | omega | rfl | assumption | exact ⟨_, rfl, rfl⟩ | (simp; omega) | (simp; done)))
        · exact bool_eq (dec_false (fun e => h (by simp only [e]))).symm
        refine inv_at (i + 1) (by omega) rfl rfl ⟨by omega, fun j hj => ?_⟩
        by_cases e : j = i
        · subst e
          rw [List.getElem?_eq_getElem hi, List.getElem?_eq_getElem hi', h]
        · exact p2 j (by omega)
      · have hi : i = xs.length := by omega
        refine bool_eq (dec_true (List.ext_getElem? fun j => ?_)).symm
        by_cases hj : j < i
        · exact p2 j hj
        · rw [List.getElem?_eq_none (by omega), List.getElem?_eq_none (by omega)]
theorem eqSExpr_ok (x : MSExpr) : ∀ y : MSExpr, x.sz ≤ 1048576 → PCall Tryz.prog 15 [x.v, y.v] (.c (.d (.b (dec (x = y))))) := (eqSExpr_all _).1 x (Nat.lt_succ_self _)
end Go.Proofs.YtokcpelkieeddaaGreatDoor

namespace Go.Proofs.YtokcpelkieeddaaGreatDoor
open Go Go.Ab
theorem szSignature_ok (x : MSignature) : ∀ left : Int, 0 ≤ left → left ≤ 1048576 → FitL x.enc → PCall Tryz.prog 187 [x.v, .c (.d (.i .i64 left))] (.c (.d (.i .i64 (sub1 left x.sz)))) := by
  intro left h0 h1 hf S
  simp only [MSignature.enc_eq, List.cons_append, List.nil_append, fitL_cons, fitL_append, fitL_nil_iff, and_true] at hf
  obtain ⟨fName, fParams, fResult, fHasDefault, fVars, fBody⟩ := hf
  have hz : x.sz = x.fName.length + ((x.fParams.length + szRows (x.fParams.map MType.enc)) + (x.fResult.sz + ((x.fVars.length + szRows (x.fVars.map encS)) + (x.fBody.sz)))) := by
    simp only [MSignature.sz, MSignature.enc_eq, szRow, szRow_append, D.sz, List.length_map, Nat.add_zero, Nat.zero_add, MExpr.sz_def, MType.sz_def] <;> omega
  refine acall_cw (rs := [.tmp 4]) Tryz.checked.mixed Tryz.func187 Tryz.ntmps187 rfl rfl rfl rfl rfl ?_
  rw [hz]
  have gName := fit_s fName
  simp -implicitDefEqProofs (disch := omega) only [go_sem]
  with_reducible refine split2 (fun hb => ?_) (fun hb => ?_) <;> have h := hb <;> (try simp only [wf_preprocess] at h) <;> simp -implicitDefEqProofs (disch := omega) only [go_sem, hb] <;> (repeat (with_reducible refine And.intro ?_ ?_; focus first | omega | rfl | assumption | exact ⟨_, rfl, rfl⟩ | (simp; omega) | (simp; done)))
  · exact int_eq (sub1_no (by omega)).symm
  refine call_w (szTypeS_ok x.fParams _ (by omega) (by omega) fParams) ?_
  simp -implicitDefEqProofs (disch := omega) only [go_sem]
  with_reducible refine split2 (fun hb => ?_) (fun hb => ?_) <;> have h := hb <;> (try simp only [wf_preprocess] at h) <;> simp -implicitDefEqProofs (disch := omega) only [go_sem, hb] <;> (repeat (with_reducible refine And.intro ?_ ?_; focus first | omega | rfl | assumption | exact ⟨_, rfl, rfl⟩ | (simp; omega) | (simp; done)))
  · have h' := sub1_neg h
    exact int_eq (sub1_no (by omega)).symm
  have hParams := sub1_nn h
  simp only [hParams.1]
  refine call_w (szType_ok x.fResult _ (by omega) (by omega) fResult) ?_
  simp -implicitDefEqProofs (disch := omega) only [go_sem]
  with_reducible refine split2 (fun hb => ?_) (fun hb => ?_) <;> have h := hb <;> (try simp only [wf_preprocess] at h) <;> simp -implicitDefEqProofs (disch := omega) only [go_sem, hb] <;> (repeat (with_reducible refine And.intro ?_ ?_; focus first | omega | rfl | assumption | exact ⟨_, rfl, rfl⟩ | (simp; omega) | (simp; done)))
  · have h' := sub1_neg h
    exact int_eq (sub1_no (by omega)).symm
  have hResult := sub1_nn h
  simp only [hResult.1]
  refine call_w (szStringS_ok x.fVars _ (by omega) (by omega) fVars) ?_
  simp -implicitDefEqProofs (disch := omega) only [go_sem]
  with_reducible refine split2 (fun hb => ?_) (fun hb => ?_) <;> have h := hb <;> (try simp only [wf_preprocess] at h) <;> simp -implicitDefEqProofs (disch := omega) only [go_sem, hb] <;> (repeat (with_reducible refine And.intro ?_ ?_; focus first | omega | rfl | assumption | exact ⟨_, rfl, rfl⟩ | (simp; omega) | (simp; done)))
  · have h' := sub1_neg h
    exact int_eq (sub1_no (by omega)).symm
  have hVars := sub1_nn h
  simp only [hVars.1]
  refine call_w (szExpr_ok x.fBody _ (by omega) (by omega) fBody) ?_
  simp -implicitDefEqProofs (disch := omega) only [go_sem]
  with_reducible refine split2 (fun hb => ?_) (fun hb => ?_) <;> have h := hb <;> (try simp only [wf_preprocess] at h) <;> simp -implicitDefEqProofs (disch := omega) only [go_sem, hb] <;> (repeat (with_reducible refine And.intro ?_ ?_; focus first | omega | rfl | assumption | exact ⟨_, rfl, rfl⟩ | (simp; omega) | (simp; done)))
  · have h' := sub1_neg h
    exact int_eq (sub1_no (by omega)).symm
  have hBody := sub1_nn h
  simp only [hBody.1]
  refine int_eq ?_
  rw [sub1_yes (by omega)]
  omega
theorem szSignatureS_ok (xs : List MSignature) : ∀ left : Int, 0 ≤ left → left ≤ 1048576 → (D.sl (xs.map MSignature.enc)).Fit → PCall Tryz.prog 95 [.c (.d (.sl (xs.map MSignature.enc))), .c (.d (.i .i64 left))] (.c (.d (.i .i64 (sub1 left (xs.length + szRows (xs.map MSignature.enc)))))) := by
  intro left h0 h1 hf S
  obtain ⟨hf1, hf2⟩ := fit_sl hf
  rw [List.length_map] at hf1
  refine acall_cw (rs := [.tmp 4]) Tryz.checked.mixed Tryz.func95 Tryz.ntmps95 rfl rfl rfl rfl rfl ?_
  simp -implicitDefEqProofs (disch := omega) only [go_sem]
  with_reducible refine split2 (fun hb => ?_) (fun hb => ?_) <;> have h := hb <;> (try simp only [wf_preprocess] at h) <;> simp -implicitDefEqProofs (disch := omega) only [go_sem, hb] <;> (repeat (with_reducible refine And.intro ?_ ?_; focus first | omega | rfl | assumption | exact ⟨_, rfl, rfl⟩ | (simp; omega) | (simp; done)))
  · exact int_eq (sub1_no (by omega)).symm
  refine loop_at (ι := Nat × Int) Tryz.checked.mixed rfl [0, 1, 5] (fun y => [.c (.d (.sl (xs.map MSignature.enc))), .c (.d (.i .i64 y.2)), .c (.d (.i .i64 y.1))]) (fun _ => [] :: S)
    (fun y => y.1 ≤ xs.length ∧ 0 ≤ y.2 ∧ y.2 ≤ 1048576 ∧ sub1 y.2 (szRows ((xs.map MSignature.enc).drop y.1)) = sub1 left (xs.length + szRows (xs.map MSignature.enc))) (fun y => xs.length - y.1) (0, left - xs.length) rfl rfl ⟨by omega, by omega, by omega, ?_⟩ ?_
  · unfold sub1
    rw [List.drop_zero]
    split <;> split <;> omega
  rintro ⟨i, l⟩ ⟨p1, p2, p3, p4⟩
  simp only at p1 p2 p3 p4
  simp -implicitDefEqProofs (disch := omega) only [go_sem]
  with_reducible refine split2 (fun hb => ?_) (fun hb => ?_) <;> have h := hb <;> (try simp only [wf_preprocess] at h) <;> simp -implicitDefEqProofs (disch := omega) only [go_sem, hb] <;> (repeat (with_reducible refine And.intro ?_ ?_; focus first | omega | rfl | assumption | exact ⟨_, rfl, rfl⟩ | (simp; omega) | (simp; done)))
  · have hi : i < xs.length := by omega
    rw [List.drop_eq_getElem_cons (by rw [List.length_map]; exact hi), szRows, List.getElem_map, MSignature.sz_def] at p4
    (repeat (with_reducible refine And.intro ?_ ?_; focus first | omega | rfl | assumption | exact ⟨_, rfl, rfl⟩ | (simp; omega) | (simp; done)))
    refine call_w (szSignature_ok xs[i] _ (by omega) (by omega) (hf2 _ (List.mem_map_of_mem (List.getElem_mem hi)))) ?_
    simp -implicitDefEqProofs (disch := omega) only [go_sem]
    with_reducible refine split2 (fun hb => ?_) (fun hb => ?_) <;> have h := hb <;> (try simp only [wf_preprocess] at h) <;> simp -implicitDefEqProofs (disch := omega) only [go_sem, hb] <;> (repeat (with_reducible refine And.intro ?_ ?_; focus first | omega | rfl | assumption | exact ⟨_, rfl, rfl⟩ | (simp; omega) | (simp; done)))
    · have h' := sub1_neg h
      rw [← p4, sub1_no (by omega)]
    · have h' := sub1_nn h
      refine inv_at (i + 1, sub1 l _) (by simp only; omega) rfl rfl ⟨by simp only; omega, by simp only; omega, by simp only; omega, ?_⟩
      simp only
      rw [← p4, h'.1]
      unfold sub1
      split <;> split <;> omega
  · have hi : i = xs.length := by omega
    rw [hi, List.drop_of_length_le (by simp), szRows, sub1_yes (by omega)] at p4
    rw [← p4]
    refine int_eq ?_
    omega
theorem toSignature_ok (x : MSignature) : x.sz ≤ 1048576 → PCall Tryz.prog 189 [x.v] x.v := by
  intro hsz S
  simp only [MSignature.sz, MSignature.enc_eq, szRow, szRow_append, D.sz, List.length_map, MExpr.sz_def, MType.sz_def] at hsz
  refine acall_cw (rs := [.cell 2 154]) Tryz.checked.mixed Tryz.func189 Tryz.ntmps189 rfl rfl rfl rfl rfl ?_
  simp -implicitDefEqProofs (disch := omega) only [go_sem]
  refine call_w (toTypeS_ok x.fParams (by omega)) ?_
  simp -implicitDefEqProofs (disch := omega) only [go_sem]
  refine call_w (toType_ok x.fResult (by omega)) ?_
  simp -implicitDefEqProofs (disch := omega) only [go_sem]
  refine call_w (toStringS_ok x.fVars (by omega)) ?_
  simp -implicitDefEqProofs (disch := omega) only [go_sem]
  refine call_w (toExpr_ok x.fBody (by omega)) ?_
  simp -implicitDefEqProofs (disch := omega) only [go_sem]
theorem toSignatureS_ok (xs : List MSignature) : xs.length + szRows (xs.map MSignature.enc) ≤ 1048576 → PCall Tryz.prog 98 [.c (.d (.sl (xs.map MSignature.enc)))] (.c (.d (.sl (xs.map MSignature.enc)))) := by
  intro hsz S
  refine acall_cw (rs := [.tmp 2]) Tryz.checked.mixed Tryz.func98 Tryz.ntmps98 rfl rfl rfl rfl rfl ?_
  simp -implicitDefEqProofs (disch := omega) only [go_sem]
  (repeat (with_reducible refine And.intro ?_ ?_; focus first | omega | rfl | assumption | exact ⟨_, rfl, rfl⟩ | (simp; omega) | (simp; done)))
  refine loop_at (ι := Nat × List (List D)) Tryz.checked.mixed rfl [0, 3, 4] (fun y => [.c (.d (.sl (xs.map MSignature.enc))), .c (.msl (0, 0)), .c (.d (.i .i64 y.1))]) (fun y => [.mrow 16 y.2] :: S)
    (fun y => y.1 ≤ xs.length ∧ Filled 16 y.1 y.2 (xs.map MSignature.enc)) (fun y => xs.length - y.1) (0, _) rfl rfl ⟨Nat.zero_le _, Filled.start (by simp) rfl⟩ ?_
  rintro ⟨i, R⟩ ⟨p1, p2⟩
  simp only at p1 p2
  simp -implicitDefEqProofs (disch := omega) only [go_sem]
  with_reducible refine split2 (fun hb => ?_) (fun hb => ?_) <;> have h := hb <;> (try simp only [wf_preprocess] at h) <;> simp -implicitDefEqProofs (disch := omega) only [go_sem, hb] <;> (repeat (with_reducible refine And.intro ?_ ?_; focus first | omega | rfl | assumption | exact ⟨_, rfl, rfl⟩ | (simp; omega) | (simp; done)))
  · have hi : i < xs.length := by omega
    have hx : xs[i].sz ≤ szRows (xs.map MSignature.enc) := szRows_mem (List.mem_map_of_mem (List.getElem_mem hi))
    (repeat (with_reducible refine And.intro ?_ ?_; focus first | omega | rfl | assumption | exact ⟨_, rfl, rfl⟩ | (simp; omega) | (simp; done)))
    refine call_w (toSignature_ok xs[i] (by omega)) ?_
    simp -implicitDefEqProofs (disch := omega) only [go_sem]
    have hR := p2.1
    rw [List.length_map] at hR
    (repeat (with_reducible refine And.intro ?_ ?_; focus first | omega | rfl | assumption | exact ⟨_, rfl, rfl⟩ | (simp; omega) | (simp; done)))
    refine inv_at (i + 1, _) (by simp only; omega) rfl rfl ⟨by simp only; omega, p2.step (by simp [hi, MExpr.enc_eq, MSignature.enc_eq, MType.enc_eq]) rfl⟩
  · have hi : i = xs.length := by omega
    rw [p2.done (by rw [List.length_map]; omega)]
theorem eqSignature_ok (x : MSignature) : ∀ y : MSignature, x.sz ≤ 1048576 → PCall Tryz.prog 193 [x.v, y.v] (.c (.d (.b (dec (x = y))))) := by
  intro y hsz S
  simp only [MSignature.sz, MSignature.enc_eq, szRow, szRow_append, D.sz, List.length_map, MExpr.sz_def, MType.sz_def] at hsz
  refine acall_cw (rs := [.tmp 4]) Tryz.checked.mixed Tryz.func193 Tryz.ntmps193 rfl rfl rfl rfl rfl ?_
  simp -implicitDefEqProofs (disch := omega) only [go_sem]
  with_reducible refine split2 (fun hb => ?_) (fun hb => ?_) <;> have h := hb <;> (try simp only [wf_preprocess] at h) <;> simp -implicitDefEqProofs (disch := omega) only [go_sem, hb] <;> (repeat (with_reducible refine And.intro ?_ ?_; focus first | omega | rfl | assumption | exact ⟨_, rfl, rfl⟩ | (simp; omega) | (simp; done)))
  · exact bool_eq (dec_false (fun e => h (by rw [e]))).symm
  have eName := h
  clear h
  refine call_w (eqTypeS_ok x.fParams _ (by omega)) ?_
  simp -implicitDefEqProofs (disch := omega) only [go_sem]
  with_reducible refine split2 (fun hb => ?_) (fun hb => ?_) <;> have h := hb <;> (try simp only [wf_preprocess] at h) <;> simp -implicitDefEqProofs (disch := omega) only [go_sem, hb] <;> (repeat (with_reducible refine And.intro ?_ ?_; focus first | omega | rfl | assumption | exact ⟨_, rfl, rfl⟩ | (simp; omega) | (simp; done)))
  · exact bool_eq (dec_false (fun e => h (by rw [e]))).symm
  have eParams := h
  clear h
  refine call_w (eqType_ok x.fResult _ (by omega)) ?_
  simp -implicitDefEqProofs (disch := omega) only [go_sem]
  with_reducible refine split2 (fun hb => ?_) (fun hb => ?_) <;> have h := hb <;> (try simp only [wf_preprocess] at h) <;> simp -implicitDefEqProofs (disch := omega) only [go_sem, hb] <;> (repeat (with_reducible refine And.intro ?_ ?_; focus first | omega | rfl | assumption | exact ⟨_, rfl, rfl⟩ | (simp; omega) | (simp; done)))
  · exact bool_eq (dec_false (fun e => h (by rw [e]))).symm
  have eResult := h
  clear h
  with_reducible refine split2 (fun hb => ?_) (fun hb => ?_) <;> have h := hb <;> (try simp only [wf_preprocess] at h) <;> simp -implicitDefEqProofs (disch := omega) only [go_sem, hb] <;> (repeat (with_reducible refine And.intro ?_ ?_; focus first | omega | rfl | assumption | exact ⟨_, rfl, rfl⟩ | (simp; omega) | (simp; done)))
  · exact bool_eq (dec_false (fun e => h (by rw [e]))).symm
  have eHasDefault := h
  clear h
  refine call_w (eqStringS_ok x.fVars _ (by omega)) ?_
  simp -implicitDefEqProofs (disch := omega) only [go_sem]
  with_reducible refine split2 (fun hb => ?_) (fun hb => ?_) <;> have h := hb <;> (try simp only [wf_preprocess] at h) <;> simp -implicitDefEqProofs (disch := omega) only [go_sem, hb] <;> (repeat (with_reducible refine And.intro ?_ ?_; focus first | omega | rfl | assumption | exact ⟨_, rfl, rfl⟩ | (simp; omega) | (simp; done)))
  · exact bool_eq (dec_false (fun e => h (by rw [e]))).symm
  have eVars := h
  clear h
  refine call_w (eqExpr_ok x.fBody _ (by omega)) ?_
  simp -implicitDefEqProofs (disch := omega) only [go_sem]
  with_reducible refine split2 (fun hb => ?_) (fun hb => ?_) <;> have h := hb <;> (try simp only [wf_preprocess] at h) <;> simp -implicitDefEqProofs (disch := omega) only [go_sem, hb] <;> (repeat (with_reducible refine And.intro ?_ ?_; focus first | omega | rfl | assumption | exact ⟨_, rfl, rfl⟩ | (simp; omega) | (simp; done)))
  · exact bool_eq (dec_false (fun e => h (by rw [e]))).symm
  have eBody := h
  clear h
  exact bool_eq (dec_true (MSignature.ext' eName eParams eResult eHasDefault eVars eBody)).symm
theorem eqSignatureS_ok (xs : List MSignature) : ∀ ys : List MSignature, xs.length + szRows (xs.map MSignature.enc) ≤ 1048576 → PCall Tryz.prog 101 [.c (.d (.sl (xs.map MSignature.enc))), .c (.d (.sl (ys.map MSignature.enc)))] (.c (.d (.b (dec (xs = ys))))) := by
  intro ys hsz S
  refine acall_cw (rs := [.tmp 4]) Tryz.checked.mixed Tryz.func101 Tryz.ntmps101 rfl rfl rfl rfl rfl ?_
  simp -implicitDefEqProofs (disch := omega) only [go_sem]
  with_reducible refine split2 (fun hb => ?_) (fun hb => ?_) <;> have h := hb <;> (try simp only [wf_preprocess] at h) <;> simp -implicitDefEqProofs (disch := omega) only [go_sem, hb] <;> (repeat (with_reducible refine And.intro ?_ ?_; focus first | omega | rfl | assumption | exact ⟨_, rfl, rfl⟩ | (simp; omega) | (simp; done)))
  · exact bool_eq (dec_false (fun e => h (by rw [e]))).symm
  have hl : xs.length = ys.length := by omega
  refine loop_at (ι := Nat) Tryz.checked.mixed rfl [0, 1, 5] (fun y => [.c (.d (.sl (xs.map MSignature.enc))), .c (.d (.sl (ys.map MSignature.enc))), .c (.d (.i .i64 y))]) (fun y => [] :: S)
    (fun i => i ≤ xs.length ∧ ∀ j, j < i → xs[j]? = ys[j]?) (fun y => xs.length - y) 0 rfl rfl ⟨Nat.zero_le _, fun j h => by omega⟩ ?_
  rintro i ⟨p1, p2⟩
  simp -implicitDefEqProofs (disch := omega) only [go_sem]
  with_reducible refine split2 (fun hb => ?_) (fun hb => ?_) <;> have h := hb <;> (try simp only [wf_preprocess] at h) <;> simp -implicitDefEqProofs (disch := omega) only [go_sem, hb] <;> (repeat (with_reducible refine And.intro ?_ ?_; focus first | omega | rfl | assumption | exact ⟨_, rfl, rfl⟩ | (simp; omega) | (simp; done)))
  · have hi : i < xs.length := by omega
    have hi' : i < ys.length := by omega
    have hx : xs[i].sz ≤ szRows (xs.map MSignature.enc) := szRows_mem (List.mem_map_of_mem (List.getElem_mem hi))
    (repeat (with_reducible refine And.intro ?_ ?_; focus first | omega | rfl | assumption | exact ⟨_, rfl, rfl⟩ | (simp; omega) | (simp; done)))
    refine call_w (eqSignature_ok xs[i] ys[i] (by omega)) ?_
    simp -implicitDefEqProofs (disch := omega) only [go_sem]
    with_reducible refine split2 (fun hb => ?_) (fun hb => ?_) <;> have h := hb <;> (try simp only [wf_preprocess] at h) <;> simp -implicitDefEqProofs (disch := omega) only [go_sem, hb] <;> (repeat (with_reducible refine And.intro ?_ ?_; focus first | omega | rfl | assumption | exact ⟨_, rfl, rfl⟩ | (simp; omega) | (simp; done)))
    · exact bool_eq (dec_false (fun e => h (by simp only [e]))).symm
    refine inv_at (i + 1) (by omega) rfl rfl ⟨by omega, fun j hj => ?_⟩
    by_cases e : j = i
    · subst e
      rw [List.getElem?_eq_getElem hi, List.getElem?_eq_getElem hi', h]
    · exact p2 j (by omega)
  · have hi : i = xs.length := by omega
    refine bool_eq (dec_true (List.ext_getElem? fun j => ?_)).symm
    by_cases hj : j < i
    · exact p2 j hj
    · rw [List.getElem?_eq_none (by omega), List.getElem?_eq_none (by omega)]
end Go.Proofs.YtokcpelkieeddaaGreatDoor

namespace Go.Proofs.YtokcpelkieeddaaGreatDoor
open Go Go.Ab
theorem szTrait_ok (x : MTrait) : ∀ left : Int, 0 ≤ left → left ≤ 1048576 → FitL x.enc → PCall Tryz.prog 26 [x.v, .c (.d (.i .i64 left))] (.c (.d (.i .i64 (sub1 left x.sz)))) := by
  intro left h0 h1 hf S
  simp only [MTrait.enc_eq, List.cons_append, List.nil_append, fitL_cons, fitL_append, fitL_nil_iff, and_true] at hf
  obtain ⟨fName, fSupertraits, fAuto, fAssoc, fSignatures⟩ := hf
  have hz : x.sz = x.fName.length + ((x.fSupertraits.length + szRows (x.fSupertraits.map encS)) + ((x.fSignatures.length + szRows (x.fSignatures.map MSignature.enc)))) := by
    simp only [MTrait.sz, MTrait.enc_eq, szRow, szRow_append, D.sz, List.length_map, Nat.add_zero, Nat.zero_add] <;> omega
  refine acall_cw (rs := [.tmp 4]) Tryz.checked.mixed Tryz.func26 Tryz.ntmps26 rfl rfl rfl rfl rfl ?_
  rw [hz]
  have gName := fit_s fName
  simp -implicitDefEqProofs (disch := omega) only [go_sem]
  with_reducible refine split2 (fun hb => ?_) (fun hb => ?_) <;> have h := hb <;> (try simp only [wf_preprocess] at h) <;> simp -implicitDefEqProofs (disch := omega) only [go_sem, hb] <;> (repeat (with_reducible refine And.intro ?_ ?_; focus first | omega | rfl | assumption | exact ⟨_, rfl, rfl⟩ | (simp; omega) | (simp; done)))
  · exact int_eq (sub1_no (by omega)).symm
  refine call_w (szStringS_ok x.fSupertraits _ (by omega) (by omega) fSupertraits) ?_
  simp -implicitDefEqProofs (disch := omega) only [go_sem]
  with_reducible refine split2 (fun hb => ?_) (fun hb => ?_) <;> have h := hb <;> (try simp only [wf_preprocess] at h) <;> simp -implicitDefEqProofs (disch := omega) only [go_sem, hb] <;> (repeat (with_reducible refine And.intro ?_ ?_; focus first | omega | rfl | assumption | exact ⟨_, rfl, rfl⟩ | (simp; omega) | (simp; done)))
  · have h' := sub1_neg h
    exact int_eq (sub1_no (by omega)).symm
  have hSupertraits := sub1_nn h
  simp only [hSupertraits.1]
  refine call_w (szSignatureS_ok x.fSignatures _ (by omega) (by omega) fSignatures) ?_
  simp -implicitDefEqProofs (disch := omega) only [go_sem]
  with_reducible refine split2 (fun hb => ?_) (fun hb => ?_) <;> have h := hb <;> (try simp only [wf_preprocess] at h) <;> simp -implicitDefEqProofs (disch := omega) only [go_sem, hb] <;> (repeat (with_reducible refine And.intro ?_ ?_; focus first | omega | rfl | assumption | exact ⟨_, rfl, rfl⟩ | (simp; omega) | (simp; done)))
  · have h' := sub1_neg h
    exact int_eq (sub1_no (by omega)).symm
  have hSignatures := sub1_nn h
  simp only [hSignatures.1]
  refine int_eq ?_
  rw [sub1_yes (by omega)]
  omega
theorem toTrait_ok (x : MTrait) : x.sz ≤ 1048576 → PCall Tryz.prog 28 [x.v] x.v := by
  intro hsz S
  simp only [MTrait.sz, MTrait.enc_eq, szRow, szRow_append, D.sz, List.length_map] at hsz
  refine acall_cw (rs := [.cell 2 69]) Tryz.checked.mixed Tryz.func28 Tryz.ntmps28 rfl rfl rfl rfl rfl ?_
  simp -implicitDefEqProofs (disch := omega) only [go_sem]
  refine call_w (toStringS_ok x.fSupertraits (by omega)) ?_
  simp -implicitDefEqProofs (disch := omega) only [go_sem]
  refine call_w (toSignatureS_ok x.fSignatures (by omega)) ?_
  simp -implicitDefEqProofs (disch := omega) only [go_sem]
theorem eqTrait_ok (x : MTrait) : ∀ y : MTrait, x.sz ≤ 1048576 → PCall Tryz.prog 30 [x.v, y.v] (.c (.d (.b (dec (x = y))))) := by
  intro y hsz S
  simp only [MTrait.sz, MTrait.enc_eq, szRow, szRow_append, D.sz, List.length_map] at hsz
  refine acall_cw (rs := [.tmp 4]) Tryz.checked.mixed Tryz.func30 Tryz.ntmps30 rfl rfl rfl rfl rfl ?_
  simp -implicitDefEqProofs (disch := omega) only [go_sem]
  with_reducible refine split2 (fun hb => ?_) (fun hb => ?_) <;> have h := hb <;> (try simp only [wf_preprocess] at h) <;> simp -implicitDefEqProofs (disch := omega) only [go_sem, hb] <;> (repeat (with_reducible refine And.intro ?_ ?_; focus first | omega | rfl | assumption | exact ⟨_, rfl, rfl⟩ | (simp; omega) | (simp; done)))
  · exact bool_eq (dec_false (fun e => h (by rw [e]))).symm
  have eName := h
  clear h
  refine call_w (eqStringS_ok x.fSupertraits _ (by omega)) ?_
  simp -implicitDefEqProofs (disch := omega) only [go_sem]
  with_reducible refine split2 (fun hb => ?_) (fun hb => ?_) <;> have h := hb <;> (try simp only [wf_preprocess] at h) <;> simp -implicitDefEqProofs (disch := omega) only [go_sem, hb] <;> (repeat (with_reducible refine And.intro ?_ ?_; focus first | omega | rfl | assumption | exact ⟨_, rfl, rfl⟩ | (simp; omega) | (simp; done)))
  · exact bool_eq (dec_false (fun e => h (by rw [e]))).symm
  have eSupertraits := h
  clear h
  with_reducible refine split2 (fun hb => ?_) (fun hb => ?_) <;> have h := hb <;> (try simp only [wf_preprocess] at h) <;> simp -implicitDefEqProofs (disch := omega) only [go_sem, hb] <;> (repeat (with_reducible refine And.intro ?_ ?_; focus first | omega | rfl | assumption | exact ⟨_, rfl, rfl⟩ | (simp; omega) | (simp; done)))
  · exact bool_eq (dec_false (fun e => h (by rw [e]))).symm
  have eAuto := h
  clear h
  with_reducible refine split2 (fun hb => ?_) (fun hb => ?_) <;> have h := hb <;> (try simp only [wf_preprocess] at h) <;> simp -implicitDefEqProofs (disch := omega) only [go_sem, hb] <;> (repeat (with_reducible refine And.intro ?_ ?_; focus first | omega | rfl | assumption | exact ⟨_, rfl, rfl⟩ | (simp; omega) | (simp; done)))
  · exact bool_eq (dec_false (fun e => h (by rw [e]))).symm
  have eAssoc := h
  clear h
  refine call_w (eqSignatureS_ok x.fSignatures _ (by omega)) ?_
  simp -implicitDefEqProofs (disch := omega) only [go_sem]
  with_reducible refine split2 (fun hb => ?_) (fun hb => ?_) <;> have h := hb <;> (try simp only [wf_preprocess] at h) <;> simp -implicitDefEqProofs (disch := omega) only [go_sem, hb] <;> (repeat (with_reducible refine And.intro ?_ ?_; focus first | omega | rfl | assumption | exact ⟨_, rfl, rfl⟩ | (simp; omega) | (simp; done)))
  · exact bool_eq (dec_false (fun e => h (by rw [e]))).symm
  have eSignatures := h
  clear h
  exact bool_eq (dec_true (MTrait.ext' eName eSupertraits eAuto eAssoc eSignatures)).symm
end Go.Proofs.YtokcpelkieeddaaGreatDoor

namespace Go.Proofs.YtokcpelkieeddaaGreatDoor
open Go Go.Ab
end Go.Proofs.YtokcpelkieeddaaGreatDoor

namespace Go.Proofs.YtokcpelkieeddaaGreatDoor
open Go Go.Ab
end Go.Proofs.YtokcpelkieeddaaGreatDoor

namespace Go.Proofs.YtokcpelkieeddaaGreatDoor
open Go Go.Ab
end Go.Proofs.YtokcpelkieeddaaGreatDoor

namespace Go.Ab
theorem ops_idx (b : UInt8) : decide (firstIdx ⟨[43, 45, 42, 60, 61].toArray⟩ b ≥ 0) = dec ([b] ∈ ops) := by
  have h : ∀ n : Nat, n < 256 → decide (firstIdx ⟨[43, 45, 42, 60, 61].toArray⟩ (UInt8.ofNat n) ≥ 0) = decide ([UInt8.ofNat n] ∈ ops) := by decide +kernel
  have h1 := h b.toNat (UInt8.toNat_lt b)
  rw [UInt8.ofNat_toNat] at h1
  rw [h1]
  by_cases h2 : [b] ∈ ops
  · rw [dec_true h2]; simp [h2]
  · rw [dec_false h2]; simp [h2]
def argLo (k : Int) : Int := if k = 5 ∨ k = 7 ∨ k = 11 ∨ k = 12 then 1 else if k = 8 ∨ k = 10 then 2 else if k = 9 then 3 else 0
def argHi (k : Int) : Int := if k = 4 ∨ k = 6 ∨ k = 5 then 300 else if k = 7 ∨ k = 11 ∨ k = 12 then 1 else if k = 8 ∨ k = 10 then 2 else if k = 9 then 3 else 0
end Go.Ab
namespace Go.Proofs.YtokcpelkieeddaaGreatDoor
open Go Go.Ab
theorem indexByteString_x (l : List UInt8) (b : UInt8) : XCall Tryz.prog 364 [.c (.d (.s l)), .c (.d (.i .u8 b.toNat))] (.c (.d (.i .i64 (firstIdx ⟨l.toArray⟩ b)))) := by
  refine ⟨_, Extern.BytealgIndexByte.indexByte, Tryz.func364, by kernel_rfl, by kernel_rfl, by kernel_rfl, by kernel_rfl, fun w σ S β vs hS hv => ?_⟩
  obtain ⟨hl, h⟩ := hv
  obtain ⟨v0, e0, h0, _⟩ := h 0 _ rfl
  obtain ⟨v1, e1, h1, _⟩ := h 1 _ rfl
  cases h0
  cases h1
  have hvs : vs = [.string ⟨l.toArray⟩, .int .u8 b.toNat] := by
    match vs, hl, e0, e1 with
    | [x, y], _, e0, e1 => simp at e0 e1; rw [e0, e1]
  subst hvs
  refine ⟨_, run_indexByte_string _ _ w, ?_, rfl⟩
  have hb : (b.toNat : Int).toNat.toUInt8 = b := by simp
  rw [hb]
  exact .i _ _
theorem indexByte_ok (l : List UInt8) (b : UInt8) : PCall Tryz.prog 352 [.c (.d (.s l)), .c (.d (.i .u8 b.toNat))] (.c (.d (.i .i64 (firstIdx ⟨l.toArray⟩ b)))) := fun S => by
  refine acall_cw (rs := [.tmp 4]) Tryz.checked.mixed Tryz.func352 Tryz.ntmps352 rfl rfl rfl rfl rfl ?_
  simp -implicitDefEqProofs (disch := omega) only [go_sem]
  refine call_x (indexByteString_x l b) ?_
  simp -implicitDefEqProofs (disch := omega) only [go_sem]
theorem slIndex1_ok (l : List UInt8) (b : UInt8) (hl : [b] ≠ l) : PCall Tryz.prog 358 [.c (.d (.s l)), .c (.d (.s [b]))] (.c (.d (.i .i64 (firstIdx ⟨l.toArray⟩ b)))) := fun S => by
  have c1 : decide (((1 : Nat) : Int) = 0) = false := rfl
  have c2 : decide (((1 : Nat) : Int) = 1) = true := rfl
  refine acall_cw (rs := [.tmp 4]) Tryz.checked.mixed Tryz.func358 Tryz.ntmps358 rfl rfl rfl rfl rfl ?_
  simp -implicitDefEqProofs (disch := omega) only [go_sem, c1, c2]
  with_reducible refine split2 (fun hb => ?_) (fun hb => ?_) <;> have h := hb <;> (try simp only [wf_preprocess] at h) <;> simp -implicitDefEqProofs (disch := omega) only [go_sem, hb, c1, c2] <;> (repeat (with_reducible refine And.intro ?_ ?_; focus first | omega | rfl | assumption | exact ⟨_, rfl, rfl⟩ | (simp; omega) | (simp; done)))
  · exact absurd h hl
  refine call_w (indexByte_ok l b) ?_
  simp -implicitDefEqProofs (disch := omega) only [go_sem] <;> (repeat (with_reducible refine And.intro ?_ ?_; focus first | omega | rfl | assumption | exact ⟨_, rfl, rfl⟩ | (simp; omega) | (simp; done)))
theorem index1_ok (l : List UInt8) (b : UInt8) (hl : [b] ≠ l) : PCall Tryz.prog 344 [.c (.d (.s l)), .c (.d (.s [b]))] (.c (.d (.i .i64 (firstIdx ⟨l.toArray⟩ b)))) := fun S => by
  refine acall_cw (rs := [.tmp 4]) Tryz.checked.mixed Tryz.func344 Tryz.ntmps344 rfl rfl rfl rfl rfl ?_
  simp -implicitDefEqProofs (disch := omega) only [go_sem]
  refine call_w (slIndex1_ok l b hl) ?_
  simp -implicitDefEqProofs (disch := omega) only [go_sem] <;> (repeat (with_reducible refine And.intro ?_ ?_; focus first | omega | rfl | assumption | exact ⟨_, rfl, rfl⟩ | (simp; omega) | (simp; done)))
theorem contains1_ok (l : List UInt8) (b : UInt8) (hl : [b] ≠ l) : PCall Tryz.prog 326 [.c (.d (.s l)), .c (.d (.s [b]))] (.c (.d (.b (decide (firstIdx ⟨l.toArray⟩ b ≥ 0))))) := fun S => by
  refine acall_cw (rs := [.tmp 4]) Tryz.checked.mixed Tryz.func326 Tryz.ntmps326 rfl rfl rfl rfl rfl ?_
  simp -implicitDefEqProofs (disch := omega) only [go_sem]
  refine call_w (index1_ok l b hl) ?_
  simp -implicitDefEqProofs (disch := omega) only [go_sem] <;> (repeat (with_reducible refine And.intro ?_ ?_; focus first | omega | rfl | assumption | exact ⟨_, rfl, rfl⟩ | (simp; omega) | (simp; done)))
theorem isOperator_ok (s : List UInt8) : PCall Tryz.prog 301 [.c (.d (.s s))] (.c (.d (.b (dec (s ∈ ops))))) := fun S => by
  refine acall_cw (rs := [.tmp 2]) Tryz.checked.mixed Tryz.func301 Tryz.ntmps301 rfl rfl rfl rfl rfl ?_
  simp -implicitDefEqProofs (disch := omega) only [go_sem]
  with_reducible refine split2 (fun hb => ?_) (fun hb => ?_) <;> have h := hb <;> (try simp only [wf_preprocess] at h) <;> simp -implicitDefEqProofs (disch := omega) only [go_sem, hb] <;> (repeat (with_reducible refine And.intro ?_ ?_; focus first | omega | rfl | assumption | exact ⟨_, rfl, rfl⟩ | (simp; omega) | (simp; done)))
  · obtain ⟨b, rfl⟩ := List.length_eq_one_iff.1 (show s.length = 1 by omega)
    refine call_w (contains1_ok [43, 45, 42, 60, 61] b (by intro x; cases x)) ?_
    simp -implicitDefEqProofs (disch := omega) only [go_sem] <;> (repeat (with_reducible refine And.intro ?_ ?_; focus first | omega | rfl | assumption | exact ⟨_, rfl, rfl⟩ | (simp; omega) | (simp; done)))
    exact bool_eq (ops_idx b)
  · exact bool_eq (dec_false fun x => h (by rw [op_len x]; rfl)).symm
theorem isZeroType_ok (t : MType) : PCall Tryz.prog 202 [t.v] (.c (.d (.b (dec (zeroT t))))) := fun S => by
  refine acall_cw (rs := [.tmp 2]) Tryz.checked.mixed Tryz.func202 Tryz.ntmps202 rfl rfl rfl rfl rfl ?_
  simp -implicitDefEqProofs (disch := omega) only [go_sem]
  repeat' (first
    | with_reducible refine split2 (fun hb => ?_) (fun hb => ?_) <;> have h := hb <;> (try simp only [wf_preprocess] at h) <;> simp -implicitDefEqProofs (disch := omega) only [go_sem, hb] <;> (repeat (with_reducible refine And.intro ?_ ?_; focus first | omega | rfl | assumption | exact ⟨_, rfl, rfl⟩ | (simp; omega) | (simp; done)))
    | (refine bool_eq ?_; unfold zeroT; grind [dec_true, dec_false, of_dec, of_dec_false]))
theorem argCount_ok (k : Int) : PCall Tryz.prog 300 [.c (.d (.i .i64 k))] (.tup [(false, [.d (.i .i64 (argLo k))]), (false, [.d (.i .i64 (argHi k))])]) := fun S => by
  refine acall_cw (rs := [.tmp 2, .tmp 3]) Tryz.checked.mixed Tryz.func300 Tryz.ntmps300 rfl rfl rfl rfl rfl ?_
  simp -implicitDefEqProofs (disch := omega) only [go_sem]
  repeat' (first
    | with_reducible refine split2 (fun hb => ?_) (fun hb => ?_) <;> have h := hb <;> (try simp only [wf_preprocess] at h) <;> simp -implicitDefEqProofs (disch := omega) only [go_sem, hb] <;> (repeat (with_reducible refine And.intro ?_ ?_; focus first | omega | rfl | assumption | exact ⟨_, rfl, rfl⟩ | (simp; omega) | (simp; done)))
    | (unfold argLo argHi; grind))
end Go.Proofs.YtokcpelkieeddaaGreatDoor

namespace Go.Ab
theorem atoms_idx (b : UInt8) : decide (firstIdx ⟨[39, 45, 43, 42, 60, 61, 46].toArray⟩ b ≥ 0) = decide (b ∈ ([39, 45, 43, 42, 60, 61, 46] : List UInt8)) := by
  have h : ∀ n : Nat, n < 256 → decide (firstIdx ⟨[39, 45, 43, 42, 60, 61, 46].toArray⟩ (UInt8.ofNat n) ≥ 0) = decide (UInt8.ofNat n ∈ ([39, 45, 43, 42, 60, 61, 46] : List UInt8)) := by decide +kernel
  have h1 := h b.toNat (UInt8.toNat_lt b)
  rwa [UInt8.ofNat_toNat] at h1
theorem atom_mem (b : UInt8) : b ∈ ([39, 45, 43, 42, 60, 61, 46] : List UInt8) ↔ (b.toNat = 39 ∨ b.toNat = 45 ∨ b.toNat = 43 ∨ b.toNat = 42 ∨ b.toNat = 60 ∨ b.toNat = 61 ∨ b.toNat = 46) := by
  have h : ∀ n : Nat, n < 256 → (UInt8.ofNat n ∈ ([39, 45, 43, 42, 60, 61, 46] : List UInt8) ↔ (n = 39 ∨ n = 45 ∨ n = 43 ∨ n = 42 ∨ n = 60 ∨ n = 61 ∨ n = 46)) := by decide +kernel
  have h1 := h b.toNat (UInt8.toNat_lt b)
  rwa [UInt8.ofNat_toNat] at h1
theorem atomByte_iff (b : UInt8) : atomByte b = true ↔ (97 ≤ b.toNat ∧ b.toNat ≤ 122) ∨ (48 ≤ b.toNat ∧ b.toNat ≤ 57) ∨ b.toNat = 39 ∨ b.toNat = 45 ∨ b.toNat = 43 ∨ b.toNat = 42 ∨ b.toNat = 60 ∨ b.toNat = 61 ∨ b.toNat = 46 := by
  unfold atomByte
  rw [Bool.or_eq_true, Bool.or_eq_true, decide_eq_true_eq, decide_eq_true_eq, decide_eq_true_eq, atom_mem, or_assoc]
theorem all_false {s : List UInt8} {i : Nat} (hi : i < s.length) (h : atomByte s[i] = false) : s.all atomByte = false := by
  rw [List.all_eq_false]
  exact ⟨s[i], List.getElem_mem hi, by simp [h]⟩
theorem all_true {s : List UInt8} (h : ∀ j (hj : j < s.length), atomByte s[j] = true) : s.all atomByte = true := by
  rw [List.all_eq_true]
  intro b hb
  obtain ⟨j, hj, e⟩ := List.getElem_of_mem hb
  rw [← e]; exact h j hj
theorem arg_szX {x : MSExpr} {i : Nat} (hi : i < x.fList.length) (h : x.sz ≤ 67108864) : x.fList[i].sz ≤ 67108864 ∧ x.fList.length ≤ 67108864 ∧ x.fAtom.length ≤ 67108864 := by
  have := szX_mem (List.getElem_mem hi)
  rw [sx_sz, szX_rows] at h
  omega
theorem sx_szX {x : MSExpr} (h : x.sz ≤ 67108864) : x.fList.length ≤ 67108864 ∧ x.fAtom.length ≤ 67108864 := by
  rw [sx_sz, szX_rows] at h
  omega
theorem formXs_drop {l : List MSExpr} {i : Nat} (hi : i < l.length) : formXs (l.drop i) = (formX l[i] && formXs (l.drop (i + 1))) := by rw [List.drop_eq_getElem_cons hi, formXs]
theorem depthXs_drop {l : List MSExpr} {i : Nat} (hi : i < l.length) : depthXs (l.drop i) = max (depthX l[i]) (depthXs (l.drop (i + 1))) := by rw [List.drop_eq_getElem_cons hi, depthXs]
theorem nodeXs_drop {l : List MSExpr} {i : Nat} (hi : i < l.length) : nodeXs (l.drop i) = nodeX l[i] + nodeXs (l.drop (i + 1)) := by rw [List.drop_eq_getElem_cons hi, nodeXs]
theorem node_lim {x : MSExpr} (h : x.sz ≤ 67108864) : nodeX x ≤ 67108865 := by have := nodeX_sz x; omega
theorem MSExpr.lt_fl {x : MSExpr} {i : Nat} (hi : i < x.fList.length) : SizeOf.sizeOf x.fList[i] < SizeOf.sizeOf x := by
  have := List.sizeOf_lt_of_mem (List.getElem_mem hi)
  have := MSExpr.lt_List x
  omega
end Go.Ab
namespace Go.Proofs.YtokcpelkieeddaaGreatDoor
open Go Go.Ab
theorem strIndexByte_ok (l : List UInt8) (b : UInt8) : PCall Tryz.prog 339 [.c (.d (.s l)), .c (.d (.i .u8 b.toNat))] (.c (.d (.i .i64 (firstIdx ⟨l.toArray⟩ b)))) := fun S => by
  refine acall_cw (rs := [.tmp 4]) Tryz.checked.mixed Tryz.func339 Tryz.ntmps339 rfl rfl rfl rfl rfl ?_
  simp -implicitDefEqProofs (disch := omega) only [go_sem]
  refine call_w (indexByte_ok l b) ?_
  simp -implicitDefEqProofs (disch := omega) only [go_sem] <;> (repeat (with_reducible refine And.intro ?_ ?_; focus first | omega | rfl | assumption | exact ⟨_, rfl, rfl⟩ | (simp; omega) | (simp; done)))
theorem isAtomByte_ok (b : UInt8) : PCall Tryz.prog 319 [.c (.d (.i .u8 b.toNat))] (.c (.d (.b (atomByte b)))) := fun S => by
  refine acall_cw (rs := [.tmp 2]) Tryz.checked.mixed Tryz.func319 Tryz.ntmps319 rfl rfl rfl rfl rfl ?_
  simp -implicitDefEqProofs (disch := omega) only [go_sem]
  refine call_w (isLower_ok b) ?_
  simp -implicitDefEqProofs (disch := omega) only [go_sem] <;> (repeat (with_reducible refine And.intro ?_ ?_; focus first | omega | rfl | assumption | exact ⟨_, rfl, rfl⟩ | (simp; omega) | (simp; done)))
  with_reducible refine split2 (fun hb => ?_) (fun hb => ?_) <;> have h := hb <;> (try simp only [wf_preprocess] at h) <;> simp -implicitDefEqProofs (disch := omega) only [go_sem, hb] <;> (repeat (with_reducible refine And.intro ?_ ?_; focus first | omega | rfl | assumption | exact ⟨_, rfl, rfl⟩ | (simp; omega) | (simp; done)))
  · exact bool_eq ((atomByte_iff b).2 (.inl h)).symm
  have h1 := h
  refine call_w (isDigit_ok b) ?_
  simp -implicitDefEqProofs (disch := omega) only [go_sem] <;> (repeat (with_reducible refine And.intro ?_ ?_; focus first | omega | rfl | assumption | exact ⟨_, rfl, rfl⟩ | (simp; omega) | (simp; done)))
  with_reducible refine split2 (fun hb => ?_) (fun hb => ?_) <;> have h := hb <;> (try simp only [wf_preprocess] at h) <;> simp -implicitDefEqProofs (disch := omega) only [go_sem, hb] <;> (repeat (with_reducible refine And.intro ?_ ?_; focus first | omega | rfl | assumption | exact ⟨_, rfl, rfl⟩ | (simp; omega) | (simp; done)))
  · exact bool_eq ((atomByte_iff b).2 (.inr (.inl h))).symm
  have h2 := h
  refine call_w (strIndexByte_ok [39, 45, 43, 42, 60, 61, 46] b) ?_
  simp -implicitDefEqProofs (disch := omega) only [go_sem] <;> (repeat (with_reducible refine And.intro ?_ ?_; focus first | omega | rfl | assumption | exact ⟨_, rfl, rfl⟩ | (simp; omega) | (simp; done)))
  refine bool_eq ?_
  rw [atoms_idx]
  unfold atomByte
  unfold lowerB at h1
  unfold digitB at h2
  simp [h1, h2]
theorem implAtomOk (s : List UInt8) (hs : s.length ≤ 1073741824) : PCall Tryz.prog 279 [.c (.d (.s s))] (.c (.d (.b (validAtom s)))) := fun S => by
  refine acall_cw (rs := [.tmp 2]) Tryz.checked.mixed Tryz.func279 Tryz.ntmps279 rfl rfl rfl rfl rfl ?_
  simp -implicitDefEqProofs (disch := omega) only [go_sem]
  refine loop_at (ι := Nat) Tryz.checked.mixed rfl [0, 5, 6] (fun i => [.c (.d (.s s)), .c (.d (.i .i64 s.length)), .c (.d (.i .i64 i))]) (fun _ => [] :: S)
    (fun i => i ≤ s.length ∧ ∀ j, ∀ hj : j < s.length, j < i → atomByte s[j] = true) (fun i => s.length - i) 0 rfl rfl ⟨Nat.zero_le _, fun j _ h => by omega⟩ ?_
  rintro i ⟨p1, p2⟩
  simp -implicitDefEqProofs (disch := omega) only [go_sem]
  with_reducible refine split2 (fun hb => ?_) (fun hb => ?_) <;> have h := hb <;> (try simp only [wf_preprocess] at h) <;> simp -implicitDefEqProofs (disch := omega) only [go_sem, hb] <;> (repeat (with_reducible refine And.intro ?_ ?_; focus first | omega | rfl | assumption | exact ⟨_, rfl, rfl⟩ | (simp; omega) | (simp; done)))
  · have hi : i < s.length := by omega
    have e : s.getD i 0 = s[i] := by simp [List.getD, hi]
    (repeat (with_reducible refine And.intro ?_ ?_; focus first | omega | rfl | assumption | exact ⟨_, rfl, rfl⟩ | (simp; omega) | (simp; done)))
    rw [e]
    refine call_w (isAtomByte_ok s[i]) ?_
    simp -implicitDefEqProofs (disch := omega) only [go_sem] <;> (repeat (with_reducible refine And.intro ?_ ?_; focus first | omega | rfl | assumption | exact ⟨_, rfl, rfl⟩ | (simp; omega) | (simp; done)))
    with_reducible refine split2 (fun hb => ?_) (fun hb => ?_) <;> have h := hb <;> (try simp only [wf_preprocess] at h) <;> simp -implicitDefEqProofs (disch := omega) only [go_sem, hb] <;> (repeat (with_reducible refine And.intro ?_ ?_; focus first | omega | rfl | assumption | exact ⟨_, rfl, rfl⟩ | (simp; omega) | (simp; done)))
    · exact bool_eq (by unfold validAtom; rw [all_false hi h]; rfl)
    · refine inv_at (i + 1) (by omega) rfl rfl ⟨by omega, fun j hj hji => ?_⟩
      by_cases e' : j = i
      · subst e'; exact h
      · exact p2 j hj (by omega)
  · have ha := all_true (s := s) (fun j hj => p2 j hj (by omega))
    with_reducible refine split2 (fun hb => ?_) (fun hb => ?_) <;> have h := hb <;> (try simp only [wf_preprocess] at h) <;> simp -implicitDefEqProofs (disch := omega) only [go_sem, hb] <;> (repeat (with_reducible refine And.intro ?_ ?_; focus first | omega | rfl | assumption | exact ⟨_, rfl, rfl⟩ | (simp; omega) | (simp; done)))
    · refine bool_eq ?_
      unfold validAtom
      rw [ha, Bool.true_and]
      exact decide_eq_decide.2 (by omega)
    · refine bool_eq ?_
      unfold validAtom
      rw [ha, Bool.true_and]
      exact (decide_eq_false (by omega)).symm
theorem l2Byte_ok (b : UInt8) : PCall Tryz.prog 299 [.c (.d (.i .u8 b.toNat))] (.c (.d (.b (atomByte b)))) := fun S => by
  have yes : ((97 ≤ b.toNat ∧ b.toNat ≤ 122) ∨ (48 ≤ b.toNat ∧ b.toNat ≤ 57) ∨ b.toNat = 39 ∨ b.toNat = 45 ∨ b.toNat = 43 ∨ b.toNat = 42 ∨ b.toNat = 60 ∨ b.toNat = 61 ∨ b.toNat = 46) → atomByte b = true := (atomByte_iff b).2
  have no : ¬ ((97 ≤ b.toNat ∧ b.toNat ≤ 122) ∨ (48 ≤ b.toNat ∧ b.toNat ≤ 57) ∨ b.toNat = 39 ∨ b.toNat = 45 ∨ b.toNat = 43 ∨ b.toNat = 42 ∨ b.toNat = 60 ∨ b.toNat = 61 ∨ b.toNat = 46) → atomByte b = false := fun h => by
    cases hb : atomByte b with
    | false => rfl
    | true => exact absurd ((atomByte_iff b).1 hb) h
  refine acall_cw (rs := [.tmp 2]) Tryz.checked.mixed Tryz.func299 Tryz.ntmps299 rfl rfl rfl rfl rfl ?_
  simp -implicitDefEqProofs (disch := omega) only [go_sem]
  repeat' (first | (with_reducible refine split2 (fun hb => ?_) (fun hb => ?_) <;> have h := hb <;> (try simp only [wf_preprocess] at h) <;> simp -implicitDefEqProofs (disch := omega) only [go_sem, hb] <;> (repeat (with_reducible refine And.intro ?_ ?_; focus first | omega | rfl | assumption | exact ⟨_, rfl, rfl⟩ | (simp; omega) | (simp; done)))))
  all_goals first
    | exact bool_eq (yes (by omega)).symm
    | exact bool_eq (no (by omega)).symm
    | (refine bool_eq ?_; cases hb : atomByte b <;> simp only [decide_eq_true_eq, decide_eq_false_iff_not] <;> (first | (have := (atomByte_iff b).1 hb; omega) | (intro q; have := yes (by omega); rw [hb] at this; cases this)))
theorem specAtomOk (s : List UInt8) (hs : s.length ≤ 1073741824) : PCall Tryz.prog 241 [.c (.d (.s s))] (.c (.d (.b (validAtom s)))) := fun S => by
  refine acall_cw (rs := [.tmp 2]) Tryz.checked.mixed Tryz.func241 Tryz.ntmps241 rfl rfl rfl rfl rfl ?_
  simp -implicitDefEqProofs (disch := omega) only [go_sem]
  refine loop_at (ι := Nat) Tryz.checked.mixed rfl [0, 3] (fun i => [.c (.d (.s s)), .c (.d (.i .i64 i))]) (fun _ => [] :: S)
    (fun i => i ≤ s.length ∧ ∀ j, ∀ hj : j < s.length, j < i → atomByte s[j] = true) (fun i => s.length - i) 0 rfl rfl ⟨Nat.zero_le _, fun j _ h => by omega⟩ ?_
  rintro i ⟨p1, p2⟩
  simp -implicitDefEqProofs (disch := omega) only [go_sem]
  with_reducible refine split2 (fun hb => ?_) (fun hb => ?_) <;> have h := hb <;> (try simp only [wf_preprocess] at h) <;> simp -implicitDefEqProofs (disch := omega) only [go_sem, hb] <;> (repeat (with_reducible refine And.intro ?_ ?_; focus first | omega | rfl | assumption | exact ⟨_, rfl, rfl⟩ | (simp; omega) | (simp; done)))
  · have hi : i < s.length := by omega
    have e : s.getD i 0 = s[i] := by simp [List.getD, hi]
    (repeat (with_reducible refine And.intro ?_ ?_; focus first | omega | rfl | assumption | exact ⟨_, rfl, rfl⟩ | (simp; omega) | (simp; done)))
    rw [e]
    refine call_w (l2Byte_ok s[i]) ?_
    simp -implicitDefEqProofs (disch := omega) only [go_sem] <;> (repeat (with_reducible refine And.intro ?_ ?_; focus first | omega | rfl | assumption | exact ⟨_, rfl, rfl⟩ | (simp; omega) | (simp; done)))
    with_reducible refine split2 (fun hb => ?_) (fun hb => ?_) <;> have h := hb <;> (try simp only [wf_preprocess] at h) <;> simp -implicitDefEqProofs (disch := omega) only [go_sem, hb] <;> (repeat (with_reducible refine And.intro ?_ ?_; focus first | omega | rfl | assumption | exact ⟨_, rfl, rfl⟩ | (simp; omega) | (simp; done)))
    · exact bool_eq (by unfold validAtom; rw [all_false hi h]; rfl)
    · refine inv_at (i + 1) (by omega) rfl rfl ⟨by omega, fun j hj hji => ?_⟩
      by_cases e' : j = i
      · subst e'; exact h
      · exact p2 j hj (by omega)
  · have ha := all_true (s := s) (fun j hj => p2 j hj (by omega))
    refine call_w (l1In_ok s.length 1 12) ?_
    simp -implicitDefEqProofs (disch := omega) only [go_sem] <;> (repeat (with_reducible refine And.intro ?_ ?_; focus first | omega | rfl | assumption | exact ⟨_, rfl, rfl⟩ | (simp; omega) | (simp; done)))
    refine bool_eq ?_
    unfold validAtom
    rw [ha, Bool.true_and, ← decide_dec]
    exact decide_eq_decide.2 (by omega)
theorem areAtoms_all : ∀ n : Nat, (∀ x : MSExpr, SizeOf.sizeOf x < n → x.sz ≤ 67108864 → PCall Tryz.prog 214 [x.v] (.c (.d (.b (formX x))))) ∧
    (∀ xs : List MSExpr, SizeOf.sizeOf xs < n → xs.length ≤ 67108864 → (∀ t ∈ xs, t.sz ≤ 67108864) → PCall Tryz.prog 280 [.c (.d (.sl (xs.map MSExpr.enc))), .c (.fn 281 [])] (.c (.d (.b (!formXs xs)))))
  | 0 => ⟨fun x h => by omega, fun x h => by omega⟩
  | n + 1 => by
    obtain ⟨ih, ihS⟩ := areAtoms_all n
    refine ⟨fun x hn hsz S => ?_, fun xs hn hlen hsz S => ?_⟩
    · have lArgs := MSExpr.lt_List x
      have hts := sx_szX hsz
      have hall : ∀ t ∈ x.fList, t.sz ≤ 67108864 := fun t ht => by
        obtain ⟨i, hi, e⟩ := List.getElem_of_mem ht
        rw [← e]; exact (arg_szX hi hsz).1
      have tail := ihS x.fList (by omega) hts.1 hall
      have hf := formX_eq x
      refine acall_cw (rs := [.tmp 2]) Tryz.checked.mixed Tryz.func214 Tryz.ntmps214 rfl rfl rfl rfl rfl ?_
      simp -implicitDefEqProofs (disch := omega) only [go_sem]
      with_reducible refine split2 (fun hb => ?_) (fun hb => ?_) <;> have h := hb <;> (try simp only [wf_preprocess] at h) <;> simp -implicitDefEqProofs (disch := omega) only [go_sem, hb] <;> (repeat (with_reducible refine And.intro ?_ ?_; focus first | omega | rfl | assumption | exact ⟨_, rfl, rfl⟩ | (simp; omega) | (simp; done)))
      · rw [if_neg h] at hf
        refine call_w (implAtomOk x.fAtom (by omega)) ?_
        simp -implicitDefEqProofs (disch := omega) only [go_sem] <;> (repeat (with_reducible refine And.intro ?_ ?_; focus first | omega | rfl | assumption | exact ⟨_, rfl, rfl⟩ | (simp; omega) | (simp; done)))
        with_reducible refine split2 (fun hb => ?_) (fun hb => ?_) <;> have h := hb <;> (try simp only [wf_preprocess] at h) <;> simp -implicitDefEqProofs (disch := omega) only [go_sem, hb] <;> (repeat (with_reducible refine And.intro ?_ ?_; focus first | omega | rfl | assumption | exact ⟨_, rfl, rfl⟩ | (simp; omega) | (simp; done)))
        · rw [hf, h, Bool.true_and]
          exact bool_eq (decide_eq_decide.2 (by omega))
        · rw [hf, h, Bool.false_and]
      · rw [if_pos h] at hf
        refine call_w tail ?_
        simp -implicitDefEqProofs (disch := omega) only [go_sem]
        rw [hf, Bool.not_not]
    · have hcl : ∀ y ∈ xs, PCall Tryz.prog 281 [y.v] (.c (.d (.b (!formX y)))) := fun y hy S => by
        have hys := List.sizeOf_lt_of_mem hy
        refine acall_cw (rs := [.tmp 2]) Tryz.checked.mixed Tryz.func281 Tryz.ntmps281 rfl rfl rfl rfl rfl ?_
        simp -implicitDefEqProofs (disch := omega) only [go_sem]
        refine call_w (ih y (by omega) (hsz y hy)) ?_
        simp -implicitDefEqProofs (disch := omega) only [go_sem] <;> (repeat (with_reducible refine And.intro ?_ ?_; focus first | omega | rfl | assumption | exact ⟨_, rfl, rfl⟩ | (simp; omega) | (simp; done)))
      have hidx : PCall Tryz.prog 320 [.c (.d (.sl (xs.map MSExpr.enc))), .c (.fn 281 [])] (.c (.d (.i .i64 (indexP (fun y => !formX y) xs)))) := fun S => by
        refine acall_cw (rs := [.tmp 4]) Tryz.checked.mixed Tryz.func320 Tryz.ntmps320 rfl rfl rfl rfl rfl ?_
        simp -implicitDefEqProofs (disch := omega) only [go_sem]
        refine loop_at (ι := Nat) Tryz.checked.mixed rfl [0, 1, 7, 8] (fun i => [.c (.d (.sl (xs.map MSExpr.enc))), .c (.fn 281 []), .c (.d (.i .i64 xs.length)), .c (.d (.i .i64 i))]) (fun _ => [] :: S)
          (fun i => i ≤ xs.length ∧ ∀ j, ∀ hj : j < xs.length, j < i → formX xs[j] = true) (fun i => xs.length - i) 0 rfl rfl ⟨Nat.zero_le _, fun j _ h => by omega⟩ ?_
        rintro i ⟨p1, p2⟩
        simp -implicitDefEqProofs (disch := omega) only [go_sem]
        with_reducible refine split2 (fun hb => ?_) (fun hb => ?_) <;> have h := hb <;> (try simp only [wf_preprocess] at h) <;> simp -implicitDefEqProofs (disch := omega) only [go_sem, hb] <;> (repeat (with_reducible refine And.intro ?_ ?_; focus first | omega | rfl | assumption | exact ⟨_, rfl, rfl⟩ | (simp; omega) | (simp; done)))
        · have hi : i < xs.length := by omega
          (repeat (with_reducible refine And.intro ?_ ?_; focus first | omega | rfl | assumption | exact ⟨_, rfl, rfl⟩ | (simp; omega) | (simp; done)))
          refine call_w (hcl xs[i] (List.getElem_mem hi)) ?_
          simp -implicitDefEqProofs (disch := omega) only [go_sem] <;> (repeat (with_reducible refine And.intro ?_ ?_; focus first | omega | rfl | assumption | exact ⟨_, rfl, rfl⟩ | (simp; omega) | (simp; done)))
          with_reducible refine split2 (fun hb => ?_) (fun hb => ?_) <;> have h := hb <;> (try simp only [wf_preprocess] at h) <;> simp -implicitDefEqProofs (disch := omega) only [go_sem, hb] <;> (repeat (with_reducible refine And.intro ?_ ?_; focus first | omega | rfl | assumption | exact ⟨_, rfl, rfl⟩ | (simp; omega) | (simp; done)))
          · rw [indexP_here hi (fun j hj hji => by rw [p2 j hj hji]; rfl) (by rw [h]; rfl)]
          · refine inv_at (i + 1) (by omega) rfl rfl ⟨by omega, fun j hj hji => ?_⟩
            by_cases e : j = i
            · subst e; exact h
            · exact p2 j hj (by omega)
        · rw [indexP_no (fun j hj => by rw [p2 j hj (by omega)]; rfl)]
      refine acall_cw (rs := [.tmp 4]) Tryz.checked.mixed Tryz.func280 Tryz.ntmps280 rfl rfl rfl rfl rfl ?_
      simp -implicitDefEqProofs (disch := omega) only [go_sem]
      refine call_w (hidx) ?_
      simp -implicitDefEqProofs (disch := omega) only [go_sem] <;> (repeat (with_reducible refine And.intro ?_ ?_; focus first | omega | rfl | assumption | exact ⟨_, rfl, rfl⟩ | (simp; omega) | (simp; done)))
      rw [← formXs_any]
      exact bool_eq indexP_pos
theorem areAtoms_ok (x : MSExpr) (hsz : x.sz ≤ 67108864) : PCall Tryz.prog 214 [x.v] (.c (.d (.b (formX x)))) := (areAtoms_all _).1 x (Nat.lt_succ_self _) hsz
theorem implDepthX_all : ∀ n : Nat, ∀ x : MSExpr, SizeOf.sizeOf x < n → x.sz ≤ 67108864 → PCall Tryz.prog 215 [x.v] (.c (.d (.i .i64 (depthX x))))
  | 0 => fun x h => by omega
  | n + 1 => by
    have ih := implDepthX_all n
    intro x hn hsz S
    have hts := sx_szX hsz
    have hd := depthX_eq x
    have hd1 := depthX_node x
    have hd2 := node_lim hsz
    refine acall_cw (rs := [.tmp 2]) Tryz.checked.mixed Tryz.func215 Tryz.ntmps215 rfl rfl rfl rfl rfl ?_
    simp -implicitDefEqProofs (disch := omega) only [go_sem]
    with_reducible refine split2 (fun hb => ?_) (fun hb => ?_) <;> have h := hb <;> (try simp only [wf_preprocess] at h) <;> simp -implicitDefEqProofs (disch := omega) only [go_sem, hb] <;> (repeat (with_reducible refine And.intro ?_ ?_; focus first | omega | rfl | assumption | exact ⟨_, rfl, rfl⟩ | (simp; omega) | (simp; done)))
    · rw [if_neg h] at hd
      rw [hd]; rfl
    rw [if_pos h] at hd
    refine loop_at (ι := Nat × Nat) Tryz.checked.mixed rfl [3, 10, 11, 12] (fun y => [.c (.d (.i .i64 y.2)), .c (.d (.sl (x.fList.map MSExpr.enc))), .c (.d (.i .i64 x.fList.length)), .c (.d (.i .i64 y.1))]) (fun y => [.box [.d (.s x.fAtom), .d (.sl (x.fList.map MSExpr.enc))]] :: S)
      (fun y => y.1 ≤ x.fList.length ∧ depthX x = max y.2 (depthXs (x.fList.drop y.1)) + 1) (fun y => x.fList.length - y.1) (0, 0) rfl rfl ⟨Nat.zero_le _, by simp [hd]⟩ ?_
    rintro ⟨i, c⟩ ⟨p1, p2⟩
    simp only at p1 p2
    simp -implicitDefEqProofs (disch := omega) only [go_sem]
    with_reducible refine split2 (fun hb => ?_) (fun hb => ?_) <;> have h := hb <;> (try simp only [wf_preprocess] at h) <;> simp -implicitDefEqProofs (disch := omega) only [go_sem, hb] <;> (repeat (with_reducible refine And.intro ?_ ?_; focus first | omega | rfl | assumption | exact ⟨_, rfl, rfl⟩ | (simp; omega) | (simp; done)))
    · have hi : i < x.fList.length := by omega
      have hsz' := arg_szX hi hsz
      rw [depthXs_drop hi] at p2
      (repeat (with_reducible refine And.intro ?_ ?_; focus first | omega | rfl | assumption | exact ⟨_, rfl, rfl⟩ | (simp; omega) | (simp; done)))
      refine call_w (ih x.fList[i] (by have := MSExpr.lt_fl hi; omega) (by omega)) ?_
      simp -implicitDefEqProofs (disch := omega) only [go_sem] <;> (repeat (with_reducible refine And.intro ?_ ?_; focus first | omega | rfl | assumption | exact ⟨_, rfl, rfl⟩ | (simp; omega) | (simp; done)))
      rw [show max (c : Int) ((depthX x.fList[i] : Int)) = ((max c (depthX x.fList[i]) : Nat) : Int) by omega]
      exact inv_drop 1 (by decide) (i + 1, max c (depthX x.fList[i])) (by simp only; omega) rfl rfl rfl rfl ⟨by simp only; omega, by simp only; omega⟩
    · have hi : i = x.fList.length := by omega
      rw [hi, List.drop_length, depthXs] at p2
      (repeat (with_reducible refine And.intro ?_ ?_; focus first | omega | rfl | assumption | exact ⟨_, rfl, rfl⟩ | (simp; omega) | (simp; done)))
      exact int_eq (by omega)
theorem implDepthX_ok (x : MSExpr) (hsz : x.sz ≤ 67108864) : PCall Tryz.prog 215 [x.v] (.c (.d (.i .i64 (depthX x)))) := implDepthX_all _ x (Nat.lt_succ_self _) hsz
theorem implNodeX_all : ∀ n : Nat, ∀ x : MSExpr, SizeOf.sizeOf x < n → x.sz ≤ 67108864 → PCall Tryz.prog 216 [x.v] (.c (.d (.i .i64 (nodeX x))))
  | 0 => fun x h => by omega
  | n + 1 => by
    have ih := implNodeX_all n
    intro x hn hsz S
    have hts := sx_szX hsz
    have hd2 := node_lim hsz
    refine acall_cw (rs := [.tmp 2]) Tryz.checked.mixed Tryz.func216 Tryz.ntmps216 rfl rfl rfl rfl rfl ?_
    simp -implicitDefEqProofs (disch := omega) only [go_sem]
    refine loop_at (ι := Nat × Nat) Tryz.checked.mixed rfl [3, 7, 8, 9] (fun y => [.c (.d (.i .i64 y.2)), .c (.d (.sl (x.fList.map MSExpr.enc))), .c (.d (.i .i64 x.fList.length)), .c (.d (.i .i64 y.1))]) (fun y => [.box [.d (.s x.fAtom), .d (.sl (x.fList.map MSExpr.enc))]] :: S)
      (fun y => y.1 ≤ x.fList.length ∧ nodeX x = y.2 + nodeXs (x.fList.drop y.1)) (fun y => x.fList.length - y.1) (0, 1) rfl rfl ⟨Nat.zero_le _, by simp [nodeX_eq]; omega⟩ ?_
    rintro ⟨i, c⟩ ⟨p1, p2⟩
    simp only at p1 p2
    simp -implicitDefEqProofs (disch := omega) only [go_sem]
    with_reducible refine split2 (fun hb => ?_) (fun hb => ?_) <;> have h := hb <;> (try simp only [wf_preprocess] at h) <;> simp -implicitDefEqProofs (disch := omega) only [go_sem, hb] <;> (repeat (with_reducible refine And.intro ?_ ?_; focus first | omega | rfl | assumption | exact ⟨_, rfl, rfl⟩ | (simp; omega) | (simp; done)))
    · have hi : i < x.fList.length := by omega
      have hsz' := arg_szX hi hsz
      rw [nodeXs_drop hi] at p2
      (repeat (with_reducible refine And.intro ?_ ?_; focus first | omega | rfl | assumption | exact ⟨_, rfl, rfl⟩ | (simp; omega) | (simp; done)))
      refine call_w (ih x.fList[i] (by have := MSExpr.lt_fl hi; omega) (by omega)) ?_
      simp -implicitDefEqProofs (disch := omega) only [go_sem] <;> (repeat (with_reducible refine And.intro ?_ ?_; focus first | omega | rfl | assumption | exact ⟨_, rfl, rfl⟩ | (simp; omega) | (simp; done)))
      rw [show (c : Int) + (nodeX x.fList[i] : Int) = ((c + nodeX x.fList[i] : Nat) : Int) by omega]
      exact inv_drop 1 (by decide) (i + 1, c + nodeX x.fList[i]) (by simp only; omega) rfl rfl rfl rfl ⟨by simp only; omega, by simp only; omega⟩
    · have hi : i = x.fList.length := by omega
      rw [hi, List.drop_length, nodeXs] at p2
      exact int_eq (by omega)
theorem implNodeX_ok (x : MSExpr) (hsz : x.sz ≤ 67108864) : PCall Tryz.prog 216 [x.v] (.c (.d (.i .i64 (nodeX x)))) := implNodeX_all _ x (Nat.lt_succ_self _) hsz
theorem implValidX_ok (x : MSExpr) (hsz : x.sz ≤ 67108864) : PCall Tryz.prog 124 [x.v] (.c (.d (.b (validX x)))) := fun S => by
  refine acall_cw (rs := [.tmp 2]) Tryz.checked.mixed Tryz.func124 Tryz.ntmps124 rfl rfl rfl rfl rfl ?_
  simp -implicitDefEqProofs (disch := omega) only [go_sem]
  refine call_w (areAtoms_ok x hsz) ?_
  simp -implicitDefEqProofs (disch := omega) only [go_sem] <;> (repeat (with_reducible refine And.intro ?_ ?_; focus first | omega | rfl | assumption | exact ⟨_, rfl, rfl⟩ | (simp; omega) | (simp; done)))
  with_reducible refine split2 (fun hb => ?_) (fun hb => ?_) <;> have h := hb <;> (try simp only [wf_preprocess] at h) <;> simp -implicitDefEqProofs (disch := omega) only [go_sem, hb] <;> (repeat (with_reducible refine And.intro ?_ ?_; focus first | omega | rfl | assumption | exact ⟨_, rfl, rfl⟩ | (simp; omega) | (simp; done)))
  · have hf := h
    refine call_w (implDepthX_ok x hsz) ?_
    simp -implicitDefEqProofs (disch := omega) only [go_sem] <;> (repeat (with_reducible refine And.intro ?_ ?_; focus first | omega | rfl | assumption | exact ⟨_, rfl, rfl⟩ | (simp; omega) | (simp; done)))
    with_reducible refine split2 (fun hb => ?_) (fun hb => ?_) <;> have h := hb <;> (try simp only [wf_preprocess] at h) <;> simp -implicitDefEqProofs (disch := omega) only [go_sem, hb] <;> (repeat (with_reducible refine And.intro ?_ ?_; focus first | omega | rfl | assumption | exact ⟨_, rfl, rfl⟩ | (simp; omega) | (simp; done)))
    · refine call_w (implNodeX_ok x hsz) ?_
      simp -implicitDefEqProofs (disch := omega) only [go_sem] <;> (repeat (with_reducible refine And.intro ?_ ?_; focus first | omega | rfl | assumption | exact ⟨_, rfl, rfl⟩ | (simp; omega) | (simp; done)))
      refine bool_eq ?_
      unfold validX
      rw [hf, Bool.true_and]
      exact decide_eq_decide.2 (by omega)
    · refine bool_eq ?_
      unfold validX
      rw [hf, Bool.true_and]
      exact (decide_eq_false (by omega)).symm
  · refine bool_eq ?_
    unfold validX
    rw [h, Bool.false_and]
theorem l2Left_all : ∀ n : Nat, ∀ x : MSExpr, SizeOf.sizeOf x < n → ∀ l : Int, 0 ≤ l → l ≤ 1073741824 → x.sz ≤ 67108864 → PCall Tryz.prog 152 [x.v, .c (.d (.i .i64 l))] (.c (.d (.i .i64 (sub1 l (nodeX x)))))
  | 0 => fun x h => by omega
  | n + 1 => by
    have ih := l2Left_all n
    intro x hn l h0 h1 hsz S
    have hts := sx_szX hsz
    have hcn := nodeX_eq x
    refine acall_cw (rs := [.tmp 4]) Tryz.checked.mixed Tryz.func152 Tryz.ntmps152 rfl rfl rfl rfl rfl ?_
    simp -implicitDefEqProofs (disch := omega) only [go_sem]
    refine loop_at (ι := Nat × Int) Tryz.checked.mixed rfl [1, 2, 5] (fun y => [.c (.d (.i .i64 y.2)), .c (.ptr (0, 0) 0), .c (.d (.i .i64 y.1))]) (fun y => [.box [.d (.s x.fAtom), .d (.sl (x.fList.map MSExpr.enc))]] :: S)
      (fun y => y.1 ≤ x.fList.length ∧ -1 ≤ y.2 ∧ y.2 ≤ 1073741824 ∧ (0 ≤ y.2 → sub1 l (nodeX x) = sub1 y.2 (nodeXs (x.fList.drop y.1))) ∧ (y.2 < 0 → sub1 l (nodeX x) = -1)) (fun y => x.fList.length - y.1) (0, l - 1) rfl rfl ⟨Nat.zero_le _, by simp only; omega, by simp only; omega, fun h => ?_, fun h => ?_⟩ ?_
    · simp only [List.drop_zero] at h ⊢
      unfold sub1
      rw [hcn]
      split <;> split <;> omega
    · simp only at h
      exact sub1_no (by omega)
    rintro ⟨i, c⟩ ⟨p1, p2, p3, p4, p5⟩
    simp only at p1 p2 p3 p4 p5
    simp -implicitDefEqProofs (disch := omega) only [go_sem]
    with_reducible refine split2 (fun hb => ?_) (fun hb => ?_) <;> have h := hb <;> (try simp only [wf_preprocess] at h) <;> simp -implicitDefEqProofs (disch := omega) only [go_sem, hb] <;> (repeat (with_reducible refine And.intro ?_ ?_; focus first | omega | rfl | assumption | exact ⟨_, rfl, rfl⟩ | (simp; omega) | (simp; done)))
    · have hi : i < x.fList.length := by omega
      with_reducible refine split2 (fun hb => ?_) (fun hb => ?_) <;> have h := hb <;> (try simp only [wf_preprocess] at h) <;> simp -implicitDefEqProofs (disch := omega) only [go_sem, hb] <;> (repeat (with_reducible refine And.intro ?_ ?_; focus first | omega | rfl | assumption | exact ⟨_, rfl, rfl⟩ | (simp; omega) | (simp; done)))
      · have hsz' := arg_szX hi hsz
        have p6 := p4 h
        rw [nodeXs_drop hi] at p6
        (repeat (with_reducible refine And.intro ?_ ?_; focus first | omega | rfl | assumption | exact ⟨_, rfl, rfl⟩ | (simp; omega) | (simp; done)))
        refine call_w (ih x.fList[i] (by have := MSExpr.lt_fl hi; omega) c (by omega) (by omega) (by omega)) ?_
        simp -implicitDefEqProofs (disch := omega) only [go_sem] <;> (repeat (with_reducible refine And.intro ?_ ?_; focus first | omega | rfl | assumption | exact ⟨_, rfl, rfl⟩ | (simp; omega) | (simp; done)))
        refine inv_at (i + 1, sub1 c _) (by simp only; omega) rfl rfl ⟨by simp only; omega, ?_, ?_, fun h => ?_, fun h => ?_⟩
        · simp only; unfold sub1; split <;> omega
        · simp only; unfold sub1; split <;> omega
        · simp only at h ⊢
          rw [p6]
          have := sub1_nn (l := c) (a := nodeX x.fList[i]) (by omega)
          rw [this.1]
          unfold sub1
          split <;> split <;> omega
        · simp only at h ⊢
          rw [p6]
          have := sub1_neg h
          exact sub1_no (by omega)
      · have hc : c = -1 := by omega
        rw [p5 (by omega), hc]
    · have hi : i = x.fList.length := by omega
      by_cases hc : 0 ≤ c
      · rw [p4 hc, hi, List.drop_length, nodeXs, sub1_yes (by omega)]
        exact int_eq (by simp)
      · rw [p5 (by omega)]
        exact int_eq (by omega)
theorem l2Left_ok (x : MSExpr) (l : Int) (h0 : 0 ≤ l) (h1 : l ≤ 1073741824) (hsz : x.sz ≤ 67108864) : PCall Tryz.prog 152 [x.v, .c (.d (.i .i64 l))] (.c (.d (.i .i64 (sub1 l (nodeX x))))) := l2Left_all _ x (Nat.lt_succ_self _) l h0 h1 hsz
theorem l2Form_all : ∀ n : Nat, ∀ x : MSExpr, SizeOf.sizeOf x < n → x.sz ≤ 67108864 → PCall Tryz.prog 153 [x.v] (.c (.d (.b (formX x))))
  | 0 => fun x h => by omega
  | n + 1 => by
    have ih := l2Form_all n
    intro x hn hsz S
    have hts := sx_szX hsz
    have hf := formX_eq x
    refine acall_cw (rs := [.tmp 2]) Tryz.checked.mixed Tryz.func153 Tryz.ntmps153 rfl rfl rfl rfl rfl ?_
    simp -implicitDefEqProofs (disch := omega) only [go_sem]
    with_reducible refine split2 (fun hb => ?_) (fun hb => ?_) <;> have h := hb <;> (try simp only [wf_preprocess] at h) <;> simp -implicitDefEqProofs (disch := omega) only [go_sem, hb] <;> (repeat (with_reducible refine And.intro ?_ ?_; focus first | omega | rfl | assumption | exact ⟨_, rfl, rfl⟩ | (simp; omega) | (simp; done)))
    · rw [if_neg h] at hf
      refine call_w (specAtomOk x.fAtom (by omega)) ?_
      simp -implicitDefEqProofs (disch := omega) only [go_sem] <;> (repeat (with_reducible refine And.intro ?_ ?_; focus first | omega | rfl | assumption | exact ⟨_, rfl, rfl⟩ | (simp; omega) | (simp; done)))
      with_reducible refine split2 (fun hb => ?_) (fun hb => ?_) <;> have h := hb <;> (try simp only [wf_preprocess] at h) <;> simp -implicitDefEqProofs (disch := omega) only [go_sem, hb] <;> (repeat (with_reducible refine And.intro ?_ ?_; focus first | omega | rfl | assumption | exact ⟨_, rfl, rfl⟩ | (simp; omega) | (simp; done)))
      · rw [hf, h, Bool.true_and]
        exact bool_eq (decide_eq_decide.2 (by omega))
      · rw [hf, h, Bool.false_and]
    rw [if_pos h] at hf
    refine loop_at (ι := Nat) Tryz.checked.mixed rfl [1, 3] (fun y => [.c (.ptr (0, 0) 0), .c (.d (.i .i64 y))]) (fun y => [.box [.d (.s x.fAtom), .d (.sl (x.fList.map MSExpr.enc))]] :: S)
      (fun y => y ≤ x.fList.length ∧ formX x = formXs (x.fList.drop y)) (fun y => x.fList.length - y) 0 rfl rfl ⟨Nat.zero_le _, hf⟩ ?_
    rintro i ⟨p1, p2⟩
    simp -implicitDefEqProofs (disch := omega) only [go_sem]
    with_reducible refine split2 (fun hb => ?_) (fun hb => ?_) <;> have h := hb <;> (try simp only [wf_preprocess] at h) <;> simp -implicitDefEqProofs (disch := omega) only [go_sem, hb] <;> (repeat (with_reducible refine And.intro ?_ ?_; focus first | omega | rfl | assumption | exact ⟨_, rfl, rfl⟩ | (simp; omega) | (simp; done)))
    · have hi : i < x.fList.length := by omega
      have hsz' := arg_szX hi hsz
      rw [formXs_drop hi] at p2
      (repeat (with_reducible refine And.intro ?_ ?_; focus first | omega | rfl | assumption | exact ⟨_, rfl, rfl⟩ | (simp; omega) | (simp; done)))
      refine call_w (ih x.fList[i] (by have := MSExpr.lt_fl hi; omega) (by omega)) ?_
      simp -implicitDefEqProofs (disch := omega) only [go_sem] <;> (repeat (with_reducible refine And.intro ?_ ?_; focus first | omega | rfl | assumption | exact ⟨_, rfl, rfl⟩ | (simp; omega) | (simp; done)))
      with_reducible refine split2 (fun hb => ?_) (fun hb => ?_) <;> have h := hb <;> (try simp only [wf_preprocess] at h) <;> simp -implicitDefEqProofs (disch := omega) only [go_sem, hb] <;> (repeat (with_reducible refine And.intro ?_ ?_; focus first | omega | rfl | assumption | exact ⟨_, rfl, rfl⟩ | (simp; omega) | (simp; done)))
      · rw [p2, h, Bool.false_and]
      · exact inv_at (i + 1) (by omega) rfl rfl ⟨by omega, by rw [p2, h, Bool.true_and]⟩
    · have hi : i = x.fList.length := by omega
      rw [hi, List.drop_length, formXs] at p2
      rw [p2]
theorem l2Form_ok (x : MSExpr) (hsz : x.sz ≤ 67108864) : PCall Tryz.prog 153 [x.v] (.c (.d (.b (formX x)))) := l2Form_all _ x (Nat.lt_succ_self _) hsz
theorem specDepthX_all : ∀ n : Nat, ∀ x : MSExpr, SizeOf.sizeOf x < n → x.sz ≤ 67108864 → PCall Tryz.prog 154 [x.v] (.c (.d (.i .i64 (depthX x))))
  | 0 => fun x h => by omega
  | n + 1 => by
    have ih := specDepthX_all n
    intro x hn hsz S
    have hts := sx_szX hsz
    have hd := depthX_eq x
    have hd1 := depthX_node x
    have hd2 := node_lim hsz
    refine acall_cw (rs := [.tmp 2]) Tryz.checked.mixed Tryz.func154 Tryz.ntmps154 rfl rfl rfl rfl rfl ?_
    simp -implicitDefEqProofs (disch := omega) only [go_sem]
    with_reducible refine split2 (fun hb => ?_) (fun hb => ?_) <;> have h := hb <;> (try simp only [wf_preprocess] at h) <;> simp -implicitDefEqProofs (disch := omega) only [go_sem, hb] <;> (repeat (with_reducible refine And.intro ?_ ?_; focus first | omega | rfl | assumption | exact ⟨_, rfl, rfl⟩ | (simp; omega) | (simp; done)))
    · rw [if_neg h] at hd
      rw [hd]; rfl
    rw [if_pos h] at hd
    refine loop_at (ι := Nat × Nat) Tryz.checked.mixed rfl [1, 3, 4] (fun y => [.c (.ptr (0, 0) 0), .c (.d (.i .i64 y.2)), .c (.d (.i .i64 y.1))]) (fun y => [.box [.d (.s x.fAtom), .d (.sl (x.fList.map MSExpr.enc))]] :: S)
      (fun y => y.1 ≤ x.fList.length ∧ depthX x = max y.2 (depthXs (x.fList.drop y.1)) + 1) (fun y => x.fList.length - y.1) (0, 0) rfl rfl ⟨Nat.zero_le _, by simp [hd]⟩ ?_
    rintro ⟨i, c⟩ ⟨p1, p2⟩
    simp only at p1 p2
    simp -implicitDefEqProofs (disch := omega) only [go_sem]
    with_reducible refine split2 (fun hb => ?_) (fun hb => ?_) <;> have h := hb <;> (try simp only [wf_preprocess] at h) <;> simp -implicitDefEqProofs (disch := omega) only [go_sem, hb] <;> (repeat (with_reducible refine And.intro ?_ ?_; focus first | omega | rfl | assumption | exact ⟨_, rfl, rfl⟩ | (simp; omega) | (simp; done)))
    · have hi : i < x.fList.length := by omega
      have hsz' := arg_szX hi hsz
      rw [depthXs_drop hi] at p2
      (repeat (with_reducible refine And.intro ?_ ?_; focus first | omega | rfl | assumption | exact ⟨_, rfl, rfl⟩ | (simp; omega) | (simp; done)))
      refine call_w (ih x.fList[i] (by have := MSExpr.lt_fl hi; omega) (by omega)) ?_
      simp -implicitDefEqProofs (disch := omega) only [go_sem] <;> (repeat (with_reducible refine And.intro ?_ ?_; focus first | omega | rfl | assumption | exact ⟨_, rfl, rfl⟩ | (simp; omega) | (simp; done)))
      refine call_w (l1Max_ok _ _) ?_
      simp -implicitDefEqProofs (disch := omega) only [go_sem] <;> (repeat (with_reducible refine And.intro ?_ ?_; focus first | omega | rfl | assumption | exact ⟨_, rfl, rfl⟩ | (simp; omega) | (simp; done)))
      rw [show max (c : Int) ((depthX x.fList[i] : Int)) = ((max c (depthX x.fList[i]) : Nat) : Int) by omega]
      exact inv_at (i + 1, max c (depthX x.fList[i])) (by simp only; omega) rfl rfl ⟨by simp only; omega, by simp only; omega⟩
    · have hi : i = x.fList.length := by omega
      rw [hi, List.drop_length, depthXs] at p2
      (repeat (with_reducible refine And.intro ?_ ?_; focus first | omega | rfl | assumption | exact ⟨_, rfl, rfl⟩ | (simp; omega) | (simp; done)))
      exact int_eq (by omega)
theorem specDepthX_ok (x : MSExpr) (hsz : x.sz ≤ 67108864) : PCall Tryz.prog 154 [x.v] (.c (.d (.i .i64 (depthX x)))) := specDepthX_all _ x (Nat.lt_succ_self _) hsz
theorem specValidX_ok (x : MSExpr) (hsz : x.sz ≤ 67108864) : PCall Tryz.prog 58 [x.v] (.c (.d (.b (validX x)))) := fun S => by
  refine acall_cw (rs := [.tmp 2]) Tryz.checked.mixed Tryz.func58 Tryz.ntmps58 rfl rfl rfl rfl rfl ?_
  simp -implicitDefEqProofs (disch := omega) only [go_sem]
  refine call_w (l2Left_ok x 900 (by omega) (by omega) hsz) ?_
  simp -implicitDefEqProofs (disch := omega) only [go_sem] <;> (repeat (with_reducible refine And.intro ?_ ?_; focus first | omega | rfl | assumption | exact ⟨_, rfl, rfl⟩ | (simp; omega) | (simp; done)))
  with_reducible refine split2 (fun hb => ?_) (fun hb => ?_) <;> have h := hb <;> (try simp only [wf_preprocess] at h) <;> simp -implicitDefEqProofs (disch := omega) only [go_sem, hb] <;> (repeat (with_reducible refine And.intro ?_ ?_; focus first | omega | rfl | assumption | exact ⟨_, rfl, rfl⟩ | (simp; omega) | (simp; done)))
  · have h1 := (sub1_nn (l := 900) (a := nodeX x) (by omega)).2
    refine call_w (l2Form_ok x hsz) ?_
    simp -implicitDefEqProofs (disch := omega) only [go_sem] <;> (repeat (with_reducible refine And.intro ?_ ?_; focus first | omega | rfl | assumption | exact ⟨_, rfl, rfl⟩ | (simp; omega) | (simp; done)))
    with_reducible refine split2 (fun hb => ?_) (fun hb => ?_) <;> have h := hb <;> (try simp only [wf_preprocess] at h) <;> simp -implicitDefEqProofs (disch := omega) only [go_sem, hb] <;> (repeat (with_reducible refine And.intro ?_ ?_; focus first | omega | rfl | assumption | exact ⟨_, rfl, rfl⟩ | (simp; omega) | (simp; done)))
    · have hf := h
      refine call_w (specDepthX_ok x hsz) ?_
      simp -implicitDefEqProofs (disch := omega) only [go_sem] <;> (repeat (with_reducible refine And.intro ?_ ?_; focus first | omega | rfl | assumption | exact ⟨_, rfl, rfl⟩ | (simp; omega) | (simp; done)))
      refine bool_eq ?_
      unfold validX
      rw [hf, Bool.true_and]
      exact decide_eq_decide.2 (by omega)
    · refine bool_eq ?_
      unfold validX
      rw [h, Bool.false_and]
  · have h1 := sub1_neg (l := 900) (a := nodeX x) (by omega)
    refine bool_eq ?_
    unfold validX
    rw [decide_eq_false (by omega), Bool.and_false]
end Go.Proofs.YtokcpelkieeddaaGreatDoor

namespace Go.Ab
def lx (l : List MSExpr) (n : Nat) : List (List D) := labRs (l.map MSExpr.enc) n
def cntX (x : MSExpr) : Nat := cntR x.enc
def cntXs (l : List MSExpr) : Nat := cntRs (l.map MSExpr.enc)
theorem labX_eq (x : MSExpr) (n : Nat) : labR x.enc n = [.s x.fAtom, .ol n (lx x.fList (n + 1))] := by
  rw [MSExpr.enc_eq]; simp only [labR, labD, cntD, Nat.add_zero, lx]
theorem labX_atom (s : List UInt8) (n : Nat) : labR (atomX s).enc n = [.s s, .ol n []] := by rw [labX_eq]; rfl
theorem cntX_eq (x : MSExpr) : cntX x = cntXs x.fList + 1 := by
  unfold cntX cntXs
  rw [MSExpr.enc_eq]; simp only [cntR, cntD]; omega
theorem cntX_atom (s : List UInt8) : cntX (atomX s) = 1 := by rw [cntX_eq]; rfl
theorem lx_nil (n : Nat) : lx [] n = [] := rfl
theorem lx_cons (x : MSExpr) (l : List MSExpr) (n : Nat) : lx (x :: l) n = labR x.enc n :: lx l (n + cntX x) := rfl
theorem lx_append (a b : List MSExpr) (n : Nat) : lx (a ++ b) n = lx a n ++ lx b (n + cntXs a) := by unfold lx cntXs; rw [List.map_append, labRs_append]
theorem cntXs_nil : cntXs [] = 0 := rfl
theorem cntXs_cons (x : MSExpr) (l : List MSExpr) : cntXs (x :: l) = cntX x + cntXs l := rfl
theorem lx_length (l : List MSExpr) (n : Nat) : (lx l n).length = l.length := by unfold lx; rw [labRs_length, List.length_map]
theorem lx_rows {l : List MSExpr} {n : Nat} : ∀ r ∈ lx l n, r.length = 2 := labRs_rows fun r hr => by
  obtain ⟨z, _, rfl⟩ := List.mem_map.1 hr
  exact z.enc_length
theorem lx_snoc {l : List MSExpr} {i : Nat} (hi : i < l.length) (n : Nat) : lx (l.take i) n ++ [labR l[i].enc (n + cntXs (l.take i))] = lx (l.take (i + 1)) n := by
  rw [List.take_succ_eq_append_getElem hi, lx_append]; rfl
theorem lx_snoc' {l : List MSExpr} {i : Nat} (hi : i < l.length) (n : Nat) : lx (l.take i) n ++ [[.s l[i].fAtom, .ol (n + cntXs (l.take i)) (lx l[i].fList (n + cntXs (l.take i) + 1))]] = lx (l.take (i + 1)) n := by
  rw [← lx_snoc hi, labX_eq]
theorem lx_snocB {base l : List MSExpr} {i : Nat} (hi : i < l.length) (q : Nat) : lx (base ++ l.take i) q ++ [[.s l[i].fAtom, .ol (q + cntXs (base ++ l.take i)) (lx l[i].fList (q + cntXs (base ++ l.take i) + 1))]] = lx (base ++ l.take (i + 1)) q := by
  rw [List.take_succ_eq_append_getElem hi, ← List.append_assoc, lx_append (base ++ l.take i), lx_cons, lx_nil, labX_eq]
theorem enc_rows {l : List MSExpr} : ∀ r ∈ l.map MSExpr.enc, r.length = 2 := fun r hr => by
  obtain ⟨z, _, rfl⟩ := List.mem_map.1 hr
  exact z.enc_length
theorem cells_less' {cs cs' : List C} (hl : cs'.length = cs.length) (h : ∀ (j : Nat) (x y : C), cs[j]? = some x → cs'[j]? = some y → ∀ w σ S β v, RepC w σ S β x v → RepC w σ S β y v) : Less (.agg cs) (.agg cs') := by
  rintro w σ S β v ⟨a, ha, hc⟩
  refine ⟨a, ha, hl.trans hc.1, fun j y hy => ?_⟩
  have hj : j < cs.length := by rw [← hl]; exact (List.getElem?_eq_some_iff.1 hy).1
  obtain ⟨v, h1, h2, h3⟩ := hc.2 j _ (List.getElem?_eq_getElem hj)
  exact ⟨v, h1, h j _ y (List.getElem?_eq_getElem hj) hy w σ S β v h2, h3⟩
theorem fsl_ol {w : World} {σ : Nat → Nat} {S : Store} {β : Hs} {v : Value} (n : Nat) (h : RepC w σ S β (.fsl []) v) : RepC w σ S β (.d (.ol n [])) v := by
  obtain ⟨hd, ad, m, hval⟩ := h
  have hm : m = 0 := by rw [hval] at hd; cases hd <;> rfl
  subst hm
  rw [hval]
  exact .onil _ _ _
theorem less_x0 (s : List UInt8) (n : Nat) : Less (.agg [.d (.s s), .fsl []]) (.agg [.d (.s s), .d (.ol n [])]) := cells_less' rfl fun j x y hx hy w σ S β v hv => by
  match j, hx, hy with
  | 0, hx, hy => cases hx; cases hy; exact hv
  | 1, hx, hy => cases hx; cases hy; exact fsl_ol _ hv
  | j + 2, hx, hy => simp at hx
theorem less_xl (s : List UInt8) (n : Nat) (es : List (List D)) : Less (.agg [.d (.s s), .lfl n es]) (.agg [.d (.s s), .d (.ol n es)]) := cells_less' rfl fun j x y hx hy w σ S β v hv => by
  match j, hx, hy with
  | 0, hx, hy => cases hx; cases hy; exact hv
  | 1, hx, hy => cases hx; cases hy; exact hv.1
  | j + 2, hx, hy => simp at hx
end Go.Ab
namespace Go.Proofs.YtokcpelkieeddaaGreatDoor
open Go Go.Ab
theorem implAtom_ok (s : List UInt8) : PCall Tryz.prog 121 [.c (.d (.s s))] (.agg [.d (.s s), .fsl []]) := fun S => by
  refine acall_cw (rs := [.cell 2 32]) Tryz.checked.mixed Tryz.func121 Tryz.ntmps121 rfl rfl rfl rfl rfl ?_
  simp -implicitDefEqProofs (disch := omega) only [go_sem]
theorem implAtom_lab (s : List UInt8) (n : Nat) : PCall Tryz.prog 121 [.c (.d (.s s))] (.agg [.d (.s s), .d (.ol n [])]) := PCall.less (implAtom_ok s) (less_x0 s n)
theorem implList_d (d : D) : PCall Tryz.prog 125 [.c (.d d)] (.agg [.d (.s []), .d d]) := fun S => by
  refine acall_cw (rs := [.cell 2 32]) Tryz.checked.mixed Tryz.func125 Tryz.ntmps125 rfl rfl rfl rfl rfl ?_
  simp -implicitDefEqProofs (disch := omega) only [go_sem]
theorem implList_l0 (n : Nat) (es : List (List D)) : PCall Tryz.prog 125 [.c (.lfl n es)] (.agg [.d (.s []), .lfl n es]) := fun S => by
  refine acall_cw (rs := [.cell 2 32]) Tryz.checked.mixed Tryz.func125 Tryz.ntmps125 rfl rfl rfl rfl rfl ?_
  simp -implicitDefEqProofs (disch := omega) only [go_sem]
theorem implList_l (n : Nat) (es : List (List D)) : PCall Tryz.prog 125 [.c (.lfl n es)] (.agg [.d (.s []), .d (.ol n es)]) := PCall.less (implList_l0 n es) (less_xl [] n es)
theorem implList_t (l j : Nat) (es : List (List D)) (S : Store) : ACall Tryz.prog 125 [.c (.tsl (l, j) es)] S (fun r S' => r = .agg [.d (.s []), .tsl (l, j) es] ∧ S' = S) := by
  refine acall_cw (rs := [.cell 2 32]) Tryz.checked.mixed Tryz.func125 Tryz.ntmps125 rfl rfl rfl rfl rfl ?_
  simp -implicitDefEqProofs (disch := omega) only [go_sem]
theorem implAtoms_lab (xs : List (List UInt8)) (hx : xs.length ≤ 1073741824) (n q : Nat) : PCall Tryz.prog 160 [.c (.d (.sl (xs.map encS)))] (.c (.d (.ol n (lx (wordsX xs) q)))) := fun S => by
  refine acall_cwL (n) (rs := [.tmp 2]) Tryz.checked.mixed Tryz.func160 Tryz.ntmps160 rfl rfl rfl rfl rfl ?_
  simp -implicitDefEqProofs (disch := omega) only [go_sem]
  (repeat (with_reducible refine And.intro ?_ ?_; focus first | omega | rfl | assumption | exact ⟨_, rfl, rfl⟩ | (simp; omega) | (simp; done)))
  refine aw_ltok n 3 2 [] (.inl rfl) (by simp) ?_
  refine loop_at (ι := Nat) Tryz.checked.mixed rfl [3, 7, 8, 9] (fun i => [.c (.tsl (0, 1) (lx ((wordsX xs).take i) q)), .c (.d (.sl (xs.map encS))), .c (.d (.i .i64 xs.length)), .c (.d (.i .i64 i))]) (fun i => [.seed n, .ltok n 2 (lx ((wordsX xs).take i) q)] :: S)
    (fun i => i ≤ xs.length) (fun i => xs.length - i) 0 rfl rfl (Nat.zero_le _) ?_
  intro i hi
  simp -implicitDefEqProofs (disch := omega) only [go_sem]
  with_reducible refine split2 (fun hb => ?_) (fun hb => ?_) <;> have h := hb <;> (try simp only [wf_preprocess] at h) <;> simp -implicitDefEqProofs (disch := omega) only [go_sem, hb] <;> (repeat (with_reducible refine And.intro ?_ ?_; focus first | omega | rfl | assumption | exact ⟨_, rfl, rfl⟩ | (simp; omega) | (simp; done)))
  · have hi' : i < xs.length := by omega
    have hw : i < (wordsX xs).length := by rw [words_len]; exact hi'
    have hg : (wordsX xs)[i] = atomX xs[i] := by simp [wordsX]
    have hl : (lx ((wordsX xs).take i) q).length ≤ i := by rw [lx_length]; exact List.length_take_le _ _
    (repeat (with_reducible refine And.intro ?_ ?_; focus first | omega | rfl | assumption | exact ⟨_, rfl, rfl⟩ | (simp; omega) | (simp; done)))
    refine call_w (implAtom_lab xs[i] (q + cntXs ((wordsX xs).take i))) ?_
    simp -implicitDefEqProofs (disch := omega) only [go_sem]
    (repeat (with_reducible refine And.intro ?_ ?_; focus first | omega | rfl | assumption | exact ⟨_, rfl, rfl⟩ | (simp; omega) | (simp; done)))
    have hs := lx_snoc hw q
    rw [hg, labX_atom] at hs
    rw [hs]
    exact inv_at (i + 1) (by omega) rfl rfl (by omega)
  · have hi' : i = (wordsX xs).length := by rw [words_len]; omega
    rw [hi', List.take_length]
theorem implNameList_lab (xs : List (List UInt8)) (hx : xs.length ≤ 1073741824) (n : Nat) : PCall Tryz.prog 122 [.c (.d (.sl (xs.map encS)))] (.agg [.d (.s []), .d (.ol n (lx (wordsX xs) (n + 1)))]) := fun S => by
  refine acall_cw (rs := [.cell 2 32]) Tryz.checked.mixed Tryz.func122 Tryz.ntmps122 rfl rfl rfl rfl rfl ?_
  simp -implicitDefEqProofs (disch := omega) only [go_sem]
  refine call_w (implAtoms_lab xs hx n (n + 1)) ?_
  simp -implicitDefEqProofs (disch := omega) only [go_sem]
  refine call_w (implList_d _) ?_
  simp -implicitDefEqProofs (disch := omega) only [go_sem]
theorem implTy_all : ∀ N : Nat, (∀ x : MType, SizeOf.sizeOf x < N → ∀ n : Nat, formed x = true → x.sz ≤ 4194304 → PCall Tryz.prog 162 [x.v] (.agg [.d (.s (sxT x).fAtom), .d (.ol n (lx (sxT x).fList (n + 1)))])) ∧
    (∀ xs : List MType, SizeOf.sizeOf xs < N → ∀ n q : Nat, formeds xs = true → xs.length ≤ 4194304 → (∀ t ∈ xs, t.sz ≤ 4194304) → PCall Tryz.prog 192 [.c (.d (.sl (xs.map MType.enc)))] (.c (.d (.ol n (lx (xs.map sxT) q)))))
  | 0 => ⟨fun x h => by omega, fun x h => by omega⟩
  | N + 1 => by
    obtain ⟨ih, ihS⟩ := implTy_all N
    refine ⟨fun x hn n hf hsz => ?_, fun xs hn n q hf hlen hsz => ?_⟩
    · have lArgs := MType.lt_Args x
      have hts := ty_sz hsz
      have hx := sxT_eq x
      rw [formed_eq, Bool.and_eq_true] at hf
      have hfi := of_dec hf.1
      have hall : ∀ t ∈ x.fArgs, t.sz ≤ 4194304 := fun t ht => by
        obtain ⟨i, hi, e⟩ := List.getElem_of_mem ht
        rw [← e]; exact (arg_sz hi hsz).1
      intro S
      refine acall_cwLs (n) 1 (rs := [.cell 2 32]) Tryz.checked.mixed Tryz.func162 Tryz.ntmps162 rfl rfl rfl rfl rfl ?_
      simp -implicitDefEqProofs (disch := omega) only [go_sem]
      with_reducible refine split2 (fun hb => ?_) (fun hb => ?_) <;> have h := hb <;> (try simp only [wf_preprocess] at h) <;> simp -implicitDefEqProofs (disch := omega) only [go_sem, hb] <;> (repeat (with_reducible refine And.intro ?_ ?_; focus first | omega | rfl | assumption | exact ⟨_, rfl, rfl⟩ | (simp; omega) | (simp; done)))
      · rw [if_pos h] at hx
        rw [hx]
        (repeat (with_reducible refine And.intro ?_ ?_; focus first | omega | rfl | assumption | exact ⟨_, rfl, rfl⟩ | (simp; omega) | (simp; done)))
        refine call_w (implAtom_lab _ n) ?_
        simp -implicitDefEqProofs (disch := omega) only [go_sem]
        rfl
      have k1 := h
      rw [if_neg h] at hx
      with_reducible refine split2 (fun hb => ?_) (fun hb => ?_) <;> have h := hb <;> (try simp only [wf_preprocess] at h) <;> simp -implicitDefEqProofs (disch := omega) only [go_sem, hb] <;> (repeat (with_reducible refine And.intro ?_ ?_; focus first | omega | rfl | assumption | exact ⟨_, rfl, rfl⟩ | (simp; omega) | (simp; done)))
      · rw [if_pos h] at hx
        rw [hx]
        refine call_w (implAtom_lab _ (n + 1)) ?_
        simp -implicitDefEqProofs (disch := omega) only [go_sem]
        refine call_w (implAtom_lab _ (n + 1 + 1)) ?_
        simp -implicitDefEqProofs (disch := omega) only [go_sem]
        refine call_w (implList_l _ _) ?_
        simp -implicitDefEqProofs (disch := omega) only [go_sem]
        rfl
      have k4 := h
      rw [if_neg h] at hx
      with_reducible refine split2 (fun hb => ?_) (fun hb => ?_) <;> have h := hb <;> (try simp only [wf_preprocess] at h) <;> simp -implicitDefEqProofs (disch := omega) only [go_sem, hb] <;> (repeat (with_reducible refine And.intro ?_ ?_; focus first | omega | rfl | assumption | exact ⟨_, rfl, rfl⟩ | (simp; omega) | (simp; done)))
      · have hlen : x.fArgs.length = 1 := by omega
        obtain ⟨a, ha⟩ := List.length_eq_one_iff.1 hlen
        have ha0 : x.fArgs[0]'(by omega) = a := by simp [ha]
        rw [if_neg (by omega), if_pos h, ha] at hx
        have hfa : formed a = true := formeds_iff.1 hf.2 a (by rw [ha]; simp)
        have hsa : a.sz ≤ 4194304 := hall a (by rw [ha]; simp)
        have hla : SizeOf.sizeOf a < N := by
          have := List.sizeOf_lt_of_mem (show a ∈ x.fArgs by rw [ha]; simp)
          omega
        rw [hx]
        refine call_w (implAtom_lab _ (n + 1)) ?_
        simp -implicitDefEqProofs (disch := omega) only [go_sem]
        refine call_w (implAtom_lab _ (n + 1 + 1)) ?_
        simp -implicitDefEqProofs (disch := omega) only [go_sem, ha, List.getD_cons_zero]
        (repeat (with_reducible refine And.intro ?_ ?_; focus first | omega | rfl | assumption | exact ⟨_, rfl, rfl⟩ | (simp; omega) | (simp; done)))
        refine call_w (ih a hla (n + 1 + 1 + 1) hfa hsa) ?_
        simp -implicitDefEqProofs (disch := omega) only [go_sem]
        refine call_w (implList_l _ _) ?_
        simp -implicitDefEqProofs (disch := omega) only [go_sem]
        simp only [fAtom_list, fList_list, List.cons_append, List.nil_append, List.map_cons, List.map_nil, lx_cons, lx_nil, labX_atom, cntX_atom, labX_eq, fAtom_atom, fList_atom, wAssoc]
      have k3 := h
      with_reducible refine split2 (fun hb => ?_) (fun hb => ?_) <;> have h := hb <;> (try simp only [wf_preprocess] at h) <;> simp -implicitDefEqProofs (disch := omega) only [go_sem, hb] <;> (repeat (with_reducible refine And.intro ?_ ?_; focus first | omega | rfl | assumption | exact ⟨_, rfl, rfl⟩ | (simp; omega) | (simp; done)))
      · rw [if_pos ⟨by omega, by omega⟩] at hx
        rw [hx]
        refine call_w (implAtom_lab _ n) ?_
        simp -implicitDefEqProofs (disch := omega) only [go_sem]
        rfl
      rw [if_neg (by omega), if_neg k3] at hx
      rw [hx]
      refine call_w (implAtom_lab _ (n + 1)) ?_
      simp -implicitDefEqProofs (disch := omega) only [go_sem]
      refine call_w (ihS x.fArgs (by omega) 0 (n + 1 + 1) hf.2 hts.1 hall) ?_
      simp -implicitDefEqProofs (disch := omega) only [go_sem]
      have hl : (lx (x.fArgs.map sxT) (n + 1 + 1)).length = x.fArgs.length := by rw [lx_length, List.length_map]
      have hr := lx_rows (l := x.fArgs.map sxT) (n := n + 1 + 1)
      (repeat (with_reducible refine And.intro ?_ ?_; focus first | omega | rfl | assumption | exact ⟨_, rfl, rfl⟩ | (simp; omega) | (simp; done)))
      refine call_w (implList_d _) ?_
      simp -implicitDefEqProofs (disch := omega) only [go_sem]
      simp only [fAtom_list, fList_list, List.cons_append, List.nil_append, lx_cons, lx_nil, labX_atom, cntX_atom]
    · have hsnoc := fun (i : Nat) (hi : i < xs.length) => lx_snoc' (l := xs.map sxT) (i := i) (by rw [List.length_map]; exact hi) q
      intro S
      refine acall_cwL (n) (rs := [.tmp 2]) Tryz.checked.mixed Tryz.func192 Tryz.ntmps192 rfl rfl rfl rfl rfl ?_
      simp -implicitDefEqProofs (disch := omega) only [go_sem]
      (repeat (with_reducible refine And.intro ?_ ?_; focus first | omega | rfl | assumption | exact ⟨_, rfl, rfl⟩ | (simp; omega) | (simp; done)))
      refine aw_ltok n 3 2 [] (.inl rfl) (by simp) ?_
      refine loop_at (ι := Nat) Tryz.checked.mixed rfl [3, 7, 8, 9] (fun i => [.c (.tsl (0, 1) (lx ((xs.map sxT).take i) q)), .c (.d (.sl (xs.map MType.enc))), .c (.d (.i .i64 xs.length)), .c (.d (.i .i64 i))]) (fun i => [.seed n, .ltok n 2 (lx ((xs.map sxT).take i) q)] :: S)
        (fun i => i ≤ xs.length) (fun i => xs.length - i) 0 rfl rfl (Nat.zero_le _) ?_
      intro i hi
      simp -implicitDefEqProofs (disch := omega) only [go_sem]
      with_reducible refine split2 (fun hb => ?_) (fun hb => ?_) <;> have h := hb <;> (try simp only [wf_preprocess] at h) <;> simp -implicitDefEqProofs (disch := omega) only [go_sem, hb] <;> (repeat (with_reducible refine And.intro ?_ ?_; focus first | omega | rfl | assumption | exact ⟨_, rfl, rfl⟩ | (simp; omega) | (simp; done)))
      · have hi' : i < xs.length := by omega
        have hs := hsnoc i hi'
        rw [List.getElem_map] at hs
        have hl : (lx ((xs.map sxT).take i) q).length ≤ i := by rw [lx_length]; exact List.length_take_le _ _
        (repeat (with_reducible refine And.intro ?_ ?_; focus first | omega | rfl | assumption | exact ⟨_, rfl, rfl⟩ | (simp; omega) | (simp; done)))
        refine call_w (ih xs[i] (by have := List.sizeOf_lt_of_mem (List.getElem_mem hi'); omega) (q + cntXs ((xs.map sxT).take i)) (formeds_iff.1 hf _ (List.getElem_mem hi')) (hsz _ (List.getElem_mem hi'))) ?_
        simp -implicitDefEqProofs (disch := omega) only [go_sem]
        (repeat (with_reducible refine And.intro ?_ ?_; focus first | omega | rfl | assumption | exact ⟨_, rfl, rfl⟩ | (simp; omega) | (simp; done)))
        rw [hs]
        exact inv_drop 2 (by decide) (i + 1) (by omega) rfl rfl rfl rfl (by omega)
      · have hi' : i = (xs.map sxT).length := by rw [List.length_map]; omega
        rw [hi', List.take_length]
theorem implTy_lab (x : MType) (n : Nat) (hf : formed x = true) (hsz : x.sz ≤ 4194304) : PCall Tryz.prog 162 [x.v] (.agg [.d (.s (sxT x).fAtom), .d (.ol n (lx (sxT x).fList (n + 1)))]) := (implTy_all _).1 x (Nat.lt_succ_self _) n hf hsz
theorem implTys_lab (xs : List MType) (n q : Nat) (hf : formeds xs = true) (hlen : xs.length ≤ 4194304) (hsz : ∀ t ∈ xs, t.sz ≤ 4194304) : PCall Tryz.prog 192 [.c (.d (.sl (xs.map MType.enc)))] (.c (.d (.ol n (lx (xs.map sxT) q)))) := (implTy_all _).2 xs (Nat.lt_succ_self _) n q hf hlen hsz
end Go.Proofs.YtokcpelkieeddaaGreatDoor

namespace Go.Ab
theorem enc_atom (s : List UInt8) : (atomX s).enc = [.s s, .sl []] := by rw [MSExpr.enc_eq]; rfl
theorem enc_list (l : List MSExpr) : (listX l).enc = [.s [], .sl (l.map MSExpr.enc)] := by rw [MSExpr.enc_eq]; rfl
theorem encX_snoc {base l : List MSExpr} {i : Nat} (hi : i < l.length) : (base ++ l.take i).map MSExpr.enc ++ [[.s l[i].fAtom, .sl (l[i].fList.map MSExpr.enc)]] = (base ++ l.take (i + 1)).map MSExpr.enc := by
  rw [List.take_succ_eq_append_getElem hi, ← List.append_assoc, List.map_append (l₂ := [l[i]]), List.map_cons, List.map_nil, MSExpr.enc_eq]
theorem less_xf (s : List UInt8) (es : List (List D)) : Less (.agg [.d (.s s), .fsl es]) (.agg [.d (.s s), .d (.sl es)]) := cells_less' rfl fun j x y hx hy w σ S β v hv => by
  match j, hx, hy with
  | 0, hx, hy => cases hx; cases hy; exact hv
  | 1, hx, hy => cases hx; cases hy; exact hv.1
  | j + 2, hx, hy => simp at hx
theorem less_lx (x : MSExpr) (n : Nat) : Less (.agg [.d (.s x.fAtom), .d (.ol n (lx x.fList (n + 1)))]) x.v := by
  have h := less_lab (r := x.enc) (n := n)
  rw [labX_eq, MSExpr.v_eq] at h
  exact h
end Go.Ab
namespace Go.Proofs.YtokcpelkieeddaaGreatDoor
open Go Go.Ab
theorem specAtom0_ok (s : List UInt8) : PCall Tryz.prog 79 [.c (.d (.s s))] (.agg [.d (.s s), .fsl []]) := fun S => by
  refine acall_cw (rs := [.cell 2 32]) Tryz.checked.mixed Tryz.func79 Tryz.ntmps79 rfl rfl rfl rfl rfl ?_
  simp -implicitDefEqProofs (disch := omega) only [go_sem]
theorem specAtom_ok (s : List UInt8) : PCall Tryz.prog 79 [.c (.d (.s s))] (.agg [.d (.s s), .d (.sl [])]) := PCall.less (specAtom0_ok s) (less_xf s [])
theorem specList_ok (es : List (List D)) (hes : ∀ e ∈ es, e.length = 2) (hl : es.length ≤ 1073741824) : PCall Tryz.prog 78 [.c (.d (.sl es))] (.agg [.d (.s []), .d (.sl es)]) := fun S => by
  refine acall_cw (rs := [.cell 2 32]) Tryz.checked.mixed Tryz.func78 Tryz.ntmps78 rfl rfl rfl rfl rfl ?_
  simp -implicitDefEqProofs (disch := omega) only [go_sem]
  exact ⟨hes, ⟨_, rfl, rfl⟩, (fun y hy => by cases hy), hl⟩
theorem specList_esc (es : List (List D)) (hes : ∀ e ∈ es, e.length = 2) (hl : es.length ≤ 1073741824) (own0 : List Ab.Obj) (Ω : Store) : ACall Tryz.prog 78 [.c (.d (.sl es))] (own0 :: Ω)
    (fun r S' => r = .agg [.d (.s []), .tsl (0, own0.length + 1) es] ∧ S' = (own0 ++ [.box [.d (.s []), .tsl (0, own0.length + 1) es], .tok 2 es]) :: Ω) := by
  refine acall_cwe (rs := [.cell 2 32]) Tryz.checked.mixed Tryz.func78 Tryz.ntmps78 rfl rfl rfl rfl rfl ?_
  simp -implicitDefEqProofs (disch := omega) only [go_sem]
  exact ⟨hes, ⟨_, rfl, rfl⟩, (fun y hy => by cases hy), hl⟩
theorem specWords_ok (xs : List (List UInt8)) (hx : xs.length ≤ 1073741824) : PCall Tryz.prog 151 [.c (.d (.sl (xs.map encS)))] (.c (.d (.sl ((wordsX xs).map MSExpr.enc)))) := fun S => by
  refine acall_cw (rs := [.tmp 2]) Tryz.checked.mixed Tryz.func151 Tryz.ntmps151 rfl rfl rfl rfl rfl ?_
  simp -implicitDefEqProofs (disch := omega) only [go_sem]
  (repeat (with_reducible refine And.intro ?_ ?_; focus first | omega | rfl | assumption | exact ⟨_, rfl, rfl⟩ | (simp; omega) | (simp; done)))
  refine aw_tok 3 2 [] rfl (by simp) ?_
  refine loop_at (ι := Nat) Tryz.checked.mixed rfl [0, 3, 4] (fun i => [.c (.d (.sl (xs.map encS))), .c (.tsl (0, 0) (((wordsX xs).take i).map MSExpr.enc)), .c (.d (.i .i64 i))]) (fun i => [.tok 2 (((wordsX xs).take i).map MSExpr.enc)] :: S)
    (fun i => i ≤ xs.length) (fun i => xs.length - i) 0 rfl rfl (Nat.zero_le _) ?_
  intro i hi
  have hl : (((wordsX xs).take i).map MSExpr.enc).length ≤ i := by rw [List.length_map]; exact List.length_take_le _ _
  simp -implicitDefEqProofs (disch := omega) only [go_sem]
  with_reducible refine split2 (fun hb => ?_) (fun hb => ?_) <;> have h := hb <;> (try simp only [wf_preprocess] at h) <;> simp -implicitDefEqProofs (disch := omega) only [go_sem, hb] <;> (repeat (with_reducible refine And.intro ?_ ?_; focus first | omega | rfl | assumption | exact ⟨_, rfl, rfl⟩ | (simp; omega) | (simp; done)))
  · have hi' : i < xs.length := by omega
    have hs := encX_snoc (base := []) (l := wordsX xs) (i := i) (by rw [words_len]; exact hi')
    have hg : (wordsX xs)[i]'(by rw [words_len]; exact hi') = atomX xs[i] := by simp [wordsX]
    rw [hg] at hs
    simp only [List.nil_append, fAtom_atom, fList_atom, List.map_nil] at hs
    (repeat (with_reducible refine And.intro ?_ ?_; focus first | omega | rfl | assumption | exact ⟨_, rfl, rfl⟩ | (simp; omega) | (simp; done)))
    refine call_w (specAtom_ok xs[i]) ?_
    simp -implicitDefEqProofs (disch := omega) only [go_sem]
    (repeat (with_reducible refine And.intro ?_ ?_; focus first | omega | rfl | assumption | exact ⟨_, rfl, rfl⟩ | (simp; omega) | (simp; done)))
    rw [hs]
    exact inv_at (i + 1) (by omega) rfl rfl (by omega)
  · have hi' : i = (wordsX xs).length := by rw [words_len]; omega
    rw [hi', List.take_length]
theorem specNameList_ok (xs : List (List UInt8)) (hx : xs.length ≤ 1073741824) : PCall Tryz.prog 82 [.c (.d (.sl (xs.map encS)))] (.agg [.d (.s []), .d (.sl ((wordsX xs).map MSExpr.enc))]) := fun S => by
  refine acall_cw (rs := [.cell 2 32]) Tryz.checked.mixed Tryz.func82 Tryz.ntmps82 rfl rfl rfl rfl rfl ?_
  simp -implicitDefEqProofs (disch := omega) only [go_sem]
  refine call_w (specWords_ok xs hx) ?_
  simp -implicitDefEqProofs (disch := omega) only [go_sem]
theorem specTy_all : ∀ N : Nat, (∀ x : MType, SizeOf.sizeOf x < N → x.sz ≤ 4194304 → PCall Tryz.prog 80 [x.v] (.agg [.d (.s (sxT x).fAtom), .d (.sl ((sxT x).fList.map MSExpr.enc))]))
  | 0 => fun x h => by omega
  | N + 1 => by
    have ih := specTy_all N
    intro x hn hsz
    have lArgs := MType.lt_Args x
    have hts := ty_sz hsz
    have hx := sxT_eq x
    have hall : ∀ t ∈ x.fArgs, t.sz ≤ 4194304 := fun t ht => by
      obtain ⟨i, hi, e⟩ := List.getElem_of_mem ht
      rw [← e]; exact (arg_sz hi hsz).1
    intro S
    refine acall_cw (rs := [.cell 2 32]) Tryz.checked.mixed Tryz.func80 Tryz.ntmps80 rfl rfl rfl rfl rfl ?_
    simp -implicitDefEqProofs (disch := omega) only [go_sem]
    with_reducible refine split2 (fun hb => ?_) (fun hb => ?_) <;> have h := hb <;> (try simp only [wf_preprocess] at h) <;> simp -implicitDefEqProofs (disch := omega) only [go_sem, hb] <;> (repeat (with_reducible refine And.intro ?_ ?_; focus first | omega | rfl | assumption | exact ⟨_, rfl, rfl⟩ | (simp; omega) | (simp; done)))
    · rw [if_pos h] at hx
      rw [hx]
      (repeat (with_reducible refine And.intro ?_ ?_; focus first | omega | rfl | assumption | exact ⟨_, rfl, rfl⟩ | (simp; omega) | (simp; done)))
      refine call_w (specAtom_ok _) ?_
      simp -implicitDefEqProofs (disch := omega) only [go_sem]
      rfl
    rw [if_neg h] at hx
    with_reducible refine split2 (fun hb => ?_) (fun hb => ?_) <;> have h := hb <;> (try simp only [wf_preprocess] at h) <;> simp -implicitDefEqProofs (disch := omega) only [go_sem, hb] <;> (repeat (with_reducible refine And.intro ?_ ?_; focus first | omega | rfl | assumption | exact ⟨_, rfl, rfl⟩ | (simp; omega) | (simp; done)))
    · rw [if_pos h] at hx
      rw [hx]
      refine call_w (specAtom_ok _) ?_
      simp -implicitDefEqProofs (disch := omega) only [go_sem]
      refine call_w (specAtom_ok _) ?_
      simp -implicitDefEqProofs (disch := omega) only [go_sem]
      refine call_w (specList_ok _ (by simp) (by simp)) ?_
      simp -implicitDefEqProofs (disch := omega) only [go_sem]
      simp only [fAtom_list, fList_list, List.map_cons, List.map_nil, enc_atom, wDyn]
    rw [if_neg h] at hx
    have fin1 : x.fKind = 2 → x.fArgs.length = 0 → sxT x = atomX x.fName := fun a b => by rw [hx, if_pos ⟨a, b⟩]
    have fin2 : ¬ (x.fKind = 2 ∧ x.fArgs.length = 0) → sxT x = listX ((if x.fKind = 3 then [atomX wAssoc] else []) ++ [atomX x.fName] ++ x.fArgs.map sxT) := fun a => by rw [hx, if_neg a]
    clear hx
    repeat' (first | (with_reducible refine split2 (fun hb => ?_) (fun hb => ?_) <;> have h := hb <;> (try simp only [wf_preprocess] at h) <;> simp -implicitDefEqProofs (disch := omega) only [go_sem, hb] <;> (repeat (with_reducible refine And.intro ?_ ?_; focus first | omega | rfl | assumption | exact ⟨_, rfl, rfl⟩ | (simp; omega) | (simp; done)))))
    · rw [fin1 (by omega) (by omega)]
      refine call_w (specAtom_ok _) ?_
      simp -implicitDefEqProofs (disch := omega) only [go_sem]
      rfl
    · exfalso; omega
    · have hx := fin2 (by omega)
      rw [if_neg h, List.nil_append] at hx
      refine call_w (specAtom_ok _) ?_
      simp -implicitDefEqProofs (disch := omega) only [go_sem]
      (repeat (with_reducible refine And.intro ?_ ?_; focus first | omega | rfl | assumption | exact ⟨_, rfl, rfl⟩ | (simp; omega) | (simp; done)))
      refine loop_at (ι := Nat) Tryz.checked.mixed rfl [1, 2, 3, 4] (fun i => [.c (.ptr (0, 0) 0), .c (.ptr (0, 1) 0), .c (.ptr (0, 2) 0), .c (.d (.i .i64 i))])
        (fun i => [.box [.d (.i .i64 x.fKind), .d (.s x.fName), .d (.sl (x.fArgs.map MType.enc))], .box [.d (.s []), .fsl []], .box [.d (.s []), .tsl (0, 3) (([atomX x.fName] ++ (x.fArgs.map sxT).take i).map MSExpr.enc)], .tok 2 (([atomX x.fName] ++ (x.fArgs.map sxT).take i).map MSExpr.enc)] :: S)
        (fun i => i ≤ x.fArgs.length) (fun i => x.fArgs.length - i) 0 rfl ?_ (Nat.zero_le _) ?_
      · simp only [List.take_zero, List.append_nil, List.map_cons, List.map_nil, List.cons_append, List.nil_append, enc_atom] <;> (try rfl)
      intro i hi
      have hl : (([atomX x.fName] ++ (x.fArgs.map sxT).take i).map MSExpr.enc).length ≤ i + 2 := by
        rw [List.length_map, List.length_append]
        have := List.length_take_le i (x.fArgs.map sxT)
        simp only [List.length_cons, List.length_nil]; omega
      have hs := fun hi => encX_snoc (base := [atomX x.fName]) (l := x.fArgs.map sxT) (i := i) hi
      have hrw := enc_rows (l := [atomX x.fName] ++ (x.fArgs.map sxT).take i)
      generalize hR : ([atomX x.fName] ++ (x.fArgs.map sxT).take i).map MSExpr.enc = R at hl hs hrw
      simp -implicitDefEqProofs (disch := omega) only [go_sem]
      with_reducible refine split2 (fun hb => ?_) (fun hb => ?_) <;> have h := hb <;> (try simp only [wf_preprocess] at h) <;> simp -implicitDefEqProofs (disch := omega) only [go_sem, hb] <;> (repeat (with_reducible refine And.intro ?_ ?_; focus first | omega | rfl | assumption | exact ⟨_, rfl, rfl⟩ | (simp; omega) | (simp; done)))
      · have hi' : i < x.fArgs.length := by omega
        have hs' := hs (by rw [List.length_map]; exact hi')
        rw [List.getElem_map] at hs'
        (repeat (with_reducible refine And.intro ?_ ?_; focus first | omega | rfl | assumption | exact ⟨_, rfl, rfl⟩ | (simp; omega) | (simp; done)))
        refine call_w (ih x.fArgs[i] (by have := List.sizeOf_lt_of_mem (List.getElem_mem hi'); omega) (hall _ (List.getElem_mem hi'))) ?_
        simp -implicitDefEqProofs (disch := omega) only [go_sem]
        (repeat (with_reducible refine And.intro ?_ ?_; focus first | omega | rfl | assumption | exact ⟨_, rfl, rfl⟩ | (simp; omega) | (simp; done)))
        rw [hs']
        exact inv_at (i + 1) (by omega) rfl rfl (by omega)
      · have hi' : i = (x.fArgs.map sxT).length := by rw [List.length_map]; omega
        rw [hx, ← hR, hi', List.take_length]
        simp only [fAtom_list, fList_list, List.cons_append, List.nil_append]
    · have hx := fin2 (by omega)
      rw [if_pos h] at hx
      refine call_w (specAtom_ok _) ?_
      simp -implicitDefEqProofs (disch := omega) only [go_sem]
      (repeat (with_reducible refine And.intro ?_ ?_; focus first | omega | rfl | assumption | exact ⟨_, rfl, rfl⟩ | (simp; omega) | (simp; done)))
      refine call_w (specAtom_ok _) ?_
      simp -implicitDefEqProofs (disch := omega) only [go_sem]
      (repeat (with_reducible refine And.intro ?_ ?_; focus first | omega | rfl | assumption | exact ⟨_, rfl, rfl⟩ | (simp; omega) | (simp; done)))
      refine loop_at (ι := Nat) Tryz.checked.mixed rfl [1, 2, 3, 4] (fun i => [.c (.ptr (0, 0) 0), .c (.ptr (0, 1) 0), .c (.ptr (0, 2) 0), .c (.d (.i .i64 i))])
        (fun i => [.box [.d (.i .i64 x.fKind), .d (.s x.fName), .d (.sl (x.fArgs.map MType.enc))], .box [.d (.s []), .fsl []], .box [.d (.s []), .tsl (0, 3) (([atomX wAssoc, atomX x.fName] ++ (x.fArgs.map sxT).take i).map MSExpr.enc)], .tok 2 (([atomX wAssoc, atomX x.fName] ++ (x.fArgs.map sxT).take i).map MSExpr.enc)] :: S)
        (fun i => i ≤ x.fArgs.length) (fun i => x.fArgs.length - i) 0 rfl ?_ (Nat.zero_le _) ?_
      · simp only [List.take_zero, List.append_nil, List.map_cons, List.map_nil, List.cons_append, List.nil_append, enc_atom] <;> (try rfl)
      intro i hi
      have hl : (([atomX wAssoc, atomX x.fName] ++ (x.fArgs.map sxT).take i).map MSExpr.enc).length ≤ i + 2 := by
        rw [List.length_map, List.length_append]
        have := List.length_take_le i (x.fArgs.map sxT)
        simp only [List.length_cons, List.length_nil]; omega
      have hs := fun hi => encX_snoc (base := [atomX wAssoc, atomX x.fName]) (l := x.fArgs.map sxT) (i := i) hi
      have hrw := enc_rows (l := [atomX wAssoc, atomX x.fName] ++ (x.fArgs.map sxT).take i)
      generalize hR : ([atomX wAssoc, atomX x.fName] ++ (x.fArgs.map sxT).take i).map MSExpr.enc = R at hl hs hrw
      simp -implicitDefEqProofs (disch := omega) only [go_sem]
      with_reducible refine split2 (fun hb => ?_) (fun hb => ?_) <;> have h := hb <;> (try simp only [wf_preprocess] at h) <;> simp -implicitDefEqProofs (disch := omega) only [go_sem, hb] <;> (repeat (with_reducible refine And.intro ?_ ?_; focus first | omega | rfl | assumption | exact ⟨_, rfl, rfl⟩ | (simp; omega) | (simp; done)))
      · have hi' : i < x.fArgs.length := by omega
        have hs' := hs (by rw [List.length_map]; exact hi')
        rw [List.getElem_map] at hs'
        (repeat (with_reducible refine And.intro ?_ ?_; focus first | omega | rfl | assumption | exact ⟨_, rfl, rfl⟩ | (simp; omega) | (simp; done)))
        refine call_w (ih x.fArgs[i] (by have := List.sizeOf_lt_of_mem (List.getElem_mem hi'); omega) (hall _ (List.getElem_mem hi'))) ?_
        simp -implicitDefEqProofs (disch := omega) only [go_sem]
        (repeat (with_reducible refine And.intro ?_ ?_; focus first | omega | rfl | assumption | exact ⟨_, rfl, rfl⟩ | (simp; omega) | (simp; done)))
        rw [hs']
        exact inv_at (i + 1) (by omega) rfl rfl (by omega)
      · have hi' : i = (x.fArgs.map sxT).length := by rw [List.length_map]; omega
        rw [hx, ← hR, hi', List.take_length]
        simp only [fAtom_list, fList_list, List.cons_append, List.nil_append]
    · have hx := fin2 (by omega)
      rw [if_neg h, List.nil_append] at hx
      refine call_w (specAtom_ok _) ?_
      simp -implicitDefEqProofs (disch := omega) only [go_sem]
      (repeat (with_reducible refine And.intro ?_ ?_; focus first | omega | rfl | assumption | exact ⟨_, rfl, rfl⟩ | (simp; omega) | (simp; done)))
      refine loop_at (ι := Nat) Tryz.checked.mixed rfl [1, 2, 3, 4] (fun i => [.c (.ptr (0, 0) 0), .c (.ptr (0, 1) 0), .c (.ptr (0, 2) 0), .c (.d (.i .i64 i))])
        (fun i => [.box [.d (.i .i64 x.fKind), .d (.s x.fName), .d (.sl (x.fArgs.map MType.enc))], .box [.d (.s []), .fsl []], .box [.d (.s []), .tsl (0, 3) (([atomX x.fName] ++ (x.fArgs.map sxT).take i).map MSExpr.enc)], .tok 2 (([atomX x.fName] ++ (x.fArgs.map sxT).take i).map MSExpr.enc)] :: S)
        (fun i => i ≤ x.fArgs.length) (fun i => x.fArgs.length - i) 0 rfl ?_ (Nat.zero_le _) ?_
      · simp only [List.take_zero, List.append_nil, List.map_cons, List.map_nil, List.cons_append, List.nil_append, enc_atom] <;> (try rfl)
      intro i hi
      have hl : (([atomX x.fName] ++ (x.fArgs.map sxT).take i).map MSExpr.enc).length ≤ i + 2 := by
        rw [List.length_map, List.length_append]
        have := List.length_take_le i (x.fArgs.map sxT)
        simp only [List.length_cons, List.length_nil]; omega
      have hs := fun hi => encX_snoc (base := [atomX x.fName]) (l := x.fArgs.map sxT) (i := i) hi
      have hrw := enc_rows (l := [atomX x.fName] ++ (x.fArgs.map sxT).take i)
      generalize hR : ([atomX x.fName] ++ (x.fArgs.map sxT).take i).map MSExpr.enc = R at hl hs hrw
      simp -implicitDefEqProofs (disch := omega) only [go_sem]
      with_reducible refine split2 (fun hb => ?_) (fun hb => ?_) <;> have h := hb <;> (try simp only [wf_preprocess] at h) <;> simp -implicitDefEqProofs (disch := omega) only [go_sem, hb] <;> (repeat (with_reducible refine And.intro ?_ ?_; focus first | omega | rfl | assumption | exact ⟨_, rfl, rfl⟩ | (simp; omega) | (simp; done)))
      · have hi' : i < x.fArgs.length := by omega
        have hs' := hs (by rw [List.length_map]; exact hi')
        rw [List.getElem_map] at hs'
        (repeat (with_reducible refine And.intro ?_ ?_; focus first | omega | rfl | assumption | exact ⟨_, rfl, rfl⟩ | (simp; omega) | (simp; done)))
        refine call_w (ih x.fArgs[i] (by have := List.sizeOf_lt_of_mem (List.getElem_mem hi'); omega) (hall _ (List.getElem_mem hi'))) ?_
        simp -implicitDefEqProofs (disch := omega) only [go_sem]
        (repeat (with_reducible refine And.intro ?_ ?_; focus first | omega | rfl | assumption | exact ⟨_, rfl, rfl⟩ | (simp; omega) | (simp; done)))
        rw [hs']
        exact inv_at (i + 1) (by omega) rfl rfl (by omega)
      · have hi' : i = (x.fArgs.map sxT).length := by rw [List.length_map]; omega
        rw [hx, ← hR, hi', List.take_length]
        simp only [fAtom_list, fList_list, List.cons_append, List.nil_append]
theorem specTy_ok (x : MType) (hsz : x.sz ≤ 4194304) : PCall Tryz.prog 80 [x.v] (.agg [.d (.s (sxT x).fAtom), .d (.sl ((sxT x).fList.map MSExpr.enc))]) := specTy_all _ x (Nat.lt_succ_self _) hsz
theorem specTys_ok (xs : List MType) (hlen : xs.length ≤ 4194304) (hsz : ∀ t ∈ xs, t.sz ≤ 4194304) : PCall Tryz.prog 97 [.c (.d (.sl (xs.map MType.enc)))] (.c (.d (.sl ((xs.map sxT).map MSExpr.enc)))) := fun S => by
  refine acall_cw (rs := [.tmp 2]) Tryz.checked.mixed Tryz.func97 Tryz.ntmps97 rfl rfl rfl rfl rfl ?_
  simp -implicitDefEqProofs (disch := omega) only [go_sem]
  (repeat (with_reducible refine And.intro ?_ ?_; focus first | omega | rfl | assumption | exact ⟨_, rfl, rfl⟩ | (simp; omega) | (simp; done)))
  refine aw_tok 3 2 [] rfl (by simp) ?_
  refine loop_at (ι := Nat) Tryz.checked.mixed rfl [0, 3, 4] (fun i => [.c (.d (.sl (xs.map MType.enc))), .c (.tsl (0, 0) (((xs.map sxT).take i).map MSExpr.enc)), .c (.d (.i .i64 i))]) (fun i => [.tok 2 (((xs.map sxT).take i).map MSExpr.enc)] :: S)
    (fun i => i ≤ xs.length) (fun i => xs.length - i) 0 rfl rfl (Nat.zero_le _) ?_
  intro i hi
  have hl : (((xs.map sxT).take i).map MSExpr.enc).length ≤ i := by rw [List.length_map]; exact List.length_take_le _ _
  simp -implicitDefEqProofs (disch := omega) only [go_sem]
  with_reducible refine split2 (fun hb => ?_) (fun hb => ?_) <;> have h := hb <;> (try simp only [wf_preprocess] at h) <;> simp -implicitDefEqProofs (disch := omega) only [go_sem, hb] <;> (repeat (with_reducible refine And.intro ?_ ?_; focus first | omega | rfl | assumption | exact ⟨_, rfl, rfl⟩ | (simp; omega) | (simp; done)))
  · have hi' : i < xs.length := by omega
    have hs := encX_snoc (base := []) (l := xs.map sxT) (i := i) (by rw [List.length_map]; exact hi')
    rw [List.getElem_map] at hs
    simp only [List.nil_append] at hs
    (repeat (with_reducible refine And.intro ?_ ?_; focus first | omega | rfl | assumption | exact ⟨_, rfl, rfl⟩ | (simp; omega) | (simp; done)))
    refine call_w (specTy_ok xs[i] (hsz _ (List.getElem_mem hi'))) ?_
    simp -implicitDefEqProofs (disch := omega) only [go_sem]
    (repeat (with_reducible refine And.intro ?_ ?_; focus first | omega | rfl | assumption | exact ⟨_, rfl, rfl⟩ | (simp; omega) | (simp; done)))
    rw [hs]
    exact inv_at (i + 1) (by omega) rfl rfl (by omega)
  · have hi' : i = (xs.map sxT).length := by rw [List.length_map]; omega
    rw [hi', List.take_length]
theorem specIf_ok (b : Bool) (x : MSExpr) (hsz : x.sz ≤ 67108864) : PCall Tryz.prog 81 [.c (.d (.b b)), x.v] (outX b x).v := by
  have zero : PCall Tryz.prog 81 [.c (.d (.b b)), x.v] (.agg [.d (.s []), .fsl []]) → PCall Tryz.prog 81 [.c (.d (.b b)), x.v] zeroX.v := fun h => PCall.less h (less_xf [] [])
  cases b with
  | false =>
    refine zero fun S => ?_
    refine acall_cw (rs := [.cell 4 32]) Tryz.checked.mixed Tryz.func81 Tryz.ntmps81 rfl rfl rfl rfl rfl ?_
    simp -implicitDefEqProofs (disch := omega) only [go_sem]
  | true =>
    show PCall Tryz.prog 81 [.c (.d (.b true)), x.v] (ifX x).v
    unfold ifX
    cases hv : validX x with
    | false =>
      refine zero fun S => ?_
      refine acall_cw (rs := [.cell 4 32]) Tryz.checked.mixed Tryz.func81 Tryz.ntmps81 rfl rfl rfl rfl rfl ?_
      simp -implicitDefEqProofs (disch := omega) only [go_sem]
      refine call_w (specValidX_ok x hsz) ?_
      simp -implicitDefEqProofs (disch := omega) only [go_sem, hv]
    | true =>
      intro S
      refine acall_cw (rs := [.cell 4 32]) Tryz.checked.mixed Tryz.func81 Tryz.ntmps81 rfl rfl rfl rfl rfl ?_
      simp -implicitDefEqProofs (disch := omega) only [go_sem]
      refine call_w (specValidX_ok x hsz) ?_
      simp -implicitDefEqProofs (disch := omega) only [go_sem, hv]
theorem implIf_lab (x : MSExpr) (n : Nat) (hsz : x.sz ≤ 67108864) : PCall Tryz.prog 63 [.agg [.d (.s x.fAtom), .d (.ol n (lx x.fList (n + 1)))]] (.agg [.d (.s (ifX x).fAtom), .d (.ol n (lx (ifX x).fList (n + 1)))]) := by
  unfold ifX
  cases hv : validX x with
  | false =>
    refine PCall.less (fun S => ?_) (less_x0 [] n)
    refine acall_cw (rs := [.cell 2 32]) Tryz.checked.mixed Tryz.func63 Tryz.ntmps63 rfl rfl rfl rfl rfl ?_
    simp -implicitDefEqProofs (disch := omega) only [go_sem]
    refine call_l (implValidX_ok x hsz) (.cons (less_lx x n) .nil) ?_
    simp -implicitDefEqProofs (disch := omega) only [go_sem, hv]
  | true =>
    intro S
    refine acall_cw (rs := [.cell 2 32]) Tryz.checked.mixed Tryz.func63 Tryz.ntmps63 rfl rfl rfl rfl rfl ?_
    simp -implicitDefEqProofs (disch := omega) only [go_sem]
    refine call_l (implValidX_ok x hsz) (.cons (less_lx x n) .nil) ?_
    simp -implicitDefEqProofs (disch := omega) only [go_sem, hv]
end Go.Proofs.YtokcpelkieeddaaGreatDoor

