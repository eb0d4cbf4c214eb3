/-
  SEVERAL TEXTS IN ONE (merged by program): contracts and models, each with its own heading.
-/
import Derived.Test.YtlmhknhlmicmeaaGreatPartRebC
set_option linter.unusedSimpArgs false
set_option linter.unusedVariables false
set_option maxRecDepth 4000
namespace Go.Proofs.YtlmhknhlmicmeaaGreat
open Go Go.Ab
theorem arg_sz {x : MType} {i : Nat} (hi : i < x.fArgs.length) (h : x.sz ≤ 4194304) : x.fArgs[i].sz ≤ 4194304 ∧ x.fArgs.length ≤ 4194304 ∧ x.fName.length ≤ 4194304 := by
  have hx : x.fArgs[i].sz ≤ szRows (x.fArgs.map MType.enc) := szRows_mem (List.mem_map_of_mem (List.getElem_mem hi))
  simp only [MType.sz, MType.enc_eq, szRow, D.sz, List.length_map] at h
  omega
theorem ty_sz {x : MType} (h : x.sz ≤ 4194304) : x.fArgs.length ≤ 4194304 ∧ x.fName.length ≤ 4194304 := by
  simp only [MType.sz, MType.enc_eq, szRow, D.sz, List.length_map] at h
  omega
theorem cnts_drop : ∀ {ts : List MType} {i : Nat} (hi : i < ts.length), MType.cnts (ts.drop i) = ts[i].cnt + MType.cnts (ts.drop (i + 1)) := fun {ts} {i} hi => by
  rw [List.drop_eq_getElem_cons hi, MType.cnts]
theorem depths_drop : ∀ {ts : List MType} {i : Nat} (hi : i < ts.length), depths (ts.drop i) = max (depthT ts[i] + 1) (depths (ts.drop (i + 1))) := fun {ts} {i} hi => by
  rw [List.drop_eq_getElem_cons hi, depths]
theorem formeds_drop : ∀ {ts : List MType} {i : Nat} (hi : i < ts.length), formeds (ts.drop i) = (formed ts[i] && formeds (ts.drop (i + 1))) := fun {ts} {i} hi => by
  rw [List.drop_eq_getElem_cons hi, formeds]
theorem l4Left_all : ∀ n : Nat, ∀ x : MType, SizeOf.sizeOf x < n → ∀ l : Int, 0 ≤ l → l ≤ 1073741824 → x.sz ≤ 4194304 → PCall Tryz.prog 216 [x.v, .c (.d (.i .i64 l))] (.c (.d (.i .i64 (sub1 l x.cnt))))
  | 0 => fun x h => by omega
  | n + 1 => by
    have ih := l4Left_all n
    intro x hn l h0 h1 hsz S
    have lArgs := MType.lt_Args x
    have hts := ty_sz hsz
    have hcn := MType.cnt_eq x
    refine acall_cw (rs := [.tmp 4]) Tryz.checked.mixed Tryz.func216 Tryz.ntmps216 rfl rfl rfl rfl rfl ?_
    simp -implicitDefEqProofs (disch := omega) only [go_sem]
    refine loop_at (ι := Nat × Int) Tryz.checked.mixed rfl [1, 2, 5] (fun y => [.c (.d (.i .i64 y.2)), .c (.ptr (0, 0) 0), .c (.d (.i .i64 y.1))]) (fun y => [.box [.d (.i .i64 x.fKind), .d (.s x.fName), .d (.sl (x.fArgs.map MType.enc))]] :: S)
      (fun y => y.1 ≤ x.fArgs.length ∧ -1 ≤ y.2 ∧ y.2 ≤ 1073741824 ∧ (0 ≤ y.2 → sub1 l x.cnt = sub1 y.2 (MType.cnts (x.fArgs.drop y.1))) ∧ (y.2 < 0 → sub1 l x.cnt = -1)) (fun y => x.fArgs.length - y.1) (0, l - 1) rfl rfl ⟨Nat.zero_le _, by simp only; omega, by simp only; omega, fun h => ?_, fun h => ?_⟩ ?_
    · simp only [List.drop_zero] at h ⊢
      unfold sub1
      rw [hcn]
      split <;> split <;> omega
    · simp only at h
      exact sub1_no (by omega)
    rintro ⟨i, c⟩ ⟨p1, p2, p3, p4, p5⟩
    simp only at p1 p2 p3 p4 p5
    simp -implicitDefEqProofs (disch := omega) only [go_sem]
    with_reducible refine split2 (fun hb => ?_) (fun hb => ?_) <;> have h := hb <;> (try simp only [wf_preprocess] at h) <;> simp -implicitDefEqProofs (disch := omega) only [go_sem, hb] <;> (repeat (with_reducible refine And.intro ?_ ?_; focus first | omega | rfl | assumption | exact ⟨_, rfl, rfl⟩ | (simp; omega) | (simp; done)))
    · have hi : i < x.fArgs.length := by omega
      with_reducible refine split2 (fun hb => ?_) (fun hb => ?_) <;> have h := hb <;> (try simp only [wf_preprocess] at h) <;> simp -implicitDefEqProofs (disch := omega) only [go_sem, hb] <;> (repeat (with_reducible refine And.intro ?_ ?_; focus first | omega | rfl | assumption | exact ⟨_, rfl, rfl⟩ | (simp; omega) | (simp; done)))
      · have hsz' := arg_sz hi hsz
        have p6 := p4 h
        rw [cnts_drop hi] at p6
        (repeat (with_reducible refine And.intro ?_ ?_; focus first | omega | rfl | assumption | exact ⟨_, rfl, rfl⟩ | (simp; omega) | (simp; done)))
        refine call_w (ih x.fArgs[i] (by have := List.sizeOf_lt_of_mem (List.getElem_mem hi); omega) c (by omega) (by omega) (by omega)) ?_
        simp -implicitDefEqProofs (disch := omega) only [go_sem] <;> (repeat (with_reducible refine And.intro ?_ ?_; focus first | omega | rfl | assumption | exact ⟨_, rfl, rfl⟩ | (simp; omega) | (simp; done)))
        refine inv_at (i + 1, sub1 c _) (by simp only; omega) rfl rfl ⟨by simp only; omega, ?_, ?_, fun h => ?_, fun h => ?_⟩
        · simp only; unfold sub1; split <;> omega
        · simp only; unfold sub1; split <;> omega
        · simp only at h ⊢
          rw [p6]
          have := sub1_nn (l := c) (a := x.fArgs[i].cnt) (by omega)
          rw [this.1]
          unfold sub1
          split <;> split <;> omega
        · simp only at h ⊢
          rw [p6]
          have := sub1_neg h
          exact sub1_no (by omega)
      · have hc : c = -1 := by omega
        rw [p5 (by omega), hc]
    · have hi : i = x.fArgs.length := by omega
      by_cases hc : 0 ≤ c
      · rw [p4 hc, hi, List.drop_length, MType.cnts, sub1_yes (by omega)]
        exact int_eq (by simp)
      · rw [p5 (by omega)]
        exact int_eq (by omega)
theorem l4Left_ok (x : MType) (l : Int) (h0 : 0 ≤ l) (h1 : l ≤ 1073741824) (hsz : x.sz ≤ 4194304) : PCall Tryz.prog 216 [x.v, .c (.d (.i .i64 l))] (.c (.d (.i .i64 (sub1 l x.cnt)))) := l4Left_all _ x (Nat.lt_succ_self _) l h0 h1 hsz
theorem l1Max_ok (a b : Int) : PCall Tryz.prog 133 [.c (.d (.i .i64 a)), .c (.d (.i .i64 b))] (.c (.d (.i .i64 (max a b)))) := fun S => by
  refine acall_cw (rs := [.tmp 4]) Tryz.checked.mixed Tryz.func133 Tryz.ntmps133 rfl rfl rfl rfl rfl ?_
  simp -implicitDefEqProofs (disch := omega) only [go_sem]
  with_reducible refine split2 (fun hb => ?_) (fun hb => ?_) <;> have h := hb <;> (try simp only [wf_preprocess] at h) <;> simp -implicitDefEqProofs (disch := omega) only [go_sem, hb] <;> (repeat (with_reducible refine And.intro ?_ ?_; focus first | omega | rfl | assumption | exact ⟨_, rfl, rfl⟩ | (simp; omega) | (simp; done)))
  · exact int_eq (by omega)
  · exact int_eq (by omega)
theorem specDepth_all : ∀ n : Nat, ∀ x : MType, SizeOf.sizeOf x < n → x.sz ≤ 4194304 → PCall Tryz.prog 217 [x.v] (.c (.d (.i .i64 (depthT x))))
  | 0 => fun x h => by omega
  | n + 1 => by
    have ih := specDepth_all n
    intro x hn hsz S
    have lArgs := MType.lt_Args x
    have hts := ty_sz hsz
    have hd1 := depthT_le x
    have hd2 := cnt_le x
    refine acall_cw (rs := [.tmp 2]) Tryz.checked.mixed Tryz.func217 Tryz.ntmps217 rfl rfl rfl rfl rfl ?_
    simp -implicitDefEqProofs (disch := omega) only [go_sem]
    refine loop_at (ι := Nat × Nat) Tryz.checked.mixed rfl [1, 3, 4] (fun y => [.c (.ptr (0, 0) 0), .c (.d (.i .i64 y.2)), .c (.d (.i .i64 y.1))]) (fun y => [.box [.d (.i .i64 x.fKind), .d (.s x.fName), .d (.sl (x.fArgs.map MType.enc))]] :: S)
      (fun y => y.1 ≤ x.fArgs.length ∧ depthT x = max y.2 (depths (x.fArgs.drop y.1))) (fun y => x.fArgs.length - y.1) (0, 0) rfl rfl ⟨Nat.zero_le _, by simp [depthT_eq]⟩ ?_
    rintro ⟨i, c⟩ ⟨p1, p2⟩
    simp only at p1 p2
    simp -implicitDefEqProofs (disch := omega) only [go_sem]
    with_reducible refine split2 (fun hb => ?_) (fun hb => ?_) <;> have h := hb <;> (try simp only [wf_preprocess] at h) <;> simp -implicitDefEqProofs (disch := omega) only [go_sem, hb] <;> (repeat (with_reducible refine And.intro ?_ ?_; focus first | omega | rfl | assumption | exact ⟨_, rfl, rfl⟩ | (simp; omega) | (simp; done)))
    · have hi : i < x.fArgs.length := by omega
      have hsz' := arg_sz hi hsz
      rw [depths_drop hi] at p2
      have hd3 := depthT_le x.fArgs[i]
      have hd4 := cnt_le x.fArgs[i]
      (repeat (with_reducible refine And.intro ?_ ?_; focus first | omega | rfl | assumption | exact ⟨_, rfl, rfl⟩ | (simp; omega) | (simp; done)))
      refine call_w (ih x.fArgs[i] (by have := List.sizeOf_lt_of_mem (List.getElem_mem hi); omega) (by omega)) ?_
      simp -implicitDefEqProofs (disch := omega) only [go_sem] <;> (repeat (with_reducible refine And.intro ?_ ?_; focus first | omega | rfl | assumption | exact ⟨_, rfl, rfl⟩ | (simp; omega) | (simp; done)))
      refine call_w (l1Max_ok _ _) ?_
      simp -implicitDefEqProofs (disch := omega) only [go_sem] <;> (repeat (with_reducible refine And.intro ?_ ?_; focus first | omega | rfl | assumption | exact ⟨_, rfl, rfl⟩ | (simp; omega) | (simp; done)))
      rw [show max (c : Int) (1 + (depthT x.fArgs[i] : Int)) = ((max c (1 + depthT x.fArgs[i]) : Nat) : Int) by omega]
      exact inv_at (i + 1, max c (1 + depthT x.fArgs[i])) (by simp only; omega) rfl rfl ⟨by simp only; omega, by simp only; omega⟩
    · have hi : i = x.fArgs.length := by omega
      rw [hi, List.drop_length, depths] at p2
      exact int_eq (by omega)
theorem specDepth_ok (x : MType) (hsz : x.sz ≤ 4194304) : PCall Tryz.prog 217 [x.v] (.c (.d (.i .i64 (depthT x)))) := specDepth_all _ x (Nat.lt_succ_self _) hsz
theorem implDepth_all : ∀ n : Nat, ∀ x : MType, SizeOf.sizeOf x < n → x.sz ≤ 4194304 → PCall Tryz.prog 182 [x.v] (.c (.d (.i .i64 (depthT x))))
  | 0 => fun x h => by omega
  | n + 1 => by
    have ih := implDepth_all n
    intro x hn hsz S
    have lArgs := MType.lt_Args x
    have hts := ty_sz hsz
    have hd1 := depthT_le x
    have hd2 := cnt_le x
    refine acall_cw (rs := [.tmp 2]) Tryz.checked.mixed Tryz.func182 Tryz.ntmps182 rfl rfl rfl rfl rfl ?_
    simp -implicitDefEqProofs (disch := omega) only [go_sem]
    refine loop_at (ι := Nat × Nat) Tryz.checked.mixed rfl [3, 7, 8, 9] (fun y => [.c (.d (.i .i64 y.2)), .c (.d (.sl (x.fArgs.map MType.enc))), .c (.d (.i .i64 x.fArgs.length)), .c (.d (.i .i64 y.1))]) (fun y => [.box [.d (.i .i64 x.fKind), .d (.s x.fName), .d (.sl (x.fArgs.map MType.enc))]] :: S)
      (fun y => y.1 ≤ x.fArgs.length ∧ depthT x = max y.2 (depths (x.fArgs.drop y.1))) (fun y => x.fArgs.length - y.1) (0, 0) rfl rfl ⟨Nat.zero_le _, by simp [depthT_eq]⟩ ?_
    rintro ⟨i, c⟩ ⟨p1, p2⟩
    simp only at p1 p2
    simp -implicitDefEqProofs (disch := omega) only [go_sem]
    with_reducible refine split2 (fun hb => ?_) (fun hb => ?_) <;> have h := hb <;> (try simp only [wf_preprocess] at h) <;> simp -implicitDefEqProofs (disch := omega) only [go_sem, hb] <;> (repeat (with_reducible refine And.intro ?_ ?_; focus first | omega | rfl | assumption | exact ⟨_, rfl, rfl⟩ | (simp; omega) | (simp; done)))
    · have hi : i < x.fArgs.length := by omega
      have hsz' := arg_sz hi hsz
      rw [depths_drop hi] at p2
      have hd3 := depthT_le x.fArgs[i]
      have hd4 := cnt_le x.fArgs[i]
      (repeat (with_reducible refine And.intro ?_ ?_; focus first | omega | rfl | assumption | exact ⟨_, rfl, rfl⟩ | (simp; omega) | (simp; done)))
      refine call_w (ih x.fArgs[i] (by have := List.sizeOf_lt_of_mem (List.getElem_mem hi); omega) (by omega)) ?_
      simp -implicitDefEqProofs (disch := omega) only [go_sem] <;> (repeat (with_reducible refine And.intro ?_ ?_; focus first | omega | rfl | assumption | exact ⟨_, rfl, rfl⟩ | (simp; omega) | (simp; done)))
      rw [show max (c : Int) ((depthT x.fArgs[i] : Int) + 1) = ((max c (depthT x.fArgs[i] + 1) : Nat) : Int) by omega]
      exact inv_drop 1 (by decide) (i + 1, max c (depthT x.fArgs[i] + 1)) (by simp only; omega) rfl rfl rfl rfl ⟨by simp only; omega, by simp only; omega⟩
    · have hi : i = x.fArgs.length := by omega
      rw [hi, List.drop_length, depths] at p2
      exact int_eq (by omega)
theorem implDepth_ok (x : MType) (hsz : x.sz ≤ 4194304) : PCall Tryz.prog 182 [x.v] (.c (.d (.i .i64 (depthT x)))) := implDepth_all _ x (Nat.lt_succ_self _) hsz
theorem typeSize_all : ∀ n : Nat, ∀ x : MType, SizeOf.sizeOf x < n → x.sz ≤ 4194304 → PCall Tryz.prog 183 [x.v] (.c (.d (.i .i64 x.cnt)))
  | 0 => fun x h => by omega
  | n + 1 => by
    have ih := typeSize_all n
    intro x hn hsz S
    have lArgs := MType.lt_Args x
    have hts := ty_sz hsz
    have hd2 := cnt_le x
    refine acall_cw (rs := [.tmp 2]) Tryz.checked.mixed Tryz.func183 Tryz.ntmps183 rfl rfl rfl rfl rfl ?_
    simp -implicitDefEqProofs (disch := omega) only [go_sem]
    refine loop_at (ι := Nat × Nat) Tryz.checked.mixed rfl [3, 7, 8, 9] (fun y => [.c (.d (.i .i64 y.2)), .c (.d (.sl (x.fArgs.map MType.enc))), .c (.d (.i .i64 x.fArgs.length)), .c (.d (.i .i64 y.1))]) (fun y => [.box [.d (.i .i64 x.fKind), .d (.s x.fName), .d (.sl (x.fArgs.map MType.enc))]] :: S)
      (fun y => y.1 ≤ x.fArgs.length ∧ x.cnt = y.2 + MType.cnts (x.fArgs.drop y.1)) (fun y => x.fArgs.length - y.1) (0, 1) rfl rfl ⟨Nat.zero_le _, by simp [MType.cnt_eq]⟩ ?_
    rintro ⟨i, c⟩ ⟨p1, p2⟩
    simp only at p1 p2
    simp -implicitDefEqProofs (disch := omega) only [go_sem]
    with_reducible refine split2 (fun hb => ?_) (fun hb => ?_) <;> have h := hb <;> (try simp only [wf_preprocess] at h) <;> simp -implicitDefEqProofs (disch := omega) only [go_sem, hb] <;> (repeat (with_reducible refine And.intro ?_ ?_; focus first | omega | rfl | assumption | exact ⟨_, rfl, rfl⟩ | (simp; omega) | (simp; done)))
    · have hi : i < x.fArgs.length := by omega
      have hsz' := arg_sz hi hsz
      rw [cnts_drop hi] at p2
      (repeat (with_reducible refine And.intro ?_ ?_; focus first | omega | rfl | assumption | exact ⟨_, rfl, rfl⟩ | (simp; omega) | (simp; done)))
      refine call_w (ih x.fArgs[i] (by have := List.sizeOf_lt_of_mem (List.getElem_mem hi); omega) (by omega)) ?_
      simp -implicitDefEqProofs (disch := omega) only [go_sem] <;> (repeat (with_reducible refine And.intro ?_ ?_; focus first | omega | rfl | assumption | exact ⟨_, rfl, rfl⟩ | (simp; omega) | (simp; done)))
      rw [show (c : Int) + (x.fArgs[i].cnt : Int) = ((c + x.fArgs[i].cnt : Nat) : Int) by omega]
      exact inv_drop 1 (by decide) (i + 1, c + x.fArgs[i].cnt) (by simp only; omega) rfl rfl rfl rfl ⟨by simp only; omega, by simp only; omega⟩
    · have hi : i = x.fArgs.length := by omega
      rw [hi, List.drop_length, MType.cnts] at p2
      exact int_eq (by omega)
theorem typeSize_ok (x : MType) (hsz : x.sz ≤ 4194304) : PCall Tryz.prog 183 [x.v] (.c (.d (.i .i64 x.cnt))) := typeSize_all _ x (Nat.lt_succ_self _) hsz
theorem isFormed_all : ∀ n : Nat, (∀ x : MType, SizeOf.sizeOf x < n → x.sz ≤ 4194304 → PCall Tryz.prog 181 [x.v] (.c (.d (.b (formed x))))) ∧
    (∀ xs : List MType, SizeOf.sizeOf xs < n → xs.length ≤ 4194304 → (∀ t ∈ xs, t.sz ≤ 4194304) → PCall Tryz.prog 143 [.c (.d (.sl (xs.map MType.enc))), .c (.fn 206 [])] (.c (.d (.b (!formeds xs)))))
  | 0 => ⟨fun x h => by omega, fun x h => by omega⟩
  | n + 1 => by
    obtain ⟨ih, ihS⟩ := isFormed_all n
    refine ⟨fun x hn hsz S => ?_, fun xs hn hlen hsz S => ?_⟩
    · have lArgs := MType.lt_Args x
      have hts := ty_sz hsz
      have fin : ∀ b, fineT x.fKind x.fName x.fArgs.length = b → formed x = (b && formeds x.fArgs) := fun b hb => by rw [← hb]; exact formed_eq x
      have hall : ∀ t ∈ x.fArgs, t.sz ≤ 4194304 := fun t ht => by
        obtain ⟨i, hi, e⟩ := List.getElem_of_mem ht
        rw [← e]; exact (arg_sz hi hsz).1
      have tail := ihS x.fArgs (by omega) hts.1 hall
      have yes : fineT x.fKind x.fName x.fArgs.length = true → formed x = !(!formeds x.fArgs) := fun h => by rw [fin _ h]; simp
      have no : fineT x.fKind x.fName x.fArgs.length = false → formed x = false := fun h => by rw [fin _ h]; simp
      have shut : ¬ ((x.fKind = 1 ∨ x.fKind = 4) ∧ validName x.fName = true ∧ x.fArgs.length = 0 ∨ x.fKind = 3 ∧ validName x.fName = true ∧ x.fArgs.length = 1 ∨ x.fKind = 2 ∧ (validName x.fName = true ∧ x.fArgs.length ≤ 3 ∨ builtInB x.fName = true ∧ x.fArgs.length = 0)) → V.c (.d (.b false)) = V.c (.d (.b (formed x))) := fun h => bool_eq (no (dec_false h)).symm
      have open_ : ((x.fKind = 1 ∨ x.fKind = 4) ∧ validName x.fName = true ∧ x.fArgs.length = 0 ∨ x.fKind = 3 ∧ validName x.fName = true ∧ x.fArgs.length = 1 ∨ x.fKind = 2 ∧ (validName x.fName = true ∧ x.fArgs.length ≤ 3 ∨ builtInB x.fName = true ∧ x.fArgs.length = 0)) → V.c (.d (.b (!(!formeds x.fArgs)))) = V.c (.d (.b (formed x))) := fun h => bool_eq (yes (dec_true h)).symm
      clear yes no fin
      refine acall_cw (rs := [.tmp 2]) Tryz.checked.mixed Tryz.func181 Tryz.ntmps181 rfl rfl rfl rfl rfl ?_
      simp -implicitDefEqProofs (disch := omega) only [go_sem]
      repeat' (first
        | (with_reducible refine split2 (fun hb => ?_) (fun hb => ?_) <;> have h := hb <;> (try simp only [wf_preprocess] at h) <;> simp -implicitDefEqProofs (disch := omega) only [go_sem, hb] <;> (repeat (with_reducible refine And.intro ?_ ?_; focus first | omega | rfl | assumption | exact ⟨_, rfl, rfl⟩ | (simp; omega) | (simp; done))))
        | (refine call_w (implValidName_ok x.fName (by omega)) ?_; simp -implicitDefEqProofs (disch := omega) only [go_sem])
        | (refine call_w (isBuiltIn_ok x.fName) ?_; simp -implicitDefEqProofs (disch := omega) only [go_sem])
        | (refine call_w tail ?_; simp -implicitDefEqProofs (disch := omega) only [go_sem]))
      all_goals first
        | (refine shut (fun y => ?_); rcases y with ⟨_, _, _⟩ | ⟨_, _, _⟩ | ⟨_, ⟨_, _⟩ | ⟨_, _⟩⟩ <;> first | omega | (simp_all; done))
        | (refine open_ ?_; first
            | exact .inl ⟨by omega, by assumption, by omega⟩
            | exact .inr (.inl ⟨by omega, by assumption, by omega⟩)
            | exact .inr (.inr ⟨by omega, .inl ⟨by assumption, by omega⟩⟩)
            | exact .inr (.inr ⟨by omega, .inr ⟨by assumption, by omega⟩⟩))
    · have hcl : ∀ y ∈ xs, PCall Tryz.prog 206 [y.v] (.c (.d (.b (!formed y)))) := fun y hy S => by
        have hys := List.sizeOf_lt_of_mem hy
        refine acall_cw (rs := [.tmp 2]) Tryz.checked.mixed Tryz.func206 Tryz.ntmps206 rfl rfl rfl rfl rfl ?_
        simp -implicitDefEqProofs (disch := omega) only [go_sem]
        refine call_w (ih y (by omega) (hsz y hy)) ?_
        simp -implicitDefEqProofs (disch := omega) only [go_sem] <;> (repeat (with_reducible refine And.intro ?_ ?_; focus first | omega | rfl | assumption | exact ⟨_, rfl, rfl⟩ | (simp; omega) | (simp; done)))
      have hidx : PCall Tryz.prog 177 [.c (.d (.sl (xs.map MType.enc))), .c (.fn 206 [])] (.c (.d (.i .i64 (indexP (fun y => !formed y) xs)))) := fun S => by
        refine acall_cw (rs := [.tmp 4]) Tryz.checked.mixed Tryz.func177 Tryz.ntmps177 rfl rfl rfl rfl rfl ?_
        simp -implicitDefEqProofs (disch := omega) only [go_sem]
        refine loop_at (ι := Nat) Tryz.checked.mixed rfl [0, 1, 7, 8] (fun i => [.c (.d (.sl (xs.map MType.enc))), .c (.fn 206 []), .c (.d (.i .i64 xs.length)), .c (.d (.i .i64 i))]) (fun _ => [] :: S)
          (fun i => i ≤ xs.length ∧ ∀ j, ∀ hj : j < xs.length, j < i → formed xs[j] = true) (fun i => xs.length - i) 0 rfl rfl ⟨Nat.zero_le _, fun j _ h => by omega⟩ ?_
        rintro i ⟨p1, p2⟩
        simp -implicitDefEqProofs (disch := omega) only [go_sem]
        with_reducible refine split2 (fun hb => ?_) (fun hb => ?_) <;> have h := hb <;> (try simp only [wf_preprocess] at h) <;> simp -implicitDefEqProofs (disch := omega) only [go_sem, hb] <;> (repeat (with_reducible refine And.intro ?_ ?_; focus first | omega | rfl | assumption | exact ⟨_, rfl, rfl⟩ | (simp; omega) | (simp; done)))
        · have hi : i < xs.length := by omega
          (repeat (with_reducible refine And.intro ?_ ?_; focus first | omega | rfl | assumption | exact ⟨_, rfl, rfl⟩ | (simp; omega) | (simp; done)))
          refine call_w (hcl xs[i] (List.getElem_mem hi)) ?_
          simp -implicitDefEqProofs (disch := omega) only [go_sem] <;> (repeat (with_reducible refine And.intro ?_ ?_; focus first | omega | rfl | assumption | exact ⟨_, rfl, rfl⟩ | (simp; omega) | (simp; done)))
          with_reducible refine split2 (fun hb => ?_) (fun hb => ?_) <;> have h := hb <;> (try simp only [wf_preprocess] at h) <;> simp -implicitDefEqProofs (disch := omega) only [go_sem, hb] <;> (repeat (with_reducible refine And.intro ?_ ?_; focus first | omega | rfl | assumption | exact ⟨_, rfl, rfl⟩ | (simp; omega) | (simp; done)))
          · rw [indexP_here hi (fun j hj hji => by rw [p2 j hj hji]; rfl) (by rw [h]; rfl)]
          · refine inv_at (i + 1) (by omega) rfl rfl ⟨by omega, fun j hj hji => ?_⟩
            by_cases e : j = i
            · subst e; exact h
            · exact p2 j hj (by omega)
        · rw [indexP_no (fun j hj => by rw [p2 j hj (by omega)]; rfl)]
      refine acall_cw (rs := [.tmp 4]) Tryz.checked.mixed Tryz.func143 Tryz.ntmps143 rfl rfl rfl rfl rfl ?_
      simp -implicitDefEqProofs (disch := omega) only [go_sem]
      refine call_w (hidx) ?_
      simp -implicitDefEqProofs (disch := omega) only [go_sem] <;> (repeat (with_reducible refine And.intro ?_ ?_; focus first | omega | rfl | assumption | exact ⟨_, rfl, rfl⟩ | (simp; omega) | (simp; done)))
      rw [← formeds_any]
      exact bool_eq indexP_pos
theorem isFormed_ok (x : MType) (hsz : x.sz ≤ 4194304) : PCall Tryz.prog 181 [x.v] (.c (.d (.b (formed x)))) := (isFormed_all _).1 x (Nat.lt_succ_self _) hsz
theorem implValidType_ok (x : MType) (hsz : x.sz ≤ 4194304) : PCall Tryz.prog 156 [x.v] (.c (.d (.b (validType x)))) := fun S => by
  refine acall_cw (rs := [.tmp 2]) Tryz.checked.mixed Tryz.func156 Tryz.ntmps156 rfl rfl rfl rfl rfl ?_
  simp -implicitDefEqProofs (disch := omega) only [go_sem]
  refine call_w (isFormed_ok x hsz) ?_
  simp -implicitDefEqProofs (disch := omega) only [go_sem] <;> (repeat (with_reducible refine And.intro ?_ ?_; focus first | omega | rfl | assumption | exact ⟨_, rfl, rfl⟩ | (simp; omega) | (simp; done)))
  with_reducible refine split2 (fun hb => ?_) (fun hb => ?_) <;> have h := hb <;> (try simp only [wf_preprocess] at h) <;> simp -implicitDefEqProofs (disch := omega) only [go_sem, hb] <;> (repeat (with_reducible refine And.intro ?_ ?_; focus first | omega | rfl | assumption | exact ⟨_, rfl, rfl⟩ | (simp; omega) | (simp; done)))
  · have h1 := h
    refine call_w (implDepth_ok x hsz) ?_
    simp -implicitDefEqProofs (disch := omega) only [go_sem] <;> (repeat (with_reducible refine And.intro ?_ ?_; focus first | omega | rfl | assumption | exact ⟨_, rfl, rfl⟩ | (simp; omega) | (simp; done)))
    with_reducible refine split2 (fun hb => ?_) (fun hb => ?_) <;> have h := hb <;> (try simp only [wf_preprocess] at h) <;> simp -implicitDefEqProofs (disch := omega) only [go_sem, hb] <;> (repeat (with_reducible refine And.intro ?_ ?_; focus first | omega | rfl | assumption | exact ⟨_, rfl, rfl⟩ | (simp; omega) | (simp; done)))
    · refine call_w (typeSize_ok x hsz) ?_
      simp -implicitDefEqProofs (disch := omega) only [go_sem] <;> (repeat (with_reducible refine And.intro ?_ ?_; focus first | omega | rfl | assumption | exact ⟨_, rfl, rfl⟩ | (simp; omega) | (simp; done)))
      exact bool_eq (by rw [decide_dec]; exact dec_congr ⟨fun y => ⟨h1, by omega, by omega⟩, fun y => by have := y.2.2; omega⟩)
    · exact bool_eq (dec_false fun y => by have := y.2.1; omega).symm
  · exact bool_eq (dec_false fun y => by rw [y.1] at h; cases h).symm
set_option maxHeartbeats 1000000 in
theorem l4Form_all : ∀ n : Nat, ∀ x : MType, SizeOf.sizeOf x < n → x.sz ≤ 4194304 → PCall Tryz.prog 218 [x.v] (.c (.d (.b (formed x))))
  | 0 => fun x h => by omega
  | n + 1 => by
    have ih := l4Form_all n
    intro x hn hsz S
    have lArgs := MType.lt_Args x
    have hts := ty_sz hsz
    have shut : ¬ ((x.fKind = 1 ∨ x.fKind = 4) ∧ validName x.fName = true ∧ x.fArgs.length = 0 ∨ x.fKind = 3 ∧ validName x.fName = true ∧ x.fArgs.length = 1 ∨ x.fKind = 2 ∧ (validName x.fName = true ∧ x.fArgs.length ≤ 3 ∨ builtInB x.fName = true ∧ x.fArgs.length = 0)) → V.c (.d (.b false)) = V.c (.d (.b (formed x))) := fun h => bool_eq (by rw [formed_eq, show fineT x.fKind x.fName x.fArgs.length = false from dec_false h]; rfl)
    have fine0 : ∀ b : Bool, (b = true ↔ ((x.fKind = 1 ∨ x.fKind = 4) ∧ validName x.fName = true ∧ x.fArgs.length = 0 ∨ x.fKind = 3 ∧ validName x.fName = true ∧ x.fArgs.length = 1 ∨ x.fKind = 2 ∧ (validName x.fName = true ∧ x.fArgs.length ≤ 3 ∨ builtInB x.fName = true ∧ x.fArgs.length = 0))) → b = fineT x.fKind x.fName x.fArgs.length := fun b h => by
      rw [Bool.eq_iff_iff, h]
      unfold fineT
      rw [dec_eq_true]
    refine acall_cw (rs := [.tmp 2]) Tryz.checked.mixed Tryz.func218 Tryz.ntmps218 rfl rfl rfl rfl rfl ?_
    simp -implicitDefEqProofs (disch := omega) only [go_sem]
    refine call_w (specValidName_ok x.fName (by omega)) ?_
    simp -implicitDefEqProofs (disch := omega) only [go_sem] <;> (repeat (with_reducible refine And.intro ?_ ?_; focus first | omega | rfl | assumption | exact ⟨_, rfl, rfl⟩ | (simp; omega) | (simp; done)))
    repeat' (first
      | (with_reducible refine split2 (fun hb => ?_) (fun hb => ?_) <;> have h := hb <;> (try simp only [wf_preprocess] at h) <;> simp -implicitDefEqProofs (disch := omega) only [go_sem, hb] <;> (repeat (with_reducible refine And.intro ?_ ?_; focus first | omega | rfl | assumption | exact ⟨_, rfl, rfl⟩ | (simp; omega) | (simp; done))))
      | (refine call_w (l4Base_ok x.fName) ?_; simp -implicitDefEqProofs (disch := omega) only [go_sem]))
    all_goals first
      | (refine shut (fun y => ?_); rcases y with ⟨_, _, _⟩ | ⟨_, _, _⟩ | ⟨_, ⟨_, _⟩ | ⟨_, _⟩⟩ <;> first | omega | (simp_all; done))
      | skip
    all_goals
      refine loop_at (ι := Nat × Bool) Tryz.checked.mixed rfl [1, 3, 4] (fun y => [.c (.ptr (0, 0) 0), .c (.d (.b y.2)), .c (.d (.i .i64 y.1))]) (fun y => [.box [.d (.i .i64 x.fKind), .d (.s x.fName), .d (.sl (x.fArgs.map MType.enc))]] :: S)
        (fun y => y.1 ≤ x.fArgs.length ∧ (y.2 && formeds (x.fArgs.drop y.1)) = formed x) (fun y => x.fArgs.length - y.1) (0, fineT x.fKind x.fName x.fArgs.length) ?_ rfl ⟨Nat.zero_le _, by rw [formed_eq]; rfl⟩ ?_
      · simp only [List.map_cons, List.map_nil]
        simp -implicitDefEqProofs (disch := omega) only [go_sem, List.cons.injEq, V.c.injEq, C.d.injEq, D.b.injEq, Int.natCast_zero]
        refine fine0 _ ⟨fun y => ?_, fun y => ?_⟩
        · (try simp only [decide_eq_true_eq, Bool.false_eq_true] at y) <;> first
            | exact .inl ⟨by omega, by assumption, by omega⟩
            | exact .inr (.inl ⟨by omega, by assumption, by omega⟩)
            | exact .inr (.inr ⟨by omega, .inl ⟨by assumption, by omega⟩⟩)
            | exact .inr (.inr ⟨by omega, .inr ⟨by assumption, by omega⟩⟩)
        · rcases y with ⟨_, _, _⟩ | ⟨_, _, _⟩ | ⟨_, ⟨_, _⟩ | ⟨_, _⟩⟩ <;> first | omega | (simp only [decide_eq_true_eq]; omega) | (simp_all; done)
      rintro ⟨i, c⟩ ⟨p1, p2⟩
      simp only at p1 p2
      simp -implicitDefEqProofs (disch := omega) only [go_sem]
      with_reducible refine split2 (fun hb => ?_) (fun hb => ?_) <;> have h := hb <;> (try simp only [wf_preprocess] at h) <;> simp -implicitDefEqProofs (disch := omega) only [go_sem, hb] <;> (repeat (with_reducible refine And.intro ?_ ?_; focus first | omega | rfl | assumption | exact ⟨_, rfl, rfl⟩ | (simp; omega) | (simp; done)))
      · have hi : i < x.fArgs.length := by omega
        have hsz' := arg_sz hi hsz
        rw [formeds_drop hi] at p2
        with_reducible refine split2 (fun hb => ?_) (fun hb => ?_) <;> have h := hb <;> (try simp only [wf_preprocess] at h) <;> simp -implicitDefEqProofs (disch := omega) only [go_sem, hb] <;> (repeat (with_reducible refine And.intro ?_ ?_; focus first | omega | rfl | assumption | exact ⟨_, rfl, rfl⟩ | (simp; omega) | (simp; done)))
        · refine call_w (ih x.fArgs[i] (by have := List.sizeOf_lt_of_mem (List.getElem_mem hi); omega) (by omega)) ?_
          simp -implicitDefEqProofs (disch := omega) only [go_sem]
          exact inv_at (i + 1, formed x.fArgs[i]) (by simp only; omega) rfl rfl ⟨by simp only; omega, by rw [← p2, h]; rfl⟩
        · exact inv_at (i + 1, false) (by simp only; omega) rfl rfl ⟨by simp only; omega, by rw [← p2, h]; rfl⟩
      · have hi : i = x.fArgs.length := by omega
        rw [hi, List.drop_length, formeds, Bool.and_true] at p2
        rw [p2]
theorem l4Form_ok (x : MType) (hsz : x.sz ≤ 4194304) : PCall Tryz.prog 218 [x.v] (.c (.d (.b (formed x)))) := l4Form_all _ x (Nat.lt_succ_self _) hsz
theorem specValidType_ok (x : MType) (hsz : x.sz ≤ 4194304) : PCall Tryz.prog 191 [x.v] (.c (.d (.b (validType x)))) := fun S => by
  refine acall_cw (rs := [.tmp 2]) Tryz.checked.mixed Tryz.func191 Tryz.ntmps191 rfl rfl rfl rfl rfl ?_
  simp -implicitDefEqProofs (disch := omega) only [go_sem]
  refine call_w (l4Left_ok x 60 (by omega) (by omega) hsz) ?_
  simp -implicitDefEqProofs (disch := omega) only [go_sem] <;> (repeat (with_reducible refine And.intro ?_ ?_; focus first | omega | rfl | assumption | exact ⟨_, rfl, rfl⟩ | (simp; omega) | (simp; done)))
  with_reducible refine split2 (fun hb => ?_) (fun hb => ?_) <;> have h := hb <;> (try simp only [wf_preprocess] at h) <;> simp -implicitDefEqProofs (disch := omega) only [go_sem, hb] <;> (repeat (with_reducible refine And.intro ?_ ?_; focus first | omega | rfl | assumption | exact ⟨_, rfl, rfl⟩ | (simp; omega) | (simp; done)))
  · have h1 := (sub1_nn (l := 60) (a := x.cnt) (by omega)).2
    refine call_w (specDepth_ok x hsz) ?_
    simp -implicitDefEqProofs (disch := omega) only [go_sem] <;> (repeat (with_reducible refine And.intro ?_ ?_; focus first | omega | rfl | assumption | exact ⟨_, rfl, rfl⟩ | (simp; omega) | (simp; done)))
    with_reducible refine split2 (fun hb => ?_) (fun hb => ?_) <;> have h := hb <;> (try simp only [wf_preprocess] at h) <;> simp -implicitDefEqProofs (disch := omega) only [go_sem, hb] <;> (repeat (with_reducible refine And.intro ?_ ?_; focus first | omega | rfl | assumption | exact ⟨_, rfl, rfl⟩ | (simp; omega) | (simp; done)))
    · refine call_w (l4Form_ok x hsz) ?_
      simp -implicitDefEqProofs (disch := omega) only [go_sem] <;> (repeat (with_reducible refine And.intro ?_ ?_; focus first | omega | rfl | assumption | exact ⟨_, rfl, rfl⟩ | (simp; omega) | (simp; done)))
      refine bool_eq ?_
      cases hf : formed x with
      | false => exact (dec_false fun y => by rw [hf] at y; cases y.1).symm
      | true => exact (dec_true ⟨hf, by omega, by omega⟩).symm
    · exact bool_eq (dec_false fun y => by have := y.2.1; omega).symm
  · have h1 := sub1_neg (l := 60) (a := x.cnt) (by omega)
    exact bool_eq (dec_false fun y => by have := y.2.2; omega).symm
end Go.Proofs.YtlmhknhlmicmeaaGreat

namespace Go.Ab
mutual
def MExpr.cnt : MExpr → Nat
  | .mk _ _ _ _ _ a b => 1 + (MExpr.cnts a + MArm.cnts b)
def MExpr.cnts : List MExpr → Nat
  | [] => 0
  | x :: xs => x.cnt + MExpr.cnts xs
def MArm.cnt : MArm → Nat
  | .mk _ _ b => b.cnt
def MArm.cnts : List MArm → Nat
  | [] => 0
  | x :: xs => x.cnt + MArm.cnts xs
end
theorem MExpr.cnt_eq (x : MExpr) : x.cnt = 1 + (MExpr.cnts x.fArgs + MArm.cnts x.fArms) := by cases x; rw [MExpr.cnt]; rfl
theorem MArm.cnt_eq (x : MArm) : x.cnt = x.fBody.cnt := by cases x; rw [MArm.cnt]; rfl
theorem MExpr.cnts_drop {xs : List MExpr} {i : Nat} (hi : i < xs.length) : MExpr.cnts (xs.drop i) = xs[i].cnt + MExpr.cnts (xs.drop (i + 1)) := by rw [List.drop_eq_getElem_cons hi, MExpr.cnts]
theorem MArm.cnts_drop {xs : List MArm} {i : Nat} (hi : i < xs.length) : MArm.cnts (xs.drop i) = xs[i].fBody.cnt + MArm.cnts (xs.drop (i + 1)) := by rw [List.drop_eq_getElem_cons hi, MArm.cnts, MArm.cnt_eq]
theorem MArm.sz_body (x : MArm) : x.fBody.sz ≤ x.sz := by
  simp only [MArm.sz, MArm.enc_eq, MExpr.sz, szRow, szRow_append, D.sz, List.length_map]
  omega
mutual
theorem MExpr.cnt_le : ∀ x : MExpr, x.cnt ≤ 1 + x.sz
  | .mk k t n m ty a b => by
    have h1 := MExpr.cnts_le a
    have h2 := MArm.cnts_le b
    rw [MExpr.cnt]
    simp only [MExpr.sz, MExpr.enc_eq, szRow, szRow_append, D.sz, List.length_map, MExpr.fArgs, MExpr.fArms]
    omega
theorem MExpr.cnts_le : ∀ xs : List MExpr, MExpr.cnts xs ≤ xs.length + szRows (xs.map MExpr.enc)
  | [] => by simp [MExpr.cnts]
  | x :: xs => by
    have h1 := MExpr.cnt_le x
    have h2 := MExpr.cnts_le xs
    rw [MExpr.cnts, List.length_cons, List.map_cons, szRows, MExpr.sz_def]
    omega
theorem MArm.cnt_le : ∀ x : MArm, x.cnt ≤ 1 + x.sz
  | .mk c v b => by
    have h1 := MExpr.cnt_le b
    have h2 := MArm.sz_body (.mk c v b)
    rw [MArm.cnt]
    simp only [MArm.fBody] at h2
    omega
theorem MArm.cnts_le : ∀ xs : List MArm, MArm.cnts xs ≤ xs.length + szRows (xs.map MArm.enc)
  | [] => by simp [MArm.cnts]
  | x :: xs => by
    have h1 := MArm.cnt_le x
    have h2 := MArm.cnts_le xs
    rw [MArm.cnts, List.length_cons, List.map_cons, szRows, MArm.sz_def]
    omega
end
end Go.Ab
namespace Go.Proofs.YtlmhknhlmicmeaaGreat
open Go Go.Ab
end Go.Proofs.YtlmhknhlmicmeaaGreat

namespace Go.Ab
mutual
def nodesT : MType → List MType
  | .mk k n a => .mk k n a :: nodesL a
def nodesL : List MType → List MType
  | [] => []
  | t :: ts => nodesT t ++ nodesL ts
end
theorem nodesT_eq (t : MType) : nodesT t = t :: nodesL t.fArgs := by cases t; rw [nodesT]; rfl
theorem nodesL_drop {ts : List MType} {i : Nat} (hi : i < ts.length) : nodesL (ts.drop i) = nodesT ts[i] ++ nodesL (ts.drop (i + 1)) := by rw [List.drop_eq_getElem_cons hi, nodesL]
mutual
theorem nodes_len : ∀ t : MType, (nodesT t).length = t.cnt
  | .mk k n a => by rw [nodesT, List.length_cons, MType.cnt, nodesL_len a]; omega
theorem nodesL_len : ∀ ts : List MType, (nodesL ts).length = MType.cnts ts
  | [] => rfl
  | t :: ts => by rw [nodesL, List.length_append, MType.cnts, nodes_len t, nodesL_len ts]
end
def addV (out : List (List UInt8)) (u : MType) : List (List UInt8) := if u.fKind = 1 ∧ u.fName ∉ out then out ++ [u.fName] else out
def tvars (out : List (List UInt8)) (t : MType) : List (List UInt8) := (nodesT t).foldl addV out
def tvarsL (out : List (List UInt8)) (ts : List MType) : List (List UInt8) := (nodesL ts).foldl addV out
theorem addV_len (out : List (List UInt8)) (u : MType) : (addV out u).length ≤ out.length + 1 := by
  unfold addV
  split <;> simp
theorem foldV_len : ∀ (us : List MType) (out : List (List UInt8)), (us.foldl addV out).length ≤ out.length + us.length
  | [], out => by simp
  | u :: us, out => by
    have h1 := addV_len out u
    have h2 := foldV_len us (addV out u)
    rw [List.foldl_cons, List.length_cons]
    omega
theorem tvars_len (t : MType) (out : List (List UInt8)) : (tvars out t).length ≤ out.length + t.cnt := by
  have := foldV_len (nodesT t) out
  rw [nodes_len] at this
  exact this
theorem tvars_eq (out : List (List UInt8)) (t : MType) : tvars out t = tvarsL (addV out t) t.fArgs := by
  unfold tvars tvarsL
  rw [nodesT_eq, List.foldl_cons]
theorem tvarsL_drop {ts : List MType} {i : Nat} (hi : i < ts.length) (out : List (List UInt8)) : tvarsL out (ts.drop i) = tvarsL (tvars out ts[i]) (ts.drop (i + 1)) := by
  unfold tvarsL tvars
  rw [nodesL_drop hi, List.foldl_append]
end Go.Ab

namespace Go.Proofs.YtlmhknhlmicmeaaGreat
open Go Go.Ab
theorem arg_szT {x : MType} {i : Nat} (hi : i < x.fArgs.length) (h : x.sz ≤ 4194304) : x.fArgs[i].sz ≤ 4194304 ∧ x.fArgs.length ≤ 4194304 ∧ x.fName.length ≤ 4194304 := by
  have hx : x.fArgs[i].sz ≤ szRows (x.fArgs.map MType.enc) := szRows_mem (List.mem_map_of_mem (List.getElem_mem hi))
  simp only [MType.sz, MType.enc_eq, szRow, D.sz, List.length_map] at h
  omega
theorem ty_szT {x : MType} (h : x.sz ≤ 4194304) : x.fArgs.length ≤ 4194304 ∧ x.fName.length ≤ 4194304 := by
  simp only [MType.sz, MType.enc_eq, szRow, D.sz, List.length_map] at h
  omega
theorem eachType_all : ∀ n : Nat, ∀ t : MType, SizeOf.sizeOf t < n → t.sz ≤ 4194304 → ∀ (g : Nat) (caps : List (Key × Nat)) (α : Type) (st : α → Store) (I : Nat → α → Prop) (f : α → MType → α) (hf : FStep Tryz.prog g caps st I f MType.v (fun u => u.sz ≤ 4194304)) (m : Nat) (a : α), I (m + t.cnt) a →
    I m ((nodesT t).foldl f a) ∧ ACall Tryz.prog 157 [t.v, .c (.fn g caps)] (st a) (fun r S' => r = .tup [] ∧ S' = st ((nodesT t).foldl f a))
  | 0 => fun t h => by omega
  | n + 1 => by
    have ih := eachType_all n
    intro t hn hsz g caps α st I f hf m a ha
    have lArgs := MType.lt_Args t
    have hts := ty_szT hsz
    rw [MType.cnt_eq, show m + (1 + MType.cnts t.fArgs) = (m + MType.cnts t.fArgs) + 1 by omega] at ha
    have h1 := hf _ a t ha hsz
    -- the arguments
    have hI : ∀ (ts : List MType), SizeOf.sizeOf ts < n → (∀ x ∈ ts, x.sz ≤ 4194304) → ∀ a, I (m + MType.cnts ts) a → I m ((nodesL ts).foldl f a) := by
      intro ts
      induction ts with
      | nil => intro _ _ a ha; exact ha
      | cons x xs ihx =>
        intro hs hz a ha
        simp only [List.cons.sizeOf_spec] at hs
        rw [nodesL, List.foldl_append]
        rw [MType.cnts, show m + (x.cnt + MType.cnts xs) = (m + MType.cnts xs) + x.cnt by omega] at ha
        exact ihx (by omega) (fun y hy => hz y (by simp [hy])) _ (ih x (by omega) (hz x (by simp)) g caps α st I f hf _ a ha).1
    have hall : ∀ x ∈ t.fArgs, x.sz ≤ 4194304 := fun x hx => by
      obtain ⟨i, hi, e⟩ := List.getElem_of_mem hx
      rw [← e]; exact (arg_szT hi hsz).1
    refine ⟨by rw [nodesT_eq, List.foldl_cons]; exact hI t.fArgs (by omega) hall _ h1.1, ?_⟩
    refine acall_cw (rs := []) Tryz.checked.mixed Tryz.func157 Tryz.ntmps157 rfl rfl rfl rfl rfl ?_
    simp -implicitDefEqProofs (disch := omega) only [go_sem]
    refine call_d rfl (h1.2 [_]) ?_
    simp -implicitDefEqProofs (disch := omega) only [go_sem]
    refine loop_at (ι := Nat × α) Tryz.checked.mixed rfl [1, 10, 11, 12] (fun y => [.c (.fn g (upCaps 1 caps)), .c (.d (.sl (t.fArgs.map MType.enc))), .c (.d (.i .i64 t.fArgs.length)), .c (.d (.i .i64 y.1))]) (fun y => [.box [.d (.i .i64 t.fKind), .d (.s t.fName), .d (.sl (t.fArgs.map MType.enc))]] :: st y.2)
      (fun y => y.1 ≤ t.fArgs.length ∧ I (m + MType.cnts (t.fArgs.drop y.1)) y.2 ∧ (nodesL (t.fArgs.drop y.1)).foldl f y.2 = (nodesT t).foldl f a) (fun y => t.fArgs.length - y.1) (0, f a t) rfl rfl ⟨Nat.zero_le _, h1.1, by rw [nodesT_eq, List.foldl_cons]; rfl⟩ ?_
    rintro ⟨i, b⟩ ⟨p1, p2, p3⟩
    simp only at p1 p2 p3
    simp -implicitDefEqProofs (disch := omega) only [go_sem]
    with_reducible refine split2 (fun hb => ?_) (fun hb => ?_) <;> have h := hb <;> (try simp only [wf_preprocess] at h) <;> simp -implicitDefEqProofs (disch := omega) only [go_sem, hb] <;> (repeat (with_reducible refine And.intro ?_ ?_; focus first | omega | rfl | assumption | exact ⟨_, rfl, rfl⟩ | (simp; omega) | (simp; done)))
    · have hi : i < t.fArgs.length := by omega
      have hs := List.sizeOf_lt_of_mem (List.getElem_mem hi)
      rw [nodesL_drop hi, List.foldl_append] at p3
      rw [List.drop_eq_getElem_cons hi, MType.cnts, show m + (t.fArgs[i].cnt + MType.cnts (t.fArgs.drop (i + 1))) = (m + MType.cnts (t.fArgs.drop (i + 1))) + t.fArgs[i].cnt by omega] at p2
      have h2 := (ih t.fArgs[i] (by omega) (arg_szT hi hsz).1 g caps α st I f hf _ b p2).1
      (repeat (with_reducible refine And.intro ?_ ?_; focus first | omega | rfl | assumption | exact ⟨_, rfl, rfl⟩ | (simp; omega) | (simp; done)))
      refine call_d rfl (((ih t.fArgs[i] (by omega) (arg_szT hi hsz).1 g (upCaps 1 caps) α (fun a => [.box [.d (.i .i64 t.fKind), .d (.s t.fName), .d (.sl (t.fArgs.map MType.enc))], .box [.d (.i .i64 t.fArgs[i].fKind), .d (.s t.fArgs[i].fName), .d (.sl (t.fArgs[i].fArgs.map MType.enc))]] :: st a) I f (hf.push _) _ b p2)).2) ?_
      simp -implicitDefEqProofs (disch := omega) only [go_sem]
      exact inv_drop 1 (by decide) (i + 1, (nodesT t.fArgs[i]).foldl f b) (by simp only; omega) rfl rfl (by simp only [zipTm, tmRefs, List.all_cons, List.all_nil, V.refs, C.refs, refs_upCaps1, Bool.and_true]) rfl ⟨by simp only; omega, h2, p3⟩
    · have hi : i = t.fArgs.length := by omega
      rw [hi, List.drop_length, nodesL, List.foldl_nil] at p3
      rw [p3]
theorem eachType_ok {t : MType} (hsz : t.sz ≤ 4194304) {g : Nat} {caps : List (Key × Nat)} {α : Type} {st : α → Store} {I : Nat → α → Prop} {f : α → MType → α} (hf : FStep Tryz.prog g caps st I f MType.v (fun u => u.sz ≤ 4194304)) (m : Nat) (a : α) (ha : I (m + t.cnt) a) :
    I m ((nodesT t).foldl f a) ∧ ACall Tryz.prog 157 [t.v, .c (.fn g caps)] (st a) (fun r S' => r = .tup [] ∧ S' = st ((nodesT t).foldl f a)) := eachType_all _ t (Nat.lt_succ_self _) hsz g caps α st I f hf m a ha
theorem variablesOf1_step (rest : List Ab.Obj) (S : Store) : FStep Tryz.prog 184 [((0, 0), 0)] (fun out : List (List UInt8) => (.box [.tsl (0, 1) (out.map encS)] :: .tok 1 (out.map encS) :: rest) :: S) (fun n out => out.length + n ≤ 1073741824) addV MType.v (fun u => u.sz ≤ 4194304) := by
  intro n out u hI hu
  refine ⟨by have := addV_len out u; omega, fun F => ?_⟩
  have hts := ty_szT hu
  refine acall_cw (rs := []) Tryz.checked.mixed Tryz.func184 Tryz.ntmps184 rfl rfl rfl rfl rfl ?_
  simp -implicitDefEqProofs (disch := omega) only [go_sem]
  with_reducible refine split2 (fun hb => ?_) (fun hb => ?_) <;> have h := hb <;> (try simp only [wf_preprocess] at h) <;> simp -implicitDefEqProofs (disch := omega) only [go_sem, hb] <;> (repeat (with_reducible refine And.intro ?_ ?_; focus first | omega | rfl | assumption | exact ⟨_, rfl, rfl⟩ | (simp; omega) | (simp; done)))
  · have h1 := h
    refine call_w (containsS_ok out u.fName (by omega)) ?_
    simp -implicitDefEqProofs (disch := omega) only [go_sem] <;> (repeat (with_reducible refine And.intro ?_ ?_; focus first | omega | rfl | assumption | exact ⟨_, rfl, rfl⟩ | (simp; omega) | (simp; done)))
    with_reducible refine split2 (fun hb => ?_) (fun hb => ?_) <;> have h := hb <;> (try simp only [wf_preprocess] at h) <;> simp -implicitDefEqProofs (disch := omega) only [go_sem, hb] <;> (repeat (with_reducible refine And.intro ?_ ?_; focus first | omega | rfl | assumption | exact ⟨_, rfl, rfl⟩ | (simp; omega) | (simp; done)))
    · (repeat (with_reducible refine And.intro ?_ ?_; focus first | omega | rfl | assumption | exact ⟨_, rfl, rfl⟩ | (simp; omega) | (simp; done)))
      have ha : addV out u = out ++ [u.fName] := if_pos ⟨h1, h⟩
      rw [ha]; simp [encS]
    · have ha : addV out u = out := if_neg fun x => x.2 h
      rw [ha]
  · have ha : addV out u = out := if_neg fun x => h x.1
    rw [ha]
theorem variablesOf_ok (ts : List MType) (hl : ts.length ≤ 4194304) (hz : ∀ t ∈ ts, t.sz ≤ 4194304) (hc : MType.cnts ts ≤ 1073741823) : PCall Tryz.prog 159 [.c (.d (.sl (ts.map MType.enc)))] (.c (.d (.sl ((tvarsL [] ts).map encS)))) := fun S => by
  refine acall_cw (rs := [.tmp 2]) Tryz.checked.mixed Tryz.func159 Tryz.ntmps159 rfl rfl rfl rfl rfl ?_
  simp -implicitDefEqProofs (disch := omega) only [go_sem]
  (repeat (with_reducible refine And.intro ?_ ?_; focus first | omega | rfl | assumption | exact ⟨_, rfl, rfl⟩ | (simp; omega) | (simp; done)))
  refine aw_tokbox 0 0 1 [] [.fsl []] rfl rfl (by simp) ?_
  refine loop_at (ι := Nat × List (List UInt8)) Tryz.checked.mixed rfl [3, 7, 8, 9] (fun y => [.c (.ptr (0, 0) 0), .c (.d (.sl (ts.map MType.enc))), .c (.d (.i .i64 ts.length)), .c (.d (.i .i64 y.1))]) (fun y => [.box [.tsl (0, 1) (y.2.map encS)], .tok 1 (y.2.map encS)] :: S)
    (fun y => y.1 ≤ ts.length ∧ y.2.length + MType.cnts (ts.drop y.1) ≤ 1073741824 ∧ tvarsL y.2 (ts.drop y.1) = tvarsL [] ts) (fun y => ts.length - y.1) (0, []) rfl rfl ⟨Nat.zero_le _, by simp only [List.drop_zero, List.length_nil]; omega, rfl⟩ ?_
  rintro ⟨i, out⟩ ⟨p1, p2, p3⟩
  simp only at p1 p2 p3
  simp -implicitDefEqProofs (disch := omega) only [go_sem]
  with_reducible refine split2 (fun hb => ?_) (fun hb => ?_) <;> have h := hb <;> (try simp only [wf_preprocess] at h) <;> simp -implicitDefEqProofs (disch := omega) only [go_sem, hb] <;> (repeat (with_reducible refine And.intro ?_ ?_; focus first | omega | rfl | assumption | exact ⟨_, rfl, rfl⟩ | (simp; omega) | (simp; done)))
  · have hi : i < ts.length := by omega
    rw [tvarsL_drop hi] at p3
    rw [List.drop_eq_getElem_cons hi, MType.cnts] at p2
    have hlen := tvars_len ts[i] out
    (repeat (with_reducible refine And.intro ?_ ?_; focus first | omega | rfl | assumption | exact ⟨_, rfl, rfl⟩ | (simp; omega) | (simp; done)))
    refine call_d rfl (eachType_ok (hz _ (List.getElem_mem hi)) (variablesOf1_step [Ab.Obj.box [.d (.i .i64 ts[i].fKind), .d (.s ts[i].fName), .d (.sl (ts[i].fArgs.map MType.enc))]] S) (MType.cnts (ts.drop (i + 1))) out (by omega)).2 ?_
    simp -implicitDefEqProofs (disch := omega) only [go_sem]
    exact inv_drop 2 (by decide) (i + 1, tvars out ts[i]) (by simp only; omega) rfl rfl rfl rfl ⟨by simp only; omega, by simp only; omega, p3⟩
  · have hi : i = ts.length := by omega
    rw [hi, List.drop_length] at p3
    rw [← p3]; rfl
theorem implTypeVars_ok (t : MType) (hsz : t.sz ≤ 4194304) : PCall Tryz.prog 118 [t.v] (.c (.d (.sl ((tvars [] t).map encS)))) := fun S => by
  have hc := cnt_le t
  have h0 := variablesOf_ok [t] (by simp) (by simpa using hsz) (by simp [MType.cnts]; omega)
  simp only [List.map_cons, List.map_nil, MType.enc_eq] at h0
  refine acall_cw (rs := [.tmp 2]) Tryz.checked.mixed Tryz.func118 Tryz.ntmps118 rfl rfl rfl rfl rfl ?_
  simp -implicitDefEqProofs (disch := omega) only [go_sem]
  (repeat (with_reducible refine And.intro ?_ ?_; focus first | omega | rfl | assumption | exact ⟨_, rfl, rfl⟩ | (simp; omega) | (simp; done)))
  refine call_w h0 ?_
  simp -implicitDefEqProofs (disch := omega) only [go_sem]
  rw [show tvarsL [] [t] = tvars [] t by simp [tvarsL, tvars, nodesL]]
theorem l4Vars_all : ∀ n : Nat, ∀ t : MType, SizeOf.sizeOf t < n → t.sz ≤ 4194304 → ∀ (out : List (List UInt8)) (l j : Nat) (S : Store), getO S (l, j) = some (.tok 1 (out.map encS)) → out.length + t.cnt ≤ 1073741824 →
    ACall Tryz.prog 215 [t.v, .c (.tsl (l, j) (out.map encS))] S (fun r S' => r = .c (.tsl (l, j) ((tvars out t).map encS)) ∧ S' = setO S (l, j) (.tok 1 ((tvars out t).map encS)))
  | 0 => fun t h => by omega
  | n + 1 => by
    have ih := l4Vars_all n
    intro t hn hsz out l j S hk hc
    have lArgs := MType.lt_Args t
    have hts := ty_szT hsz
    have hcn := MType.cnt_eq t
    -- the loop, from whatever list
    have hkS : ∀ x : Ab.Obj, getO (setO S (l, j) x) (l, j) = some x := fun x => getO_setO_eq _ _ _ _ hk
    have hS0 : setO S (l, j) (.tok 1 (out.map encS)) = S := setO_self _ _ hk
    have fin : tvars out t = tvarsL (addV out t) t.fArgs := tvars_eq out t
    have hal := addV_len out t
    have e0 : (out ++ [t.fName]).map encS = out.map encS ++ [[D.s t.fName]] := by simp [encS]
    refine acall_cw (rs := [.tmp 4]) Tryz.checked.mixed Tryz.func215 Tryz.ntmps215 rfl rfl rfl rfl rfl ?_
    simp -implicitDefEqProofs (disch := omega) only [go_sem, hk]
    repeat' (first
      | (with_reducible refine split2 (fun hb => ?_) (fun hb => ?_) <;> have h := hb <;> (try simp only [wf_preprocess] at h) <;> simp -implicitDefEqProofs (disch := omega) only [go_sem, hb, hk] <;> (repeat (with_reducible refine And.intro ?_ ?_; focus first | omega | rfl | assumption | exact ⟨_, rfl, rfl⟩ | (simp; omega) | (simp; done))))
      | (refine call_w (l1Has_ok out t.fName (by omega)) ?_; simp -implicitDefEqProofs (disch := omega) only [go_sem, hk]; (repeat (with_reducible refine And.intro ?_ ?_; focus first | omega | rfl | assumption | exact ⟨_, rfl, rfl⟩ | (simp; omega) | (simp; done)))))
    all_goals first
      | (have ha : addV out t = out ++ [t.fName] := if_pos ⟨by assumption, by assumption⟩)
      | (have ha : addV out t = out := if_neg (fun x => by have := x.1; have := x.2; contradiction))
    all_goals
      refine loop_at (ι := Nat × List (List UInt8)) Tryz.checked.mixed rfl [1, 2, 5] (fun y => [.c (.tsl (1 + l, j) (y.2.map encS)), .c (.ptr (0, 0) 0), .c (.d (.i .i64 y.1))]) (fun y => [.box [.d (.i .i64 t.fKind), .d (.s t.fName), .d (.sl (t.fArgs.map MType.enc))]] :: setO S (l, j) (.tok 1 (y.2.map encS)))
        (fun y => y.1 ≤ t.fArgs.length ∧ y.2.length + MType.cnts (t.fArgs.drop y.1) ≤ 1073741824 ∧ tvarsL y.2 (t.fArgs.drop y.1) = tvars out t) (fun y => t.fArgs.length - y.1) (0, addV out t) (by first | (rw [ha, e0]; rfl) | (rw [ha]; rfl)) (by first | (simp only [ha, e0]; done) | (simp only [ha, hS0]; done)) ⟨Nat.zero_le _, by simp only [List.drop_zero]; omega, by rw [fin]; rfl⟩ ?_
      rintro ⟨i, b⟩ ⟨p1, p2, p3⟩
      simp only at p1 p2 p3
      simp -implicitDefEqProofs (disch := omega) only [go_sem]
      with_reducible refine split2 (fun hb => ?_) (fun hb => ?_) <;> have h := hb <;> (try simp only [wf_preprocess] at h) <;> simp -implicitDefEqProofs (disch := omega) only [go_sem, hb] <;> (repeat (with_reducible refine And.intro ?_ ?_; focus first | omega | rfl | assumption | exact ⟨_, rfl, rfl⟩ | (simp; omega) | (simp; done)))
      · have hi : i < t.fArgs.length := by omega
        have hs := List.sizeOf_lt_of_mem (List.getElem_mem hi)
        rw [tvarsL_drop hi] at p3
        rw [List.drop_eq_getElem_cons hi, MType.cnts] at p2
        have hlen := tvars_len t.fArgs[i] b
        (repeat (with_reducible refine And.intro ?_ ?_; focus first | omega | rfl | assumption | exact ⟨_, rfl, rfl⟩ | (simp; omega) | (simp; done)))
        refine call_d rfl (ih t.fArgs[i] (by omega) (arg_szT hi hsz).1 b (1 + l) j _ (by rw [getO_up1]; exact hkS _) (by omega)) ?_
        simp -implicitDefEqProofs (disch := omega) only [go_sem, setO_twice]
        exact inv_at (i + 1, tvars b t.fArgs[i]) (by simp only; omega) rfl rfl ⟨by simp only; omega, by simp only; omega, p3⟩
      · have hi : i = t.fArgs.length := by omega
        rw [hi, List.drop_length] at p3
        rw [← p3]
        exact ⟨rfl, rfl⟩
theorem specTypeVars_ok (t : MType) (hsz : t.sz ≤ 4194304) : PCall Tryz.prog 190 [t.v] (.c (.d (.sl ((tvars [] t).map encS)))) := fun S => by
  have hc := cnt_le t
  have h0 : ∀ S, ACall Tryz.prog 215 [t.v, .c (.fsl [])] S (fun r S' => r = .c (.d (.sl ((tvars [] t).map encS))) ∧ S' = S) := fun S => by
    refine ACall.tok0 1 (es := []) (esz := 1) rfl (by simp) (l4Vars_all _ t (Nat.lt_succ_self _) hsz [] 0 0 ([.tok 1 []] :: S) rfl (by simp; omega)) ?_
    rintro r fr S' ⟨rfl, h2⟩
    injection h2 with h2 h3
    exact ⟨_, rfl, rfl, h3⟩
  refine acall_cw (rs := [.tmp 2]) Tryz.checked.mixed Tryz.func190 Tryz.ntmps190 rfl rfl rfl rfl rfl ?_
  simp -implicitDefEqProofs (disch := omega) only [go_sem]
  (repeat (with_reducible refine And.intro ?_ ?_; focus first | omega | rfl | assumption | exact ⟨_, rfl, rfl⟩ | (simp; omega) | (simp; done)))
  refine call_m [true, true] rfl (h0 _) ?_
  simp -implicitDefEqProofs (disch := omega) only [go_sem]
end Go.Proofs.YtlmhknhlmicmeaaGreat

namespace Go.Proofs.YtlmhknhlmicmeaaGreat
open Go Go.Ab
theorem indexFuncType_ok (g : Nat) (caps : List (Key × Nat)) (S : Store) (xs : List MType) (p : MType → Bool) (hl : xs.length ≤ 1073741824) (hp : ∀ x ∈ xs, FPure Tryz.prog g caps S [x.v] (.c (.d (.b (p x))))) :
    ACall Tryz.prog 177 [.c (.d (.sl (xs.map MType.enc))), .c (.fn g caps)] S (fun r S' => r = .c (.d (.i .i64 (indexP p xs))) ∧ S' = S) := by
  refine acall_cw (rs := [.tmp 4]) Tryz.checked.mixed Tryz.func177 Tryz.ntmps177 rfl rfl rfl rfl rfl ?_
  simp -implicitDefEqProofs (disch := omega) only [go_sem]
  refine loop_at (ι := Nat) Tryz.checked.mixed rfl [0, 1, 7, 8] (fun i => [.c (.d (.sl (xs.map MType.enc))), .c (.fn g (upCaps 1 caps)), .c (.d (.i .i64 xs.length)), .c (.d (.i .i64 i))]) (fun _ => [] :: S)
    (fun i => i ≤ xs.length ∧ ∀ j, ∀ hj : j < xs.length, j < i → p xs[j] = false) (fun i => xs.length - i) 0 rfl rfl ⟨Nat.zero_le _, fun j _ h => by omega⟩ ?_
  rintro i ⟨p1, p2⟩
  simp -implicitDefEqProofs (disch := omega) only [go_sem]
  with_reducible refine split2 (fun hb => ?_) (fun hb => ?_) <;> have h := hb <;> (try simp only [wf_preprocess] at h) <;> simp -implicitDefEqProofs (disch := omega) only [go_sem, hb] <;> (repeat (with_reducible refine And.intro ?_ ?_; focus first | omega | rfl | assumption | exact ⟨_, rfl, rfl⟩ | (simp; omega) | (simp; done)))
  · have hi : i < xs.length := by omega
    (repeat (with_reducible refine And.intro ?_ ?_; focus first | omega | rfl | assumption | exact ⟨_, rfl, rfl⟩ | (simp; omega) | (simp; done)))
    refine call_d rfl (hp xs[i] (List.getElem_mem hi) [_]) ?_
    simp -implicitDefEqProofs (disch := omega) only [go_sem]
    with_reducible refine split2 (fun hb => ?_) (fun hb => ?_) <;> have h := hb <;> (try simp only [wf_preprocess] at h) <;> simp -implicitDefEqProofs (disch := omega) only [go_sem, hb] <;> (repeat (with_reducible refine And.intro ?_ ?_; focus first | omega | rfl | assumption | exact ⟨_, rfl, rfl⟩ | (simp; omega) | (simp; done)))
    · rw [indexP_here hi p2 h]
    · refine inv_at (i + 1) (by omega) rfl rfl ⟨by omega, fun j hj hji => ?_⟩
      by_cases e : j = i
      · subst e; exact h
      · exact p2 j hj (by omega)
  · rw [indexP_no (fun j hj => p2 j hj (by omega))]
theorem containsFuncType_ok (g : Nat) (caps : List (Key × Nat)) (S : Store) (xs : List MType) (p : MType → Bool) (hl : xs.length ≤ 1073741824) (hp : ∀ x ∈ xs, FPure Tryz.prog g caps S [x.v] (.c (.d (.b (p x))))) :
    ACall Tryz.prog 143 [.c (.d (.sl (xs.map MType.enc))), .c (.fn g caps)] S (fun r S' => r = .c (.d (.b (xs.any p))) ∧ S' = S) := by
  refine acall_cw (rs := [.tmp 4]) Tryz.checked.mixed Tryz.func143 Tryz.ntmps143 rfl rfl rfl rfl rfl ?_
  simp -implicitDefEqProofs (disch := omega) only [go_sem]
  refine call_d rfl (indexFuncType_ok g (upCaps 1 caps) _ xs p hl fun x hx => (hp x hx).push _) ?_
  simp -implicitDefEqProofs (disch := omega) only [go_sem]
  exact bool_eq indexP_pos
theorem indexFuncstring_ok (g : Nat) (caps : List (Key × Nat)) (S : Store) (xs : List (List UInt8)) (p : (List UInt8) → Bool) (hl : xs.length ≤ 1073741824) (hp : ∀ x ∈ xs, FPure Tryz.prog g caps S [.c (.d (.s x))] (.c (.d (.b (p x))))) :
    ACall Tryz.prog 124 [.c (.d (.sl (xs.map encS))), .c (.fn g caps)] S (fun r S' => r = .c (.d (.i .i64 (indexP p xs))) ∧ S' = S) := by
  refine acall_cw (rs := [.tmp 4]) Tryz.checked.mixed Tryz.func124 Tryz.ntmps124 rfl rfl rfl rfl rfl ?_
  simp -implicitDefEqProofs (disch := omega) only [go_sem, encS]
  refine loop_at (ι := Nat) Tryz.checked.mixed rfl [0, 1, 7, 8] (fun i => [.c (.d (.sl (xs.map encS))), .c (.fn g (upCaps 1 caps)), .c (.d (.i .i64 xs.length)), .c (.d (.i .i64 i))]) (fun _ => [] :: S)
    (fun i => i ≤ xs.length ∧ ∀ j, ∀ hj : j < xs.length, j < i → p xs[j] = false) (fun i => xs.length - i) 0 rfl rfl ⟨Nat.zero_le _, fun j _ h => by omega⟩ ?_
  rintro i ⟨p1, p2⟩
  simp -implicitDefEqProofs (disch := omega) only [go_sem, encS]
  with_reducible refine split2 (fun hb => ?_) (fun hb => ?_) <;> have h := hb <;> (try simp only [wf_preprocess] at h) <;> simp -implicitDefEqProofs (disch := omega) only [go_sem, hb, encS] <;> (repeat (with_reducible refine And.intro ?_ ?_; focus first | omega | rfl | assumption | exact ⟨_, rfl, rfl⟩ | (simp; omega) | (simp; done)))
  · have hi : i < xs.length := by omega
    (repeat (with_reducible refine And.intro ?_ ?_; focus first | omega | rfl | assumption | exact ⟨_, rfl, rfl⟩ | (simp; omega) | (simp; done)))
    refine call_d rfl (hp xs[i] (List.getElem_mem hi) [_]) ?_
    simp -implicitDefEqProofs (disch := omega) only [go_sem, encS]
    with_reducible refine split2 (fun hb => ?_) (fun hb => ?_) <;> have h := hb <;> (try simp only [wf_preprocess] at h) <;> simp -implicitDefEqProofs (disch := omega) only [go_sem, hb, encS] <;> (repeat (with_reducible refine And.intro ?_ ?_; focus first | omega | rfl | assumption | exact ⟨_, rfl, rfl⟩ | (simp; omega) | (simp; done)))
    · rw [indexP_here hi p2 h]
    · refine inv_at (i + 1) (by omega) rfl rfl ⟨by omega, fun j hj hji => ?_⟩
      by_cases e : j = i
      · subst e; exact h
      · exact p2 j hj (by omega)
  · rw [indexP_no (fun j hj => p2 j hj (by omega))]
theorem containsFuncstring_ok (g : Nat) (caps : List (Key × Nat)) (S : Store) (xs : List (List UInt8)) (p : (List UInt8) → Bool) (hl : xs.length ≤ 1073741824) (hp : ∀ x ∈ xs, FPure Tryz.prog g caps S [.c (.d (.s x))] (.c (.d (.b (p x))))) :
    ACall Tryz.prog 70 [.c (.d (.sl (xs.map encS))), .c (.fn g caps)] S (fun r S' => r = .c (.d (.b (xs.any p))) ∧ S' = S) := by
  refine acall_cw (rs := [.tmp 4]) Tryz.checked.mixed Tryz.func70 Tryz.ntmps70 rfl rfl rfl rfl rfl ?_
  simp -implicitDefEqProofs (disch := omega) only [go_sem, encS]
  refine call_d rfl (indexFuncstring_ok g (upCaps 1 caps) _ xs p hl fun x hx => (hp x hx).push _) ?_
  simp -implicitDefEqProofs (disch := omega) only [go_sem, encS]
  exact bool_eq indexP_pos
end Go.Proofs.YtlmhknhlmicmeaaGreat

namespace Go.Ab
theorem strs_b {s : List UInt8} {xs : List (List UInt8)} (h : s ∈ xs) : s.length ≤ szRows (xs.map encS) := by
  have := szRows_mem (List.mem_map_of_mem (f := encS) h)
  simpa [encS, szRow, D.sz] using this
noncomputable def namesOk (xs : List (List UInt8)) : Bool := dec xs.Nodup && xs.all validName
noncomputable def among (xs ys : List (List UInt8)) : Bool := xs.all fun s => dec (s ∈ ys)
noncomputable def typeOver (vars : List (List UInt8)) (t : MType) : Bool := validType t && among (tvars [] t) vars
noncomputable def typesOver (vars : List (List UInt8)) (ts : List MType) : Bool := ts.all (typeOver vars)
theorem mem_addW {s l : List UInt8} {m : List (List UInt8)} : s ∈ addW l m ↔ s = l ∨ s ∈ m := by
  unfold addW
  split
  · rename_i h
    exact ⟨.inr, fun x => x.elim (fun e => e ▸ h) id⟩
  · rw [List.mem_append, List.mem_singleton]; exact Or.comm
theorem take_snoc {α : Type} {xs : List α} {i : Nat} (hi : i < xs.length) : xs.take (i + 1) = xs.take i ++ [xs[i]] := List.take_succ_eq_append_getElem hi
theorem nodup_snoc {α : Type} {xs : List α} {x : α} : (xs ++ [x]).Nodup ↔ xs.Nodup ∧ x ∉ xs := by
  rw [List.nodup_append]
  constructor
  · rintro ⟨h1, _, h3⟩
    exact ⟨h1, fun hx => h3 x hx x (by simp) rfl⟩
  · rintro ⟨h1, h2⟩
    exact ⟨h1, by simp, fun a ha b hb e => by simp at hb; subst hb; exact h2 (e ▸ ha)⟩
theorem not_nodup {α : Type} {xs : List α} {i : Nat} (hi : i < xs.length) (h : xs[i] ∈ xs.take i) : ¬ xs.Nodup := fun hn => by
  have h1 : (xs.take (i + 1)).Nodup := hn.sublist (List.take_sublist _ _)
  rw [take_snoc hi] at h1
  exact (nodup_snoc.1 h1).2 h
end Go.Ab
namespace Go.Proofs.YtlmhknhlmicmeaaGreat
open Go Go.Ab
theorem implDistinct_ok (xs : List (List UInt8)) (hl : xs.length ≤ 1073741824) : PCall Tryz.prog 31 [.c (.d (.sl (xs.map encS)))] (.c (.d (.b (dec xs.Nodup)))) := fun S => by
  refine acall_cw (rs := [.tmp 2]) Tryz.checked.mixed Tryz.func31 Tryz.ntmps31 rfl rfl rfl rfl rfl ?_
  simp -implicitDefEqProofs (disch := omega) only [go_sem, encS]
  (repeat (with_reducible refine And.intro ?_ ?_; focus first | omega | rfl | assumption | exact ⟨_, rfl, rfl⟩ | (simp; omega) | (simp; done)))
  refine loop_at (ι := Nat × List (List UInt8)) Tryz.checked.mixed rfl [3, 7, 8, 9] (fun y => [.c (.mp (0, 0)), .c (.d (.sl (xs.map encS))), .c (.d (.i .i64 xs.length)), .c (.d (.i .i64 y.1))]) (fun y => [.mp y.2] :: S)
    (fun y => y.1 ≤ xs.length ∧ (∀ s, s ∈ y.2 ↔ s ∈ xs.take y.1) ∧ (xs.take y.1).Nodup) (fun y => xs.length - y.1) (0, []) rfl rfl ⟨Nat.zero_le _, fun s => by simp, by simp⟩ ?_
  rintro ⟨i, m⟩ ⟨p1, p2, p3⟩
  simp only at p1 p2 p3
  simp -implicitDefEqProofs (disch := omega) only [go_sem, encS]
  with_reducible refine split2 (fun hb => ?_) (fun hb => ?_) <;> have h := hb <;> (try simp only [wf_preprocess] at h) <;> simp -implicitDefEqProofs (disch := omega) only [go_sem, hb, encS] <;> (repeat (with_reducible refine And.intro ?_ ?_; focus first | omega | rfl | assumption | exact ⟨_, rfl, rfl⟩ | (simp; omega) | (simp; done)))
  · have hi : i < xs.length := by omega
    (repeat (with_reducible refine And.intro ?_ ?_; focus first | omega | rfl | assumption | exact ⟨_, rfl, rfl⟩ | (simp; omega) | (simp; done)))
    with_reducible refine split2 (fun hb => ?_) (fun hb => ?_) <;> have h := hb <;> (try simp only [wf_preprocess] at h) <;> simp -implicitDefEqProofs (disch := omega) only [go_sem, hb, encS] <;> (repeat (with_reducible refine And.intro ?_ ?_; focus first | omega | rfl | assumption | exact ⟨_, rfl, rfl⟩ | (simp; omega) | (simp; done)))
    · exact bool_eq (dec_false (not_nodup hi ((p2 _).1 h))).symm
    · refine inv_at (i + 1, addW xs[i] m) (by simp only; omega) rfl rfl ⟨by simp only; omega, fun s => ?_, ?_⟩
      · simp only
        rw [mem_addW, take_snoc hi, List.mem_append, List.mem_singleton, p2]
        exact Or.comm
      · simp only
        rw [take_snoc hi, nodup_snoc]
        exact ⟨p3, fun hx => h ((p2 _).2 hx)⟩
  · rw [List.take_of_length_le (by omega)] at p3
    exact bool_eq (dec_true p3).symm
theorem specDistinct_ok (xs : List (List UInt8)) (hl : xs.length ≤ 1073741824) : PCall Tryz.prog 77 [.c (.d (.sl (xs.map encS)))] (.c (.d (.b (dec xs.Nodup)))) := fun S => by
  refine acall_cw (rs := [.tmp 2]) Tryz.checked.mixed Tryz.func77 Tryz.ntmps77 rfl rfl rfl rfl rfl ?_
  simp -implicitDefEqProofs (disch := omega) only [go_sem, encS]
  refine loop_at (ι := Nat) Tryz.checked.mixed rfl [0, 3] (fun i => [.c (.d (.sl (xs.map encS))), .c (.d (.i .i64 i))]) (fun _ => [] :: S)
    (fun i => i ≤ xs.length ∧ (xs.take i).Nodup) (fun i => xs.length - i) 0 rfl rfl ⟨Nat.zero_le _, by simp⟩ ?_
  rintro i ⟨p1, p3⟩
  simp -implicitDefEqProofs (disch := omega) only [go_sem, encS]
  with_reducible refine split2 (fun hb => ?_) (fun hb => ?_) <;> have h := hb <;> (try simp only [wf_preprocess] at h) <;> simp -implicitDefEqProofs (disch := omega) only [go_sem, hb, encS] <;> (repeat (with_reducible refine And.intro ?_ ?_; focus first | omega | rfl | assumption | exact ⟨_, rfl, rfl⟩ | (simp; omega) | (simp; done)))
  · have hi : i < xs.length := by omega
    have hc : ∀ y ∈ xs.map encS, y.length = 1 := fun y hy => by
      obtain ⟨s, _, rfl⟩ := List.mem_map.1 hy
      rfl
    have e : (xs.map encS).take i = (xs.take i).map encS := List.map_take.symm
    refine And.intro ⟨by omega, by omega, hc⟩ ?_
    (repeat (with_reducible refine And.intro ?_ ?_; focus first | omega | rfl | assumption | exact ⟨_, rfl, rfl⟩ | (simp; omega) | (simp; done)))
    simp -implicitDefEqProofs (disch := omega) only [go_sem, Int.toNat_zero, e]
    refine call_w (l1Has_ok (xs.take i) xs[i] (by simp; omega)) ?_
    simp -implicitDefEqProofs (disch := omega) only [go_sem] <;> (repeat (with_reducible refine And.intro ?_ ?_; focus first | omega | rfl | assumption | exact ⟨_, rfl, rfl⟩ | (simp; omega) | (simp; done)))
    with_reducible refine split2 (fun hb => ?_) (fun hb => ?_) <;> have h := hb <;> (try simp only [wf_preprocess] at h) <;> simp -implicitDefEqProofs (disch := omega) only [go_sem, hb] <;> (repeat (with_reducible refine And.intro ?_ ?_; focus first | omega | rfl | assumption | exact ⟨_, rfl, rfl⟩ | (simp; omega) | (simp; done)))
    · exact bool_eq (dec_false (not_nodup hi h)).symm
    · refine inv_at (i + 1) (by omega) rfl rfl ⟨by omega, ?_⟩
      rw [take_snoc hi, nodup_snoc]
      exact ⟨p3, h⟩
  · rw [List.take_of_length_le (by omega)] at p3
    exact bool_eq (dec_true p3).symm
theorem l3Names_ok (xs : List (List UInt8)) (hl : xs.length ≤ 1073741824) (hs : ∀ s ∈ xs, s.length ≤ 4194304) : PCall Tryz.prog 126 [.c (.d (.sl (xs.map encS)))] (.c (.d (.b (xs.all validName)))) := fun S => by
  refine acall_cw (rs := [.tmp 2]) Tryz.checked.mixed Tryz.func126 Tryz.ntmps126 rfl rfl rfl rfl rfl ?_
  simp -implicitDefEqProofs (disch := omega) only [go_sem, encS]
  refine loop_at (ι := Nat) Tryz.checked.mixed rfl [0, 3] (fun i => [.c (.d (.sl (xs.map encS))), .c (.d (.i .i64 i))]) (fun _ => [] :: S)
    (fun i => i ≤ xs.length ∧ (xs.drop i).all validName = xs.all validName) (fun i => xs.length - i) 0 rfl rfl ⟨Nat.zero_le _, rfl⟩ ?_
  rintro i ⟨p1, p2⟩
  simp -implicitDefEqProofs (disch := omega) only [go_sem, encS]
  with_reducible refine split2 (fun hb => ?_) (fun hb => ?_) <;> have h := hb <;> (try simp only [wf_preprocess] at h) <;> simp -implicitDefEqProofs (disch := omega) only [go_sem, hb, encS] <;> (repeat (with_reducible refine And.intro ?_ ?_; focus first | omega | rfl | assumption | exact ⟨_, rfl, rfl⟩ | (simp; omega) | (simp; done)))
  · have hi : i < xs.length := by omega
    have hz := hs _ (List.getElem_mem hi)
    rw [List.drop_eq_getElem_cons hi, List.all_cons] at p2
    (repeat (with_reducible refine And.intro ?_ ?_; focus first | omega | rfl | assumption | exact ⟨_, rfl, rfl⟩ | (simp; omega) | (simp; done)))
    refine call_w (specValidName_ok xs[i] (by omega)) ?_
    simp -implicitDefEqProofs (disch := omega) only [go_sem] <;> (repeat (with_reducible refine And.intro ?_ ?_; focus first | omega | rfl | assumption | exact ⟨_, rfl, rfl⟩ | (simp; omega) | (simp; done)))
    with_reducible refine split2 (fun hb => ?_) (fun hb => ?_) <;> have h := hb <;> (try simp only [wf_preprocess] at h) <;> simp -implicitDefEqProofs (disch := omega) only [go_sem, hb] <;> (repeat (with_reducible refine And.intro ?_ ?_; focus first | omega | rfl | assumption | exact ⟨_, rfl, rfl⟩ | (simp; omega) | (simp; done)))
    · rw [← p2, h]; rfl
    · exact inv_at (i + 1) (by omega) rfl rfl ⟨by omega, by rw [← p2, h]; rfl⟩
  · rw [List.drop_of_length_le (by omega)] at p2
    rw [← p2]; rfl
theorem areNames_ok (xs : List (List UInt8)) (hl : xs.length ≤ 1073741824) (hs : ∀ s ∈ xs, s.length ≤ 4194304) : PCall Tryz.prog 64 [.c (.d (.sl (xs.map encS)))] (.c (.d (.b (namesOk xs)))) := fun S => by
  have hcl : ∀ s ∈ xs, PCall Tryz.prog 112 [.c (.d (.s s))] (.c (.d (.b (!validName s)))) := fun s hx S => by
    have := hs s hx
    refine acall_cw (rs := [.tmp 2]) Tryz.checked.mixed Tryz.func112 Tryz.ntmps112 rfl rfl rfl rfl rfl ?_
    simp -implicitDefEqProofs (disch := omega) only [go_sem]
    refine call_w (implValidName_ok s (by omega)) ?_
    simp -implicitDefEqProofs (disch := omega) only [go_sem] <;> (repeat (with_reducible refine And.intro ?_ ?_; focus first | omega | rfl | assumption | exact ⟨_, rfl, rfl⟩ | (simp; omega) | (simp; done)))
  have ha : (xs.any fun s => !validName s) = !xs.all validName := by rw [List.not_all_eq_any_not]
  refine acall_cw (rs := [.tmp 2]) Tryz.checked.mixed Tryz.func64 Tryz.ntmps64 rfl rfl rfl rfl rfl ?_
  simp -implicitDefEqProofs (disch := omega) only [go_sem]
  refine call_w (implDistinct_ok xs hl) ?_
  simp -implicitDefEqProofs (disch := omega) only [go_sem] <;> (repeat (with_reducible refine And.intro ?_ ?_; focus first | omega | rfl | assumption | exact ⟨_, rfl, rfl⟩ | (simp; omega) | (simp; done)))
  with_reducible refine split2 (fun hb => ?_) (fun hb => ?_) <;> have h := hb <;> (try simp only [wf_preprocess] at h) <;> simp -implicitDefEqProofs (disch := omega) only [go_sem, hb] <;> (repeat (with_reducible refine And.intro ?_ ?_; focus first | omega | rfl | assumption | exact ⟨_, rfl, rfl⟩ | (simp; omega) | (simp; done)))
  · refine call_d rfl (containsFuncstring_ok 112 [] _ xs (fun s => !validName s) hl fun s hx => FPure.of_pure (hcl s hx)) ?_
    simp -implicitDefEqProofs (disch := omega) only [go_sem]
    rw [ha]
    exact bool_eq (by unfold namesOk; rw [hb]; simp)
  · exact bool_eq (by unfold namesOk; rw [hb]; rfl)
theorem areAmong_ok (xs ys : List (List UInt8)) (hl : xs.length ≤ 1073741824) (hl' : ys.length ≤ 1073741824) : PCall Tryz.prog 30 [.c (.d (.sl (xs.map encS))), .c (.d (.sl (ys.map encS)))] (.c (.d (.b (among xs ys)))) := fun S => by
  have ha : (xs.any fun s => !dec (s ∈ ys)) = !among xs ys := by unfold among; rw [List.not_all_eq_any_not]
  have hcl : ∀ (rest : List Ab.Obj) (s : List UInt8), FPure Tryz.prog 71 [((0, 0), 0)] ((.box [.d (.sl (ys.map encS))] :: rest) :: S) [.c (.d (.s s))] (.c (.d (.b (!dec (s ∈ ys))))) := fun rest s F => by
    refine acall_cw (rs := [.tmp 3]) Tryz.checked.mixed Tryz.func71 Tryz.ntmps71 rfl rfl rfl rfl rfl ?_
    simp -implicitDefEqProofs (disch := omega) only [go_sem]
    refine call_w (containsS_ok ys s hl') ?_
    simp -implicitDefEqProofs (disch := omega) only [go_sem] <;> (repeat (with_reducible refine And.intro ?_ ?_; focus first | omega | rfl | assumption | exact ⟨_, rfl, rfl⟩ | (simp; omega) | (simp; done)))
  refine acall_cw (rs := [.tmp 4]) Tryz.checked.mixed Tryz.func30 Tryz.ntmps30 rfl rfl rfl rfl rfl ?_
  simp -implicitDefEqProofs (disch := omega) only [go_sem]
  refine call_d rfl (containsFuncstring_ok 71 [((0, 0), 0)] _ xs (fun s => !dec (s ∈ ys)) hl fun s hx => hcl [] s) ?_
  simp -implicitDefEqProofs (disch := omega) only [go_sem]
  rw [ha]
  exact bool_eq (by simp)
theorem isTypeOver_ok (t : MType) (vars : List (List UInt8)) (hsz : t.sz ≤ 4194304) (hv : vars.length ≤ 1073741824) : PCall Tryz.prog 116 [t.v, .c (.d (.sl (vars.map encS)))] (.c (.d (.b (typeOver vars t)))) := fun S => by
  have h1 := tvars_len t []
  have h2 := cnt_le t
  refine acall_cw (rs := [.tmp 4]) Tryz.checked.mixed Tryz.func116 Tryz.ntmps116 rfl rfl rfl rfl rfl ?_
  simp -implicitDefEqProofs (disch := omega) only [go_sem]
  refine call_w (implValidType_ok t hsz) ?_
  simp -implicitDefEqProofs (disch := omega) only [go_sem] <;> (repeat (with_reducible refine And.intro ?_ ?_; focus first | omega | rfl | assumption | exact ⟨_, rfl, rfl⟩ | (simp; omega) | (simp; done)))
  with_reducible refine split2 (fun hb => ?_) (fun hb => ?_) <;> have h := hb <;> (try simp only [wf_preprocess] at h) <;> simp -implicitDefEqProofs (disch := omega) only [go_sem, hb] <;> (repeat (with_reducible refine And.intro ?_ ?_; focus first | omega | rfl | assumption | exact ⟨_, rfl, rfl⟩ | (simp; omega) | (simp; done)))
  · refine call_w (implTypeVars_ok t hsz) ?_
    simp -implicitDefEqProofs (disch := omega) only [go_sem] <;> (repeat (with_reducible refine And.intro ?_ ?_; focus first | omega | rfl | assumption | exact ⟨_, rfl, rfl⟩ | (simp; omega) | (simp; done)))
    refine call_w (areAmong_ok (tvars [] t) vars (by simp at h1; omega) hv) ?_
    simp -implicitDefEqProofs (disch := omega) only [go_sem] <;> (repeat (with_reducible refine And.intro ?_ ?_; focus first | omega | rfl | assumption | exact ⟨_, rfl, rfl⟩ | (simp; omega) | (simp; done)))
    exact bool_eq (by unfold typeOver; rw [hb]; rfl)
  · exact bool_eq (by unfold typeOver; rw [hb]; rfl)
theorem areTypesOver_ok (ts : List MType) (vars : List (List UInt8)) (hl : ts.length ≤ 1073741824) (hsz : ∀ t ∈ ts, t.sz ≤ 4194304) (hv : vars.length ≤ 1073741824) : PCall Tryz.prog 95 [.c (.d (.sl (ts.map MType.enc))), .c (.d (.sl (vars.map encS)))] (.c (.d (.b (typesOver vars ts)))) := fun S => by
  have ha : (ts.any fun t => !typeOver vars t) = !typesOver vars ts := by unfold typesOver; rw [List.not_all_eq_any_not]
  have hcl : ∀ (rest : List Ab.Obj) (t : MType), t.sz ≤ 4194304 → FPure Tryz.prog 144 [((0, 0), 0)] ((.box [.d (.sl (vars.map encS))] :: rest) :: S) [t.v] (.c (.d (.b (!typeOver vars t)))) := fun rest t ht F => by
    refine acall_cw (rs := [.tmp 3]) Tryz.checked.mixed Tryz.func144 Tryz.ntmps144 rfl rfl rfl rfl rfl ?_
    simp -implicitDefEqProofs (disch := omega) only [go_sem]
    refine call_w (isTypeOver_ok t vars ht hv) ?_
    simp -implicitDefEqProofs (disch := omega) only [go_sem] <;> (repeat (with_reducible refine And.intro ?_ ?_; focus first | omega | rfl | assumption | exact ⟨_, rfl, rfl⟩ | (simp; omega) | (simp; done)))
  refine acall_cw (rs := [.tmp 4]) Tryz.checked.mixed Tryz.func95 Tryz.ntmps95 rfl rfl rfl rfl rfl ?_
  simp -implicitDefEqProofs (disch := omega) only [go_sem]
  refine call_d rfl (containsFuncType_ok 144 [((0, 0), 0)] _ ts (fun t => !typeOver vars t) hl fun t hx => hcl [] t (hsz t hx)) ?_
  simp -implicitDefEqProofs (disch := omega) only [go_sem]
  rw [ha]
  exact bool_eq (by simp)
theorem l13Words_ok (xs : List (List UInt8)) (most : Int) (hl : xs.length ≤ 1073741824) (hs : ∀ s ∈ xs, s.length ≤ 4194304) : PCall Tryz.prog 75 [.c (.d (.sl (xs.map encS))), .c (.d (.i .i64 most))] (.c (.d (.b (dec ((xs.length : Int) ≤ most) && namesOk xs)))) := fun S => by
  refine acall_cw (rs := [.tmp 4]) Tryz.checked.mixed Tryz.func75 Tryz.ntmps75 rfl rfl rfl rfl rfl ?_
  simp -implicitDefEqProofs (disch := omega) only [go_sem]
  with_reducible refine split2 (fun hb => ?_) (fun hb => ?_) <;> have h := hb <;> (try simp only [wf_preprocess] at h) <;> simp -implicitDefEqProofs (disch := omega) only [go_sem, hb] <;> (repeat (with_reducible refine And.intro ?_ ?_; focus first | omega | rfl | assumption | exact ⟨_, rfl, rfl⟩ | (simp; omega) | (simp; done)))
  · have h1 := h
    refine call_w (l3Names_ok xs hl hs) ?_
    simp -implicitDefEqProofs (disch := omega) only [go_sem] <;> (repeat (with_reducible refine And.intro ?_ ?_; focus first | omega | rfl | assumption | exact ⟨_, rfl, rfl⟩ | (simp; omega) | (simp; done)))
    with_reducible refine split2 (fun hb => ?_) (fun hb => ?_) <;> have h := hb <;> (try simp only [wf_preprocess] at h) <;> simp -implicitDefEqProofs (disch := omega) only [go_sem, hb] <;> (repeat (with_reducible refine And.intro ?_ ?_; focus first | omega | rfl | assumption | exact ⟨_, rfl, rfl⟩ | (simp; omega) | (simp; done)))
    · refine call_w (specDistinct_ok xs hl) ?_
      simp -implicitDefEqProofs (disch := omega) only [go_sem] <;> (repeat (with_reducible refine And.intro ?_ ?_; focus first | omega | rfl | assumption | exact ⟨_, rfl, rfl⟩ | (simp; omega) | (simp; done)))
      exact bool_eq (by rw [dec_true h1]; unfold namesOk; rw [hb]; simp)
    · exact bool_eq (by rw [dec_true h1]; unfold namesOk; rw [hb]; simp)
  · exact bool_eq (by rw [dec_false h]; rfl)
theorem l13Vars_ok (t : MType) (vars : List (List UInt8)) (hsz : t.sz ≤ 4194304) (hv : vars.length ≤ 1073741824) : PCall Tryz.prog 166 [t.v, .c (.d (.sl (vars.map encS)))] (.c (.d (.b (typeOver vars t)))) := fun S => by
  have h1 := tvars_len t []
  have h2 := cnt_le t
  have hlen : (tvars [] t).length ≤ 1073741824 := by simp at h1; omega
  refine acall_cw (rs := [.tmp 4]) Tryz.checked.mixed Tryz.func166 Tryz.ntmps166 rfl rfl rfl rfl rfl ?_
  simp -implicitDefEqProofs (disch := omega) only [go_sem]
  refine call_w (specTypeVars_ok t hsz) ?_
  simp -implicitDefEqProofs (disch := omega) only [go_sem] <;> (repeat (with_reducible refine And.intro ?_ ?_; focus first | omega | rfl | assumption | exact ⟨_, rfl, rfl⟩ | (simp; omega) | (simp; done)))
  generalize hxs : tvars [] t = xs at hlen
  refine loop_at (ι := Nat) Tryz.checked.mixed rfl [1, 2, 5, 6] (fun i => [.c (.d (.sl (vars.map encS))), .c (.ptr (0, 0) 0), .c (.d (.sl (xs.map encS))), .c (.d (.i .i64 i))]) (fun _ => [.box [.d (.i .i64 t.fKind), .d (.s t.fName), .d (.sl (t.fArgs.map MType.enc))]] :: S)
    (fun i => i ≤ xs.length ∧ among (xs.drop i) vars = among xs vars) (fun i => xs.length - i) 0 rfl rfl ⟨Nat.zero_le _, rfl⟩ ?_
  rintro i ⟨p1, p2⟩
  simp -implicitDefEqProofs (disch := omega) only [go_sem, encS]
  with_reducible refine split2 (fun hb => ?_) (fun hb => ?_) <;> have h := hb <;> (try simp only [wf_preprocess] at h) <;> simp -implicitDefEqProofs (disch := omega) only [go_sem, hb, encS] <;> (repeat (with_reducible refine And.intro ?_ ?_; focus first | omega | rfl | assumption | exact ⟨_, rfl, rfl⟩ | (simp; omega) | (simp; done)))
  · have hi : i < xs.length := by omega
    rw [List.drop_eq_getElem_cons hi] at p2
    have p3 : among xs vars = (dec (xs[i] ∈ vars) && among (xs.drop (i + 1)) vars) := p2.symm
    (repeat (with_reducible refine And.intro ?_ ?_; focus first | omega | rfl | assumption | exact ⟨_, rfl, rfl⟩ | (simp; omega) | (simp; done)))
    refine call_w (l1Has_ok vars xs[i] hv) ?_
    simp -implicitDefEqProofs (disch := omega) only [go_sem] <;> (repeat (with_reducible refine And.intro ?_ ?_; focus first | omega | rfl | assumption | exact ⟨_, rfl, rfl⟩ | (simp; omega) | (simp; done)))
    with_reducible refine split2 (fun hb => ?_) (fun hb => ?_) <;> have h := hb <;> (try simp only [wf_preprocess] at h) <;> simp -implicitDefEqProofs (disch := omega) only [go_sem, hb] <;> (repeat (with_reducible refine And.intro ?_ ?_; focus first | omega | rfl | assumption | exact ⟨_, rfl, rfl⟩ | (simp; omega) | (simp; done)))
    · exact bool_eq (by unfold typeOver; rw [hxs, p3, dec_false h]; simp)
    · exact inv_at (i + 1) (by omega) rfl rfl ⟨by omega, by rw [p3, dec_true h]; rfl⟩
  · rw [List.drop_of_length_le (by omega)] at p2
    have p3 : among xs vars = true := p2.symm
    (repeat (with_reducible refine And.intro ?_ ?_; focus first | omega | rfl | assumption | exact ⟨_, rfl, rfl⟩ | (simp; omega) | (simp; done)))
    refine call_w (specValidType_ok t hsz) ?_
    simp -implicitDefEqProofs (disch := omega) only [go_sem] <;> (repeat (with_reducible refine And.intro ?_ ?_; focus first | omega | rfl | assumption | exact ⟨_, rfl, rfl⟩ | (simp; omega) | (simp; done)))
    exact bool_eq (by unfold typeOver; rw [hxs, p3]; simp)
theorem l13All_ok (ts : List MType) (vars : List (List UInt8)) (hl : ts.length ≤ 1073741824) (hsz : ∀ t ∈ ts, t.sz ≤ 4194304) (hv : vars.length ≤ 1073741824) : PCall Tryz.prog 136 [.c (.d (.sl (ts.map MType.enc))), .c (.d (.sl (vars.map encS)))] (.c (.d (.b (typesOver vars ts)))) := fun S => by
  refine acall_cw (rs := [.tmp 4]) Tryz.checked.mixed Tryz.func136 Tryz.ntmps136 rfl rfl rfl rfl rfl ?_
  simp -implicitDefEqProofs (disch := omega) only [go_sem]
  refine loop_at (ι := Nat) Tryz.checked.mixed rfl [0, 1, 5] (fun i => [.c (.d (.sl (ts.map MType.enc))), .c (.d (.sl (vars.map encS))), .c (.d (.i .i64 i))]) (fun _ => [] :: S)
    (fun i => i ≤ ts.length ∧ typesOver vars (ts.drop i) = typesOver vars ts) (fun i => ts.length - i) 0 rfl rfl ⟨Nat.zero_le _, rfl⟩ ?_
  rintro i ⟨p1, p2⟩
  simp -implicitDefEqProofs (disch := omega) only [go_sem]
  with_reducible refine split2 (fun hb => ?_) (fun hb => ?_) <;> have h := hb <;> (try simp only [wf_preprocess] at h) <;> simp -implicitDefEqProofs (disch := omega) only [go_sem, hb] <;> (repeat (with_reducible refine And.intro ?_ ?_; focus first | omega | rfl | assumption | exact ⟨_, rfl, rfl⟩ | (simp; omega) | (simp; done)))
  · have hi : i < ts.length := by omega
    rw [List.drop_eq_getElem_cons hi] at p2
    have p3 : typesOver vars ts = (typeOver vars ts[i] && typesOver vars (ts.drop (i + 1))) := p2.symm
    (repeat (with_reducible refine And.intro ?_ ?_; focus first | omega | rfl | assumption | exact ⟨_, rfl, rfl⟩ | (simp; omega) | (simp; done)))
    refine call_w (l13Vars_ok ts[i] vars (hsz _ (List.getElem_mem hi)) hv) ?_
    simp -implicitDefEqProofs (disch := omega) only [go_sem] <;> (repeat (with_reducible refine And.intro ?_ ?_; focus first | omega | rfl | assumption | exact ⟨_, rfl, rfl⟩ | (simp; omega) | (simp; done)))
    with_reducible refine split2 (fun hb => ?_) (fun hb => ?_) <;> have h := hb <;> (try simp only [wf_preprocess] at h) <;> simp -implicitDefEqProofs (disch := omega) only [go_sem, hb] <;> (repeat (with_reducible refine And.intro ?_ ?_; focus first | omega | rfl | assumption | exact ⟨_, rfl, rfl⟩ | (simp; omega) | (simp; done)))
    · rw [p3, h]; rfl
    · exact inv_at (i + 1) (by omega) rfl rfl ⟨by omega, by rw [p3, h]; rfl⟩
  · rw [List.drop_of_length_le (by omega)] at p2
    rw [← p2]; rfl
end Go.Proofs.YtlmhknhlmicmeaaGreat

namespace Go.Ab
def ops : List (List UInt8) := [[43], [45], [42], [60], [61]]
def zeroT (t : MType) : Prop := t.fKind = 0 ∧ t.fName = [] ∧ t.fArgs.length = 0
def fieldsP (e : MExpr) : Prop :=
  (1 ≤ e.fKind ∧ e.fKind ≤ 12) ∧
  (if e.fKind = 5 ∨ e.fKind = 11 then validName e.fTrait = true else e.fTrait = []) ∧
  (if e.fKind = 3 ∨ e.fKind = 4 ∨ e.fKind = 5 ∨ e.fKind = 6 ∨ e.fKind = 8 then validName e.fName = true else if e.fKind = 10 then e.fName ∈ ops else e.fName = []) ∧
  (if e.fKind = 1 then -999999 ≤ e.fN ∧ e.fN ≤ 999999 else if e.fKind = 2 then e.fN = 0 ∨ e.fN = 1 else e.fN = 0) ∧
  (if e.fKind = 12 then validType e.fType = true else zeroT e.fType) ∧
  (if e.fKind = 4 ∨ e.fKind = 6 then True else if e.fKind = 5 then 1 ≤ e.fArgs.length else if e.fKind = 7 ∨ e.fKind = 11 ∨ e.fKind = 12 then e.fArgs.length = 1 else if e.fKind = 8 ∨ e.fKind = 10 then e.fArgs.length = 2 else if e.fKind = 9 then e.fArgs.length = 3 else e.fArgs.length = 0) ∧
  (e.fKind = 7 ↔ 0 < e.fArms.length)
mutual
noncomputable def exprOk : MExpr → Bool
  | .mk k t n m ty a b => dec (fieldsP (.mk k t n m ty a b)) && (exprsOk a && armsOk b)
noncomputable def exprsOk : List MExpr → Bool
  | [] => true
  | x :: xs => exprOk x && exprsOk xs
noncomputable def armOk : MArm → Bool
  | .mk c v b => validName c && (namesOk v && exprOk b)
noncomputable def armsOk : List MArm → Bool
  | [] => true
  | x :: xs => armOk x && armsOk xs
end
end Go.Ab
namespace Go.Ab
structure Hold (p : Prop) : Prop where
  out : p
end Go.Ab

namespace Go.Ab
end Go.Ab
namespace Go.Proofs.YtlmhknhlmicmeaaGreat
open Go Go.Ab
theorem indexByteString_x (l : List UInt8) (b : UInt8) : XCall Tryz.prog 238 [.c (.d (.s l)), .c (.d (.i .u8 b.toNat))] (.c (.d (.i .i64 (firstIdx ⟨l.toArray⟩ b)))) := by
  refine ⟨_, Extern.BytealgIndexByte.indexByte, Tryz.func238, by kernel_rfl, by kernel_rfl, by kernel_rfl, by kernel_rfl, fun w σ S β vs hS hv => ?_⟩
  obtain ⟨hl, h⟩ := hv
  obtain ⟨v0, e0, h0, _⟩ := h 0 _ rfl
  obtain ⟨v1, e1, h1, _⟩ := h 1 _ rfl
  cases h0
  cases h1
  have hvs : vs = [.string ⟨l.toArray⟩, .int .u8 b.toNat] := by
    match vs, hl, e0, e1 with
    | [x, y], _, e0, e1 => simp at e0 e1; rw [e0, e1]
  subst hvs
  refine ⟨_, run_indexByte_string _ _ w, ?_, rfl⟩
  have hb : (b.toNat : Int).toNat.toUInt8 = b := by simp
  rw [hb]
  exact .i _ _
theorem indexByte_ok (l : List UInt8) (b : UInt8) : PCall Tryz.prog 235 [.c (.d (.s l)), .c (.d (.i .u8 b.toNat))] (.c (.d (.i .i64 (firstIdx ⟨l.toArray⟩ b)))) := fun S => by
  refine acall_cw (rs := [.tmp 4]) Tryz.checked.mixed Tryz.func235 Tryz.ntmps235 rfl rfl rfl rfl rfl ?_
  simp -implicitDefEqProofs (disch := omega) only [go_sem]
  refine call_x (indexByteString_x l b) ?_
  simp -implicitDefEqProofs (disch := omega) only [go_sem]
end Go.Proofs.YtlmhknhlmicmeaaGreat

namespace Go.Ab
theorem atoms_idx (b : UInt8) : decide (firstIdx ⟨[39, 45, 43, 42, 60, 61, 46].toArray⟩ b ≥ 0) = decide (b ∈ ([39, 45, 43, 42, 60, 61, 46] : List UInt8)) := by
  have h : ∀ n : Nat, n < 256 → decide (firstIdx ⟨[39, 45, 43, 42, 60, 61, 46].toArray⟩ (UInt8.ofNat n) ≥ 0) = decide (UInt8.ofNat n ∈ ([39, 45, 43, 42, 60, 61, 46] : List UInt8)) := by decide +kernel
  have h1 := h b.toNat (UInt8.toNat_lt b)
  rwa [UInt8.ofNat_toNat] at h1
theorem atom_mem (b : UInt8) : b ∈ ([39, 45, 43, 42, 60, 61, 46] : List UInt8) ↔ (b.toNat = 39 ∨ b.toNat = 45 ∨ b.toNat = 43 ∨ b.toNat = 42 ∨ b.toNat = 60 ∨ b.toNat = 61 ∨ b.toNat = 46) := by
  have h : ∀ n : Nat, n < 256 → (UInt8.ofNat n ∈ ([39, 45, 43, 42, 60, 61, 46] : List UInt8) ↔ (n = 39 ∨ n = 45 ∨ n = 43 ∨ n = 42 ∨ n = 60 ∨ n = 61 ∨ n = 46)) := by decide +kernel
  have h1 := h b.toNat (UInt8.toNat_lt b)
  rwa [UInt8.ofNat_toNat] at h1
theorem atomByte_iff (b : UInt8) : atomByte b = true ↔ (97 ≤ b.toNat ∧ b.toNat ≤ 122) ∨ (48 ≤ b.toNat ∧ b.toNat ≤ 57) ∨ b.toNat = 39 ∨ b.toNat = 45 ∨ b.toNat = 43 ∨ b.toNat = 42 ∨ b.toNat = 60 ∨ b.toNat = 61 ∨ b.toNat = 46 := by
  unfold atomByte
  rw [Bool.or_eq_true, Bool.or_eq_true, decide_eq_true_eq, decide_eq_true_eq, decide_eq_true_eq, atom_mem, or_assoc]
theorem all_false {s : List UInt8} {i : Nat} (hi : i < s.length) (h : atomByte s[i] = false) : s.all atomByte = false := by
  rw [List.all_eq_false]
  exact ⟨s[i], List.getElem_mem hi, by simp [h]⟩
theorem all_true {s : List UInt8} (h : ∀ j (hj : j < s.length), atomByte s[j] = true) : s.all atomByte = true := by
  rw [List.all_eq_true]
  intro b hb
  obtain ⟨j, hj, e⟩ := List.getElem_of_mem hb
  rw [← e]; exact h j hj
theorem arg_szX {x : MSExpr} {i : Nat} (hi : i < x.fList.length) (h : x.sz ≤ 67108864) : x.fList[i].sz ≤ 67108864 ∧ x.fList.length ≤ 67108864 ∧ x.fAtom.length ≤ 67108864 := by
  have := szX_mem (List.getElem_mem hi)
  rw [sx_sz, szX_rows] at h
  omega
theorem sx_szX {x : MSExpr} (h : x.sz ≤ 67108864) : x.fList.length ≤ 67108864 ∧ x.fAtom.length ≤ 67108864 := by
  rw [sx_sz, szX_rows] at h
  omega
theorem formXs_drop {l : List MSExpr} {i : Nat} (hi : i < l.length) : formXs (l.drop i) = (formX l[i] && formXs (l.drop (i + 1))) := by rw [List.drop_eq_getElem_cons hi, formXs]
theorem depthXs_drop {l : List MSExpr} {i : Nat} (hi : i < l.length) : depthXs (l.drop i) = max (depthX l[i]) (depthXs (l.drop (i + 1))) := by rw [List.drop_eq_getElem_cons hi, depthXs]
theorem nodeXs_drop {l : List MSExpr} {i : Nat} (hi : i < l.length) : nodeXs (l.drop i) = nodeX l[i] + nodeXs (l.drop (i + 1)) := by rw [List.drop_eq_getElem_cons hi, nodeXs]
theorem node_lim {x : MSExpr} (h : x.sz ≤ 67108864) : nodeX x ≤ 67108865 := by have := nodeX_sz x; omega
theorem MSExpr.lt_fl {x : MSExpr} {i : Nat} (hi : i < x.fList.length) : SizeOf.sizeOf x.fList[i] < SizeOf.sizeOf x := by
  have := List.sizeOf_lt_of_mem (List.getElem_mem hi)
  have := MSExpr.lt_List x
  omega
end Go.Ab
namespace Go.Proofs.YtlmhknhlmicmeaaGreat
open Go Go.Ab
theorem strIndexByte_ok (l : List UInt8) (b : UInt8) : PCall Tryz.prog 222 [.c (.d (.s l)), .c (.d (.i .u8 b.toNat))] (.c (.d (.i .i64 (firstIdx ⟨l.toArray⟩ b)))) := fun S => by
  refine acall_cw (rs := [.tmp 4]) Tryz.checked.mixed Tryz.func222 Tryz.ntmps222 rfl rfl rfl rfl rfl ?_
  simp -implicitDefEqProofs (disch := omega) only [go_sem]
  refine call_w (indexByte_ok l b) ?_
  simp -implicitDefEqProofs (disch := omega) only [go_sem] <;> (repeat (with_reducible refine And.intro ?_ ?_; focus first | omega | rfl | assumption | exact ⟨_, rfl, rfl⟩ | (simp; omega) | (simp; done)))
theorem isAtomByte_ok (b : UInt8) : PCall Tryz.prog 196 [.c (.d (.i .u8 b.toNat))] (.c (.d (.b (atomByte b)))) := fun S => by
  refine acall_cw (rs := [.tmp 2]) Tryz.checked.mixed Tryz.func196 Tryz.ntmps196 rfl rfl rfl rfl rfl ?_
  simp -implicitDefEqProofs (disch := omega) only [go_sem]
  refine call_w (isLower_ok b) ?_
  simp -implicitDefEqProofs (disch := omega) only [go_sem] <;> (repeat (with_reducible refine And.intro ?_ ?_; focus first | omega | rfl | assumption | exact ⟨_, rfl, rfl⟩ | (simp; omega) | (simp; done)))
  with_reducible refine split2 (fun hb => ?_) (fun hb => ?_) <;> have h := hb <;> (try simp only [wf_preprocess] at h) <;> simp -implicitDefEqProofs (disch := omega) only [go_sem, hb] <;> (repeat (with_reducible refine And.intro ?_ ?_; focus first | omega | rfl | assumption | exact ⟨_, rfl, rfl⟩ | (simp; omega) | (simp; done)))
  · exact bool_eq ((atomByte_iff b).2 (.inl h)).symm
  have h1 := h
  refine call_w (isDigit_ok b) ?_
  simp -implicitDefEqProofs (disch := omega) only [go_sem] <;> (repeat (with_reducible refine And.intro ?_ ?_; focus first | omega | rfl | assumption | exact ⟨_, rfl, rfl⟩ | (simp; omega) | (simp; done)))
  with_reducible refine split2 (fun hb => ?_) (fun hb => ?_) <;> have h := hb <;> (try simp only [wf_preprocess] at h) <;> simp -implicitDefEqProofs (disch := omega) only [go_sem, hb] <;> (repeat (with_reducible refine And.intro ?_ ?_; focus first | omega | rfl | assumption | exact ⟨_, rfl, rfl⟩ | (simp; omega) | (simp; done)))
  · exact bool_eq ((atomByte_iff b).2 (.inr (.inl h))).symm
  have h2 := h
  refine call_w (strIndexByte_ok [39, 45, 43, 42, 60, 61, 46] b) ?_
  simp -implicitDefEqProofs (disch := omega) only [go_sem] <;> (repeat (with_reducible refine And.intro ?_ ?_; focus first | omega | rfl | assumption | exact ⟨_, rfl, rfl⟩ | (simp; omega) | (simp; done)))
  refine bool_eq ?_
  rw [atoms_idx]
  unfold atomByte
  unfold lowerB at h1
  unfold digitB at h2
  simp [h1, h2]
theorem implAtomOk (s : List UInt8) (hs : s.length ≤ 1073741824) : PCall Tryz.prog 173 [.c (.d (.s s))] (.c (.d (.b (validAtom s)))) := fun S => by
  refine acall_cw (rs := [.tmp 2]) Tryz.checked.mixed Tryz.func173 Tryz.ntmps173 rfl rfl rfl rfl rfl ?_
  simp -implicitDefEqProofs (disch := omega) only [go_sem]
  refine loop_at (ι := Nat) Tryz.checked.mixed rfl [0, 5, 6] (fun i => [.c (.d (.s s)), .c (.d (.i .i64 s.length)), .c (.d (.i .i64 i))]) (fun _ => [] :: S)
    (fun i => i ≤ s.length ∧ ∀ j, ∀ hj : j < s.length, j < i → atomByte s[j] = true) (fun i => s.length - i) 0 rfl rfl ⟨Nat.zero_le _, fun j _ h => by omega⟩ ?_
  rintro i ⟨p1, p2⟩
  simp -implicitDefEqProofs (disch := omega) only [go_sem]
  with_reducible refine split2 (fun hb => ?_) (fun hb => ?_) <;> have h := hb <;> (try simp only [wf_preprocess] at h) <;> simp -implicitDefEqProofs (disch := omega) only [go_sem, hb] <;> (repeat (with_reducible refine And.intro ?_ ?_; focus first | omega | rfl | assumption | exact ⟨_, rfl, rfl⟩ | (simp; omega) | (simp; done)))
  · have hi : i < s.length := by omega
    have e : s.getD i 0 = s[i] := by simp [List.getD, hi]
    (repeat (with_reducible refine And.intro ?_ ?_; focus first | omega | rfl | assumption | exact ⟨_, rfl, rfl⟩ | (simp; omega) | (simp; done)))
    rw [e]
    refine call_w (isAtomByte_ok s[i]) ?_
    simp -implicitDefEqProofs (disch := omega) only [go_sem] <;> (repeat (with_reducible refine And.intro ?_ ?_; focus first | omega | rfl | assumption | exact ⟨_, rfl, rfl⟩ | (simp; omega) | (simp; done)))
    with_reducible refine split2 (fun hb => ?_) (fun hb => ?_) <;> have h := hb <;> (try simp only [wf_preprocess] at h) <;> simp -implicitDefEqProofs (disch := omega) only [go_sem, hb] <;> (repeat (with_reducible refine And.intro ?_ ?_; focus first | omega | rfl | assumption | exact ⟨_, rfl, rfl⟩ | (simp; omega) | (simp; done)))
    · exact bool_eq (by unfold validAtom; rw [all_false hi h]; rfl)
    · refine inv_at (i + 1) (by omega) rfl rfl ⟨by omega, fun j hj hji => ?_⟩
      by_cases e' : j = i
      · subst e'; exact h
      · exact p2 j hj (by omega)
  · have ha := all_true (s := s) (fun j hj => p2 j hj (by omega))
    with_reducible refine split2 (fun hb => ?_) (fun hb => ?_) <;> have h := hb <;> (try simp only [wf_preprocess] at h) <;> simp -implicitDefEqProofs (disch := omega) only [go_sem, hb] <;> (repeat (with_reducible refine And.intro ?_ ?_; focus first | omega | rfl | assumption | exact ⟨_, rfl, rfl⟩ | (simp; omega) | (simp; done)))
    · refine bool_eq ?_
      unfold validAtom
      rw [ha, Bool.true_and]
      exact decide_eq_decide.2 (by omega)
    · refine bool_eq ?_
      unfold validAtom
      rw [ha, Bool.true_and]
      exact (decide_eq_false (by omega)).symm
theorem l2Byte_ok (b : UInt8) : PCall Tryz.prog 172 [.c (.d (.i .u8 b.toNat))] (.c (.d (.b (atomByte b)))) := fun S => by
  have yes : ((97 ≤ b.toNat ∧ b.toNat ≤ 122) ∨ (48 ≤ b.toNat ∧ b.toNat ≤ 57) ∨ b.toNat = 39 ∨ b.toNat = 45 ∨ b.toNat = 43 ∨ b.toNat = 42 ∨ b.toNat = 60 ∨ b.toNat = 61 ∨ b.toNat = 46) → atomByte b = true := (atomByte_iff b).2
  have no : ¬ ((97 ≤ b.toNat ∧ b.toNat ≤ 122) ∨ (48 ≤ b.toNat ∧ b.toNat ≤ 57) ∨ b.toNat = 39 ∨ b.toNat = 45 ∨ b.toNat = 43 ∨ b.toNat = 42 ∨ b.toNat = 60 ∨ b.toNat = 61 ∨ b.toNat = 46) → atomByte b = false := fun h => by
    cases hb : atomByte b with
    | false => rfl
    | true => exact absurd ((atomByte_iff b).1 hb) h
  refine acall_cw (rs := [.tmp 2]) Tryz.checked.mixed Tryz.func172 Tryz.ntmps172 rfl rfl rfl rfl rfl ?_
  simp -implicitDefEqProofs (disch := omega) only [go_sem]
  repeat' (first | (with_reducible refine split2 (fun hb => ?_) (fun hb => ?_) <;> have h := hb <;> (try simp only [wf_preprocess] at h) <;> simp -implicitDefEqProofs (disch := omega) only [go_sem, hb] <;> (repeat (with_reducible refine And.intro ?_ ?_; focus first | omega | rfl | assumption | exact ⟨_, rfl, rfl⟩ | (simp; omega) | (simp; done)))))
  all_goals first
    | exact bool_eq (yes (by omega)).symm
    | exact bool_eq (no (by omega)).symm
    | (refine bool_eq ?_; cases hb : atomByte b <;> simp only [decide_eq_true_eq, decide_eq_false_iff_not] <;> (first | (have := (atomByte_iff b).1 hb; omega) | (intro q; have := yes (by omega); rw [hb] at this; cases this)))
theorem specAtomOk (s : List UInt8) (hs : s.length ≤ 1073741824) : PCall Tryz.prog 132 [.c (.d (.s s))] (.c (.d (.b (validAtom s)))) := fun S => by
  refine acall_cw (rs := [.tmp 2]) Tryz.checked.mixed Tryz.func132 Tryz.ntmps132 rfl rfl rfl rfl rfl ?_
  simp -implicitDefEqProofs (disch := omega) only [go_sem]
  refine loop_at (ι := Nat) Tryz.checked.mixed rfl [0, 3] (fun i => [.c (.d (.s s)), .c (.d (.i .i64 i))]) (fun _ => [] :: S)
    (fun i => i ≤ s.length ∧ ∀ j, ∀ hj : j < s.length, j < i → atomByte s[j] = true) (fun i => s.length - i) 0 rfl rfl ⟨Nat.zero_le _, fun j _ h => by omega⟩ ?_
  rintro i ⟨p1, p2⟩
  simp -implicitDefEqProofs (disch := omega) only [go_sem]
  with_reducible refine split2 (fun hb => ?_) (fun hb => ?_) <;> have h := hb <;> (try simp only [wf_preprocess] at h) <;> simp -implicitDefEqProofs (disch := omega) only [go_sem, hb] <;> (repeat (with_reducible refine And.intro ?_ ?_; focus first | omega | rfl | assumption | exact ⟨_, rfl, rfl⟩ | (simp; omega) | (simp; done)))
  · have hi : i < s.length := by omega
    have e : s.getD i 0 = s[i] := by simp [List.getD, hi]
    (repeat (with_reducible refine And.intro ?_ ?_; focus first | omega | rfl | assumption | exact ⟨_, rfl, rfl⟩ | (simp; omega) | (simp; done)))
    rw [e]
    refine call_w (l2Byte_ok s[i]) ?_
    simp -implicitDefEqProofs (disch := omega) only [go_sem] <;> (repeat (with_reducible refine And.intro ?_ ?_; focus first | omega | rfl | assumption | exact ⟨_, rfl, rfl⟩ | (simp; omega) | (simp; done)))
    with_reducible refine split2 (fun hb => ?_) (fun hb => ?_) <;> have h := hb <;> (try simp only [wf_preprocess] at h) <;> simp -implicitDefEqProofs (disch := omega) only [go_sem, hb] <;> (repeat (with_reducible refine And.intro ?_ ?_; focus first | omega | rfl | assumption | exact ⟨_, rfl, rfl⟩ | (simp; omega) | (simp; done)))
    · exact bool_eq (by unfold validAtom; rw [all_false hi h]; rfl)
    · refine inv_at (i + 1) (by omega) rfl rfl ⟨by omega, fun j hj hji => ?_⟩
      by_cases e' : j = i
      · subst e'; exact h
      · exact p2 j hj (by omega)
  · have ha := all_true (s := s) (fun j hj => p2 j hj (by omega))
    refine call_w (l1In_ok s.length 1 12) ?_
    simp -implicitDefEqProofs (disch := omega) only [go_sem] <;> (repeat (with_reducible refine And.intro ?_ ?_; focus first | omega | rfl | assumption | exact ⟨_, rfl, rfl⟩ | (simp; omega) | (simp; done)))
    refine bool_eq ?_
    unfold validAtom
    rw [ha, Bool.true_and, ← decide_dec]
    exact decide_eq_decide.2 (by omega)
theorem areAtoms_all : ∀ n : Nat, (∀ x : MSExpr, SizeOf.sizeOf x < n → x.sz ≤ 67108864 → PCall Tryz.prog 137 [x.v] (.c (.d (.b (formX x))))) ∧
    (∀ xs : List MSExpr, SizeOf.sizeOf xs < n → xs.length ≤ 67108864 → (∀ t ∈ xs, t.sz ≤ 67108864) → PCall Tryz.prog 174 [.c (.d (.sl (xs.map MSExpr.enc))), .c (.fn 175 [])] (.c (.d (.b (!formXs xs)))))
  | 0 => ⟨fun x h => by omega, fun x h => by omega⟩
  | n + 1 => by
    obtain ⟨ih, ihS⟩ := areAtoms_all n
    refine ⟨fun x hn hsz S => ?_, fun xs hn hlen hsz S => ?_⟩
    · have lArgs := MSExpr.lt_List x
      have hts := sx_szX hsz
      have hall : ∀ t ∈ x.fList, t.sz ≤ 67108864 := fun t ht => by
        obtain ⟨i, hi, e⟩ := List.getElem_of_mem ht
        rw [← e]; exact (arg_szX hi hsz).1
      have tail := ihS x.fList (by omega) hts.1 hall
      have hf := formX_eq x
      refine acall_cw (rs := [.tmp 2]) Tryz.checked.mixed Tryz.func137 Tryz.ntmps137 rfl rfl rfl rfl rfl ?_
      simp -implicitDefEqProofs (disch := omega) only [go_sem]
      with_reducible refine split2 (fun hb => ?_) (fun hb => ?_) <;> have h := hb <;> (try simp only [wf_preprocess] at h) <;> simp -implicitDefEqProofs (disch := omega) only [go_sem, hb] <;> (repeat (with_reducible refine And.intro ?_ ?_; focus first | omega | rfl | assumption | exact ⟨_, rfl, rfl⟩ | (simp; omega) | (simp; done)))
      · rw [if_neg h] at hf
        refine call_w (implAtomOk x.fAtom (by omega)) ?_
        simp -implicitDefEqProofs (disch := omega) only [go_sem] <;> (repeat (with_reducible refine And.intro ?_ ?_; focus first | omega | rfl | assumption | exact ⟨_, rfl, rfl⟩ | (simp; omega) | (simp; done)))
        with_reducible refine split2 (fun hb => ?_) (fun hb => ?_) <;> have h := hb <;> (try simp only [wf_preprocess] at h) <;> simp -implicitDefEqProofs (disch := omega) only [go_sem, hb] <;> (repeat (with_reducible refine And.intro ?_ ?_; focus first | omega | rfl | assumption | exact ⟨_, rfl, rfl⟩ | (simp; omega) | (simp; done)))
        · rw [hf, h, Bool.true_and]
          exact bool_eq (decide_eq_decide.2 (by omega))
        · rw [hf, h, Bool.false_and]
      · rw [if_pos h] at hf
        refine call_w tail ?_
        simp -implicitDefEqProofs (disch := omega) only [go_sem]
        rw [hf, Bool.not_not]
    · have hcl : ∀ y ∈ xs, PCall Tryz.prog 175 [y.v] (.c (.d (.b (!formX y)))) := fun y hy S => by
        have hys := List.sizeOf_lt_of_mem hy
        refine acall_cw (rs := [.tmp 2]) Tryz.checked.mixed Tryz.func175 Tryz.ntmps175 rfl rfl rfl rfl rfl ?_
        simp -implicitDefEqProofs (disch := omega) only [go_sem]
        refine call_w (ih y (by omega) (hsz y hy)) ?_
        simp -implicitDefEqProofs (disch := omega) only [go_sem] <;> (repeat (with_reducible refine And.intro ?_ ?_; focus first | omega | rfl | assumption | exact ⟨_, rfl, rfl⟩ | (simp; omega) | (simp; done)))
      have hidx : PCall Tryz.prog 197 [.c (.d (.sl (xs.map MSExpr.enc))), .c (.fn 175 [])] (.c (.d (.i .i64 (indexP (fun y => !formX y) xs)))) := fun S => by
        refine acall_cw (rs := [.tmp 4]) Tryz.checked.mixed Tryz.func197 Tryz.ntmps197 rfl rfl rfl rfl rfl ?_
        simp -implicitDefEqProofs (disch := omega) only [go_sem]
        refine loop_at (ι := Nat) Tryz.checked.mixed rfl [0, 1, 7, 8] (fun i => [.c (.d (.sl (xs.map MSExpr.enc))), .c (.fn 175 []), .c (.d (.i .i64 xs.length)), .c (.d (.i .i64 i))]) (fun _ => [] :: S)
          (fun i => i ≤ xs.length ∧ ∀ j, ∀ hj : j < xs.length, j < i → formX xs[j] = true) (fun i => xs.length - i) 0 rfl rfl ⟨Nat.zero_le _, fun j _ h => by omega⟩ ?_
        rintro i ⟨p1, p2⟩
        simp -implicitDefEqProofs (disch := omega) only [go_sem]
        with_reducible refine split2 (fun hb => ?_) (fun hb => ?_) <;> have h := hb <;> (try simp only [wf_preprocess] at h) <;> simp -implicitDefEqProofs (disch := omega) only [go_sem, hb] <;> (repeat (with_reducible refine And.intro ?_ ?_; focus first | omega | rfl | assumption | exact ⟨_, rfl, rfl⟩ | (simp; omega) | (simp; done)))
        · have hi : i < xs.length := by omega
          (repeat (with_reducible refine And.intro ?_ ?_; focus first | omega | rfl | assumption | exact ⟨_, rfl, rfl⟩ | (simp; omega) | (simp; done)))
          refine call_w (hcl xs[i] (List.getElem_mem hi)) ?_
          simp -implicitDefEqProofs (disch := omega) only [go_sem] <;> (repeat (with_reducible refine And.intro ?_ ?_; focus first | omega | rfl | assumption | exact ⟨_, rfl, rfl⟩ | (simp; omega) | (simp; done)))
          with_reducible refine split2 (fun hb => ?_) (fun hb => ?_) <;> have h := hb <;> (try simp only [wf_preprocess] at h) <;> simp -implicitDefEqProofs (disch := omega) only [go_sem, hb] <;> (repeat (with_reducible refine And.intro ?_ ?_; focus first | omega | rfl | assumption | exact ⟨_, rfl, rfl⟩ | (simp; omega) | (simp; done)))
          · rw [indexP_here hi (fun j hj hji => by rw [p2 j hj hji]; rfl) (by rw [h]; rfl)]
          · refine inv_at (i + 1) (by omega) rfl rfl ⟨by omega, fun j hj hji => ?_⟩
            by_cases e : j = i
            · subst e; exact h
            · exact p2 j hj (by omega)
        · rw [indexP_no (fun j hj => by rw [p2 j hj (by omega)]; rfl)]
      refine acall_cw (rs := [.tmp 4]) Tryz.checked.mixed Tryz.func174 Tryz.ntmps174 rfl rfl rfl rfl rfl ?_
      simp -implicitDefEqProofs (disch := omega) only [go_sem]
      refine call_w (hidx) ?_
      simp -implicitDefEqProofs (disch := omega) only [go_sem] <;> (repeat (with_reducible refine And.intro ?_ ?_; focus first | omega | rfl | assumption | exact ⟨_, rfl, rfl⟩ | (simp; omega) | (simp; done)))
      rw [← formXs_any]
      exact bool_eq indexP_pos
theorem areAtoms_ok (x : MSExpr) (hsz : x.sz ≤ 67108864) : PCall Tryz.prog 137 [x.v] (.c (.d (.b (formX x)))) := (areAtoms_all _).1 x (Nat.lt_succ_self _) hsz
theorem implDepthX_all : ∀ n : Nat, ∀ x : MSExpr, SizeOf.sizeOf x < n → x.sz ≤ 67108864 → PCall Tryz.prog 138 [x.v] (.c (.d (.i .i64 (depthX x))))
  | 0 => fun x h => by omega
  | n + 1 => by
    have ih := implDepthX_all n
    intro x hn hsz S
    have hts := sx_szX hsz
    have hd := depthX_eq x
    have hd1 := depthX_node x
    have hd2 := node_lim hsz
    refine acall_cw (rs := [.tmp 2]) Tryz.checked.mixed Tryz.func138 Tryz.ntmps138 rfl rfl rfl rfl rfl ?_
    simp -implicitDefEqProofs (disch := omega) only [go_sem]
    with_reducible refine split2 (fun hb => ?_) (fun hb => ?_) <;> have h := hb <;> (try simp only [wf_preprocess] at h) <;> simp -implicitDefEqProofs (disch := omega) only [go_sem, hb] <;> (repeat (with_reducible refine And.intro ?_ ?_; focus first | omega | rfl | assumption | exact ⟨_, rfl, rfl⟩ | (simp; omega) | (simp; done)))
    · rw [if_neg h] at hd
      rw [hd]; rfl
    rw [if_pos h] at hd
    refine loop_at (ι := Nat × Nat) Tryz.checked.mixed rfl [3, 10, 11, 12] (fun y => [.c (.d (.i .i64 y.2)), .c (.d (.sl (x.fList.map MSExpr.enc))), .c (.d (.i .i64 x.fList.length)), .c (.d (.i .i64 y.1))]) (fun y => [.box [.d (.s x.fAtom), .d (.sl (x.fList.map MSExpr.enc))]] :: S)
      (fun y => y.1 ≤ x.fList.length ∧ depthX x = max y.2 (depthXs (x.fList.drop y.1)) + 1) (fun y => x.fList.length - y.1) (0, 0) rfl rfl ⟨Nat.zero_le _, by simp [hd]⟩ ?_
    rintro ⟨i, c⟩ ⟨p1, p2⟩
    simp only at p1 p2
    simp -implicitDefEqProofs (disch := omega) only [go_sem]
    with_reducible refine split2 (fun hb => ?_) (fun hb => ?_) <;> have h := hb <;> (try simp only [wf_preprocess] at h) <;> simp -implicitDefEqProofs (disch := omega) only [go_sem, hb] <;> (repeat (with_reducible refine And.intro ?_ ?_; focus first | omega | rfl | assumption | exact ⟨_, rfl, rfl⟩ | (simp; omega) | (simp; done)))
    · have hi : i < x.fList.length := by omega
      have hsz' := arg_szX hi hsz
      rw [depthXs_drop hi] at p2
      (repeat (with_reducible refine And.intro ?_ ?_; focus first | omega | rfl | assumption | exact ⟨_, rfl, rfl⟩ | (simp; omega) | (simp; done)))
      refine call_w (ih x.fList[i] (by have := MSExpr.lt_fl hi; omega) (by omega)) ?_
      simp -implicitDefEqProofs (disch := omega) only [go_sem] <;> (repeat (with_reducible refine And.intro ?_ ?_; focus first | omega | rfl | assumption | exact ⟨_, rfl, rfl⟩ | (simp; omega) | (simp; done)))
      rw [show max (c : Int) ((depthX x.fList[i] : Int)) = ((max c (depthX x.fList[i]) : Nat) : Int) by omega]
      exact inv_drop 1 (by decide) (i + 1, max c (depthX x.fList[i])) (by simp only; omega) rfl rfl rfl rfl ⟨by simp only; omega, by simp only; omega⟩
    · have hi : i = x.fList.length := by omega
      rw [hi, List.drop_length, depthXs] at p2
      (repeat (with_reducible refine And.intro ?_ ?_; focus first | omega | rfl | assumption | exact ⟨_, rfl, rfl⟩ | (simp; omega) | (simp; done)))
      exact int_eq (by omega)
theorem implDepthX_ok (x : MSExpr) (hsz : x.sz ≤ 67108864) : PCall Tryz.prog 138 [x.v] (.c (.d (.i .i64 (depthX x)))) := implDepthX_all _ x (Nat.lt_succ_self _) hsz
theorem implNodeX_all : ∀ n : Nat, ∀ x : MSExpr, SizeOf.sizeOf x < n → x.sz ≤ 67108864 → PCall Tryz.prog 139 [x.v] (.c (.d (.i .i64 (nodeX x))))
  | 0 => fun x h => by omega
  | n + 1 => by
    have ih := implNodeX_all n
    intro x hn hsz S
    have hts := sx_szX hsz
    have hd2 := node_lim hsz
    refine acall_cw (rs := [.tmp 2]) Tryz.checked.mixed Tryz.func139 Tryz.ntmps139 rfl rfl rfl rfl rfl ?_
    simp -implicitDefEqProofs (disch := omega) only [go_sem]
    refine loop_at (ι := Nat × Nat) Tryz.checked.mixed rfl [3, 7, 8, 9] (fun y => [.c (.d (.i .i64 y.2)), .c (.d (.sl (x.fList.map MSExpr.enc))), .c (.d (.i .i64 x.fList.length)), .c (.d (.i .i64 y.1))]) (fun y => [.box [.d (.s x.fAtom), .d (.sl (x.fList.map MSExpr.enc))]] :: S)
      (fun y => y.1 ≤ x.fList.length ∧ nodeX x = y.2 + nodeXs (x.fList.drop y.1)) (fun y => x.fList.length - y.1) (0, 1) rfl rfl ⟨Nat.zero_le _, by simp [nodeX_eq]; omega⟩ ?_
    rintro ⟨i, c⟩ ⟨p1, p2⟩
    simp only at p1 p2
    simp -implicitDefEqProofs (disch := omega) only [go_sem]
    with_reducible refine split2 (fun hb => ?_) (fun hb => ?_) <;> have h := hb <;> (try simp only [wf_preprocess] at h) <;> simp -implicitDefEqProofs (disch := omega) only [go_sem, hb] <;> (repeat (with_reducible refine And.intro ?_ ?_; focus first | omega | rfl | assumption | exact ⟨_, rfl, rfl⟩ | (simp; omega) | (simp; done)))
    · have hi : i < x.fList.length := by omega
      have hsz' := arg_szX hi hsz
      rw [nodeXs_drop hi] at p2
      (repeat (with_reducible refine And.intro ?_ ?_; focus first | omega | rfl | assumption | exact ⟨_, rfl, rfl⟩ | (simp; omega) | (simp; done)))
      refine call_w (ih x.fList[i] (by have := MSExpr.lt_fl hi; omega) (by omega)) ?_
      simp -implicitDefEqProofs (disch := omega) only [go_sem] <;> (repeat (with_reducible refine And.intro ?_ ?_; focus first | omega | rfl | assumption | exact ⟨_, rfl, rfl⟩ | (simp; omega) | (simp; done)))
      rw [show (c : Int) + (nodeX x.fList[i] : Int) = ((c + nodeX x.fList[i] : Nat) : Int) by omega]
      exact inv_drop 1 (by decide) (i + 1, c + nodeX x.fList[i]) (by simp only; omega) rfl rfl rfl rfl ⟨by simp only; omega, by simp only; omega⟩
    · have hi : i = x.fList.length := by omega
      rw [hi, List.drop_length, nodeXs] at p2
      exact int_eq (by omega)
theorem implNodeX_ok (x : MSExpr) (hsz : x.sz ≤ 67108864) : PCall Tryz.prog 139 [x.v] (.c (.d (.i .i64 (nodeX x)))) := implNodeX_all _ x (Nat.lt_succ_self _) hsz
theorem implValidX_ok (x : MSExpr) (hsz : x.sz ≤ 67108864) : PCall Tryz.prog 92 [x.v] (.c (.d (.b (validX x)))) := fun S => by
  refine acall_cw (rs := [.tmp 2]) Tryz.checked.mixed Tryz.func92 Tryz.ntmps92 rfl rfl rfl rfl rfl ?_
  simp -implicitDefEqProofs (disch := omega) only [go_sem]
  refine call_w (areAtoms_ok x hsz) ?_
  simp -implicitDefEqProofs (disch := omega) only [go_sem] <;> (repeat (with_reducible refine And.intro ?_ ?_; focus first | omega | rfl | assumption | exact ⟨_, rfl, rfl⟩ | (simp; omega) | (simp; done)))
  with_reducible refine split2 (fun hb => ?_) (fun hb => ?_) <;> have h := hb <;> (try simp only [wf_preprocess] at h) <;> simp -implicitDefEqProofs (disch := omega) only [go_sem, hb] <;> (repeat (with_reducible refine And.intro ?_ ?_; focus first | omega | rfl | assumption | exact ⟨_, rfl, rfl⟩ | (simp; omega) | (simp; done)))
  · have hf := h
    refine call_w (implDepthX_ok x hsz) ?_
    simp -implicitDefEqProofs (disch := omega) only [go_sem] <;> (repeat (with_reducible refine And.intro ?_ ?_; focus first | omega | rfl | assumption | exact ⟨_, rfl, rfl⟩ | (simp; omega) | (simp; done)))
    with_reducible refine split2 (fun hb => ?_) (fun hb => ?_) <;> have h := hb <;> (try simp only [wf_preprocess] at h) <;> simp -implicitDefEqProofs (disch := omega) only [go_sem, hb] <;> (repeat (with_reducible refine And.intro ?_ ?_; focus first | omega | rfl | assumption | exact ⟨_, rfl, rfl⟩ | (simp; omega) | (simp; done)))
    · refine call_w (implNodeX_ok x hsz) ?_
      simp -implicitDefEqProofs (disch := omega) only [go_sem] <;> (repeat (with_reducible refine And.intro ?_ ?_; focus first | omega | rfl | assumption | exact ⟨_, rfl, rfl⟩ | (simp; omega) | (simp; done)))
      refine bool_eq ?_
      unfold validX
      rw [hf, Bool.true_and]
      exact decide_eq_decide.2 (by omega)
    · refine bool_eq ?_
      unfold validX
      rw [hf, Bool.true_and]
      exact (decide_eq_false (by omega)).symm
  · refine bool_eq ?_
    unfold validX
    rw [h, Bool.false_and]
theorem l2Left_all : ∀ n : Nat, ∀ x : MSExpr, SizeOf.sizeOf x < n → ∀ l : Int, 0 ≤ l → l ≤ 1073741824 → x.sz ≤ 67108864 → PCall Tryz.prog 83 [x.v, .c (.d (.i .i64 l))] (.c (.d (.i .i64 (sub1 l (nodeX x)))))
  | 0 => fun x h => by omega
  | n + 1 => by
    have ih := l2Left_all n
    intro x hn l h0 h1 hsz S
    have hts := sx_szX hsz
    have hcn := nodeX_eq x
    refine acall_cw (rs := [.tmp 4]) Tryz.checked.mixed Tryz.func83 Tryz.ntmps83 rfl rfl rfl rfl rfl ?_
    simp -implicitDefEqProofs (disch := omega) only [go_sem]
    refine loop_at (ι := Nat × Int) Tryz.checked.mixed rfl [1, 2, 5] (fun y => [.c (.d (.i .i64 y.2)), .c (.ptr (0, 0) 0), .c (.d (.i .i64 y.1))]) (fun y => [.box [.d (.s x.fAtom), .d (.sl (x.fList.map MSExpr.enc))]] :: S)
      (fun y => y.1 ≤ x.fList.length ∧ -1 ≤ y.2 ∧ y.2 ≤ 1073741824 ∧ (0 ≤ y.2 → sub1 l (nodeX x) = sub1 y.2 (nodeXs (x.fList.drop y.1))) ∧ (y.2 < 0 → sub1 l (nodeX x) = -1)) (fun y => x.fList.length - y.1) (0, l - 1) rfl rfl ⟨Nat.zero_le _, by simp only; omega, by simp only; omega, fun h => ?_, fun h => ?_⟩ ?_
    · simp only [List.drop_zero] at h ⊢
      unfold sub1
      rw [hcn]
      split <;> split <;> omega
    · simp only at h
      exact sub1_no (by omega)
    rintro ⟨i, c⟩ ⟨p1, p2, p3, p4, p5⟩
    simp only at p1 p2 p3 p4 p5
    simp -implicitDefEqProofs (disch := omega) only [go_sem]
    with_reducible refine split2 (fun hb => ?_) (fun hb => ?_) <;> have h := hb <;> (try simp only [wf_preprocess] at h) <;> simp -implicitDefEqProofs (disch := omega) only [go_sem, hb] <;> (repeat (with_reducible refine And.intro ?_ ?_; focus first | omega | rfl | assumption | exact ⟨_, rfl, rfl⟩ | (simp; omega) | (simp; done)))
    · have hi : i < x.fList.length := by omega
      with_reducible refine split2 (fun hb => ?_) (fun hb => ?_) <;> have h := hb <;> (try simp only [wf_preprocess] at h) <;> simp -implicitDefEqProofs (disch := omega) only [go_sem, hb] <;> (repeat (with_reducible refine And.intro ?_ ?_; focus first | omega | rfl | assumption | exact ⟨_, rfl, rfl⟩ | (simp; omega) | (simp; done)))
      · have hsz' := arg_szX hi hsz
        have p6 := p4 h
        rw [nodeXs_drop hi] at p6
        (repeat (with_reducible refine And.intro ?_ ?_; focus first | omega | rfl | assumption | exact ⟨_, rfl, rfl⟩ | (simp; omega) | (simp; done)))
        refine call_w (ih x.fList[i] (by have := MSExpr.lt_fl hi; omega) c (by omega) (by omega) (by omega)) ?_
        simp -implicitDefEqProofs (disch := omega) only [go_sem] <;> (repeat (with_reducible refine And.intro ?_ ?_; focus first | omega | rfl | assumption | exact ⟨_, rfl, rfl⟩ | (simp; omega) | (simp; done)))
        refine inv_at (i + 1, sub1 c _) (by simp only; omega) rfl rfl ⟨by simp only; omega, ?_, ?_, fun h => ?_, fun h => ?_⟩
        · simp only; unfold sub1; split <;> omega
        · simp only; unfold sub1; split <;> omega
        · simp only at h ⊢
          rw [p6]
          have := sub1_nn (l := c) (a := nodeX x.fList[i]) (by omega)
          rw [this.1]
          unfold sub1
          split <;> split <;> omega
        · simp only at h ⊢
          rw [p6]
          have := sub1_neg h
          exact sub1_no (by omega)
      · have hc : c = -1 := by omega
        rw [p5 (by omega), hc]
    · have hi : i = x.fList.length := by omega
      by_cases hc : 0 ≤ c
      · rw [p4 hc, hi, List.drop_length, nodeXs, sub1_yes (by omega)]
        exact int_eq (by simp)
      · rw [p5 (by omega)]
        exact int_eq (by omega)
theorem l2Left_ok (x : MSExpr) (l : Int) (h0 : 0 ≤ l) (h1 : l ≤ 1073741824) (hsz : x.sz ≤ 67108864) : PCall Tryz.prog 83 [x.v, .c (.d (.i .i64 l))] (.c (.d (.i .i64 (sub1 l (nodeX x))))) := l2Left_all _ x (Nat.lt_succ_self _) l h0 h1 hsz
theorem l2Form_all : ∀ n : Nat, ∀ x : MSExpr, SizeOf.sizeOf x < n → x.sz ≤ 67108864 → PCall Tryz.prog 84 [x.v] (.c (.d (.b (formX x))))
  | 0 => fun x h => by omega
  | n + 1 => by
    have ih := l2Form_all n
    intro x hn hsz S
    have hts := sx_szX hsz
    have hf := formX_eq x
    refine acall_cw (rs := [.tmp 2]) Tryz.checked.mixed Tryz.func84 Tryz.ntmps84 rfl rfl rfl rfl rfl ?_
    simp -implicitDefEqProofs (disch := omega) only [go_sem]
    with_reducible refine split2 (fun hb => ?_) (fun hb => ?_) <;> have h := hb <;> (try simp only [wf_preprocess] at h) <;> simp -implicitDefEqProofs (disch := omega) only [go_sem, hb] <;> (repeat (with_reducible refine And.intro ?_ ?_; focus first | omega | rfl | assumption | exact ⟨_, rfl, rfl⟩ | (simp; omega) | (simp; done)))
    · rw [if_neg h] at hf
      refine call_w (specAtomOk x.fAtom (by omega)) ?_
      simp -implicitDefEqProofs (disch := omega) only [go_sem] <;> (repeat (with_reducible refine And.intro ?_ ?_; focus first | omega | rfl | assumption | exact ⟨_, rfl, rfl⟩ | (simp; omega) | (simp; done)))
      with_reducible refine split2 (fun hb => ?_) (fun hb => ?_) <;> have h := hb <;> (try simp only [wf_preprocess] at h) <;> simp -implicitDefEqProofs (disch := omega) only [go_sem, hb] <;> (repeat (with_reducible refine And.intro ?_ ?_; focus first | omega | rfl | assumption | exact ⟨_, rfl, rfl⟩ | (simp; omega) | (simp; done)))
      · rw [hf, h, Bool.true_and]
        exact bool_eq (decide_eq_decide.2 (by omega))
      · rw [hf, h, Bool.false_and]
    rw [if_pos h] at hf
    refine loop_at (ι := Nat) Tryz.checked.mixed rfl [1, 3] (fun y => [.c (.ptr (0, 0) 0), .c (.d (.i .i64 y))]) (fun y => [.box [.d (.s x.fAtom), .d (.sl (x.fList.map MSExpr.enc))]] :: S)
      (fun y => y ≤ x.fList.length ∧ formX x = formXs (x.fList.drop y)) (fun y => x.fList.length - y) 0 rfl rfl ⟨Nat.zero_le _, hf⟩ ?_
    rintro i ⟨p1, p2⟩
    simp -implicitDefEqProofs (disch := omega) only [go_sem]
    with_reducible refine split2 (fun hb => ?_) (fun hb => ?_) <;> have h := hb <;> (try simp only [wf_preprocess] at h) <;> simp -implicitDefEqProofs (disch := omega) only [go_sem, hb] <;> (repeat (with_reducible refine And.intro ?_ ?_; focus first | omega | rfl | assumption | exact ⟨_, rfl, rfl⟩ | (simp; omega) | (simp; done)))
    · have hi : i < x.fList.length := by omega
      have hsz' := arg_szX hi hsz
      rw [formXs_drop hi] at p2
      (repeat (with_reducible refine And.intro ?_ ?_; focus first | omega | rfl | assumption | exact ⟨_, rfl, rfl⟩ | (simp; omega) | (simp; done)))
      refine call_w (ih x.fList[i] (by have := MSExpr.lt_fl hi; omega) (by omega)) ?_
      simp -implicitDefEqProofs (disch := omega) only [go_sem] <;> (repeat (with_reducible refine And.intro ?_ ?_; focus first | omega | rfl | assumption | exact ⟨_, rfl, rfl⟩ | (simp; omega) | (simp; done)))
      with_reducible refine split2 (fun hb => ?_) (fun hb => ?_) <;> have h := hb <;> (try simp only [wf_preprocess] at h) <;> simp -implicitDefEqProofs (disch := omega) only [go_sem, hb] <;> (repeat (with_reducible refine And.intro ?_ ?_; focus first | omega | rfl | assumption | exact ⟨_, rfl, rfl⟩ | (simp; omega) | (simp; done)))
      · rw [p2, h, Bool.false_and]
      · exact inv_at (i + 1) (by omega) rfl rfl ⟨by omega, by rw [p2, h, Bool.true_and]⟩
    · have hi : i = x.fList.length := by omega
      rw [hi, List.drop_length, formXs] at p2
      rw [p2]
theorem l2Form_ok (x : MSExpr) (hsz : x.sz ≤ 67108864) : PCall Tryz.prog 84 [x.v] (.c (.d (.b (formX x)))) := l2Form_all _ x (Nat.lt_succ_self _) hsz
theorem specDepthX_all : ∀ n : Nat, ∀ x : MSExpr, SizeOf.sizeOf x < n → x.sz ≤ 67108864 → PCall Tryz.prog 85 [x.v] (.c (.d (.i .i64 (depthX x))))
  | 0 => fun x h => by omega
  | n + 1 => by
    have ih := specDepthX_all n
    intro x hn hsz S
    have hts := sx_szX hsz
    have hd := depthX_eq x
    have hd1 := depthX_node x
    have hd2 := node_lim hsz
    refine acall_cw (rs := [.tmp 2]) Tryz.checked.mixed Tryz.func85 Tryz.ntmps85 rfl rfl rfl rfl rfl ?_
    simp -implicitDefEqProofs (disch := omega) only [go_sem]
    with_reducible refine split2 (fun hb => ?_) (fun hb => ?_) <;> have h := hb <;> (try simp only [wf_preprocess] at h) <;> simp -implicitDefEqProofs (disch := omega) only [go_sem, hb] <;> (repeat (with_reducible refine And.intro ?_ ?_; focus first | omega | rfl | assumption | exact ⟨_, rfl, rfl⟩ | (simp; omega) | (simp; done)))
    · rw [if_neg h] at hd
      rw [hd]; rfl
    rw [if_pos h] at hd
    refine loop_at (ι := Nat × Nat) Tryz.checked.mixed rfl [1, 3, 4] (fun y => [.c (.ptr (0, 0) 0), .c (.d (.i .i64 y.2)), .c (.d (.i .i64 y.1))]) (fun y => [.box [.d (.s x.fAtom), .d (.sl (x.fList.map MSExpr.enc))]] :: S)
      (fun y => y.1 ≤ x.fList.length ∧ depthX x = max y.2 (depthXs (x.fList.drop y.1)) + 1) (fun y => x.fList.length - y.1) (0, 0) rfl rfl ⟨Nat.zero_le _, by simp [hd]⟩ ?_
    rintro ⟨i, c⟩ ⟨p1, p2⟩
    simp only at p1 p2
    simp -implicitDefEqProofs (disch := omega) only [go_sem]
    with_reducible refine split2 (fun hb => ?_) (fun hb => ?_) <;> have h := hb <;> (try simp only [wf_preprocess] at h) <;> simp -implicitDefEqProofs (disch := omega) only [go_sem, hb] <;> (repeat (with_reducible refine And.intro ?_ ?_; focus first | omega | rfl | assumption | exact ⟨_, rfl, rfl⟩ | (simp; omega) | (simp; done)))
    · have hi : i < x.fList.length := by omega
      have hsz' := arg_szX hi hsz
      rw [depthXs_drop hi] at p2
      (repeat (with_reducible refine And.intro ?_ ?_; focus first | omega | rfl | assumption | exact ⟨_, rfl, rfl⟩ | (simp; omega) | (simp; done)))
      refine call_w (ih x.fList[i] (by have := MSExpr.lt_fl hi; omega) (by omega)) ?_
      simp -implicitDefEqProofs (disch := omega) only [go_sem] <;> (repeat (with_reducible refine And.intro ?_ ?_; focus first | omega | rfl | assumption | exact ⟨_, rfl, rfl⟩ | (simp; omega) | (simp; done)))
      refine call_w (l1Max_ok _ _) ?_
      simp -implicitDefEqProofs (disch := omega) only [go_sem] <;> (repeat (with_reducible refine And.intro ?_ ?_; focus first | omega | rfl | assumption | exact ⟨_, rfl, rfl⟩ | (simp; omega) | (simp; done)))
      rw [show max (c : Int) ((depthX x.fList[i] : Int)) = ((max c (depthX x.fList[i]) : Nat) : Int) by omega]
      exact inv_at (i + 1, max c (depthX x.fList[i])) (by simp only; omega) rfl rfl ⟨by simp only; omega, by simp only; omega⟩
    · have hi : i = x.fList.length := by omega
      rw [hi, List.drop_length, depthXs] at p2
      (repeat (with_reducible refine And.intro ?_ ?_; focus first | omega | rfl | assumption | exact ⟨_, rfl, rfl⟩ | (simp; omega) | (simp; done)))
      exact int_eq (by omega)
theorem specDepthX_ok (x : MSExpr) (hsz : x.sz ≤ 67108864) : PCall Tryz.prog 85 [x.v] (.c (.d (.i .i64 (depthX x)))) := specDepthX_all _ x (Nat.lt_succ_self _) hsz
theorem specValidX_ok (x : MSExpr) (hsz : x.sz ≤ 67108864) : PCall Tryz.prog 39 [x.v] (.c (.d (.b (validX x)))) := fun S => by
  refine acall_cw (rs := [.tmp 2]) Tryz.checked.mixed Tryz.func39 Tryz.ntmps39 rfl rfl rfl rfl rfl ?_
  simp -implicitDefEqProofs (disch := omega) only [go_sem]
  refine call_w (l2Left_ok x 900 (by omega) (by omega) hsz) ?_
  simp -implicitDefEqProofs (disch := omega) only [go_sem] <;> (repeat (with_reducible refine And.intro ?_ ?_; focus first | omega | rfl | assumption | exact ⟨_, rfl, rfl⟩ | (simp; omega) | (simp; done)))
  with_reducible refine split2 (fun hb => ?_) (fun hb => ?_) <;> have h := hb <;> (try simp only [wf_preprocess] at h) <;> simp -implicitDefEqProofs (disch := omega) only [go_sem, hb] <;> (repeat (with_reducible refine And.intro ?_ ?_; focus first | omega | rfl | assumption | exact ⟨_, rfl, rfl⟩ | (simp; omega) | (simp; done)))
  · have h1 := (sub1_nn (l := 900) (a := nodeX x) (by omega)).2
    refine call_w (l2Form_ok x hsz) ?_
    simp -implicitDefEqProofs (disch := omega) only [go_sem] <;> (repeat (with_reducible refine And.intro ?_ ?_; focus first | omega | rfl | assumption | exact ⟨_, rfl, rfl⟩ | (simp; omega) | (simp; done)))
    with_reducible refine split2 (fun hb => ?_) (fun hb => ?_) <;> have h := hb <;> (try simp only [wf_preprocess] at h) <;> simp -implicitDefEqProofs (disch := omega) only [go_sem, hb] <;> (repeat (with_reducible refine And.intro ?_ ?_; focus first | omega | rfl | assumption | exact ⟨_, rfl, rfl⟩ | (simp; omega) | (simp; done)))
    · have hf := h
      refine call_w (specDepthX_ok x hsz) ?_
      simp -implicitDefEqProofs (disch := omega) only [go_sem] <;> (repeat (with_reducible refine And.intro ?_ ?_; focus first | omega | rfl | assumption | exact ⟨_, rfl, rfl⟩ | (simp; omega) | (simp; done)))
      refine bool_eq ?_
      unfold validX
      rw [hf, Bool.true_and]
      exact decide_eq_decide.2 (by omega)
    · refine bool_eq ?_
      unfold validX
      rw [h, Bool.false_and]
  · have h1 := sub1_neg (l := 900) (a := nodeX x) (by omega)
    refine bool_eq ?_
    unfold validX
    rw [decide_eq_false (by omega), Bool.and_false]
end Go.Proofs.YtlmhknhlmicmeaaGreat

namespace Go.Ab
def lx (l : List MSExpr) (n : Nat) : List (List D) := labRs (l.map MSExpr.enc) n
def cntX (x : MSExpr) : Nat := cntR x.enc
def cntXs (l : List MSExpr) : Nat := cntRs (l.map MSExpr.enc)
theorem labX_eq (x : MSExpr) (n : Nat) : labR x.enc n = [.s x.fAtom, .ol n (lx x.fList (n + 1))] := by
  rw [MSExpr.enc_eq]; simp only [labR, labD, cntD, Nat.add_zero, lx]
theorem labX_atom (s : List UInt8) (n : Nat) : labR (atomX s).enc n = [.s s, .ol n []] := by rw [labX_eq]; rfl
theorem cntX_eq (x : MSExpr) : cntX x = cntXs x.fList + 1 := by
  unfold cntX cntXs
  rw [MSExpr.enc_eq]; simp only [cntR, cntD]; omega
theorem cntX_atom (s : List UInt8) : cntX (atomX s) = 1 := by rw [cntX_eq]; rfl
theorem lx_nil (n : Nat) : lx [] n = [] := rfl
theorem lx_cons (x : MSExpr) (l : List MSExpr) (n : Nat) : lx (x :: l) n = labR x.enc n :: lx l (n + cntX x) := rfl
theorem lx_append (a b : List MSExpr) (n : Nat) : lx (a ++ b) n = lx a n ++ lx b (n + cntXs a) := by unfold lx cntXs; rw [List.map_append, labRs_append]
theorem lx_length (l : List MSExpr) (n : Nat) : (lx l n).length = l.length := by unfold lx; rw [labRs_length, List.length_map]
theorem lx_rows {l : List MSExpr} {n : Nat} : ∀ r ∈ lx l n, r.length = 2 := labRs_rows fun r hr => by
  obtain ⟨z, _, rfl⟩ := List.mem_map.1 hr
  exact z.enc_length
theorem lx_snoc {l : List MSExpr} {i : Nat} (hi : i < l.length) (n : Nat) : lx (l.take i) n ++ [labR l[i].enc (n + cntXs (l.take i))] = lx (l.take (i + 1)) n := by
  rw [List.take_succ_eq_append_getElem hi, lx_append]; rfl
theorem lx_snoc' {l : List MSExpr} {i : Nat} (hi : i < l.length) (n : Nat) : lx (l.take i) n ++ [[.s l[i].fAtom, .ol (n + cntXs (l.take i)) (lx l[i].fList (n + cntXs (l.take i) + 1))]] = lx (l.take (i + 1)) n := by
  rw [← lx_snoc hi, labX_eq]
theorem lx_snocB {base l : List MSExpr} {i : Nat} (hi : i < l.length) (q : Nat) : lx (base ++ l.take i) q ++ [[.s l[i].fAtom, .ol (q + cntXs (base ++ l.take i)) (lx l[i].fList (q + cntXs (base ++ l.take i) + 1))]] = lx (base ++ l.take (i + 1)) q := by
  rw [List.take_succ_eq_append_getElem hi, ← List.append_assoc, lx_append (base ++ l.take i), lx_cons, lx_nil, labX_eq]
theorem enc_rows {l : List MSExpr} : ∀ r ∈ l.map MSExpr.enc, r.length = 2 := fun r hr => by
  obtain ⟨z, _, rfl⟩ := List.mem_map.1 hr
  exact z.enc_length
theorem cells_less' {cs cs' : List C} (hl : cs'.length = cs.length) (h : ∀ (j : Nat) (x y : C), cs[j]? = some x → cs'[j]? = some y → ∀ w σ S β v, RepC w σ S β x v → RepC w σ S β y v) : Less (.agg cs) (.agg cs') := by
  rintro w σ S β v ⟨a, ha, hc⟩
  refine ⟨a, ha, hl.trans hc.1, fun j y hy => ?_⟩
  have hj : j < cs.length := by rw [← hl]; exact (List.getElem?_eq_some_iff.1 hy).1
  obtain ⟨v, h1, h2, h3⟩ := hc.2 j _ (List.getElem?_eq_getElem hj)
  exact ⟨v, h1, h j _ y (List.getElem?_eq_getElem hj) hy w σ S β v h2, h3⟩
theorem fsl_ol {w : World} {σ : Nat → Nat} {S : Store} {β : Hs} {v : Value} (n : Nat) (h : RepC w σ S β (.fsl []) v) : RepC w σ S β (.d (.ol n [])) v := by
  obtain ⟨hd, ad, m, hval⟩ := h
  have hm : m = 0 := by rw [hval] at hd; cases hd <;> rfl
  subst hm
  rw [hval]
  exact .onil _ _ _
theorem less_x0 (s : List UInt8) (n : Nat) : Less (.agg [.d (.s s), .fsl []]) (.agg [.d (.s s), .d (.ol n [])]) := cells_less' rfl fun j x y hx hy w σ S β v hv => by
  match j, hx, hy with
  | 0, hx, hy => cases hx; cases hy; exact hv
  | 1, hx, hy => cases hx; cases hy; exact fsl_ol _ hv
  | j + 2, hx, hy => simp at hx
theorem less_xl (s : List UInt8) (n : Nat) (es : List (List D)) : Less (.agg [.d (.s s), .lfl n es]) (.agg [.d (.s s), .d (.ol n es)]) := cells_less' rfl fun j x y hx hy w σ S β v hv => by
  match j, hx, hy with
  | 0, hx, hy => cases hx; cases hy; exact hv
  | 1, hx, hy => cases hx; cases hy; exact hv.1
  | j + 2, hx, hy => simp at hx
end Go.Ab
namespace Go.Proofs.YtlmhknhlmicmeaaGreat
open Go Go.Ab
theorem implAtom_ok (s : List UInt8) : PCall Tryz.prog 97 [.c (.d (.s s))] (.agg [.d (.s s), .fsl []]) := fun S => by
  refine acall_cw (rs := [.cell 2 46]) Tryz.checked.mixed Tryz.func97 Tryz.ntmps97 rfl rfl rfl rfl rfl ?_
  simp -implicitDefEqProofs (disch := omega) only [go_sem]
theorem implAtom_lab (s : List UInt8) (n : Nat) : PCall Tryz.prog 97 [.c (.d (.s s))] (.agg [.d (.s s), .d (.ol n [])]) := PCall.less (implAtom_ok s) (less_x0 s n)
theorem implList_d (d : D) : PCall Tryz.prog 99 [.c (.d d)] (.agg [.d (.s []), .d d]) := fun S => by
  refine acall_cw (rs := [.cell 2 46]) Tryz.checked.mixed Tryz.func99 Tryz.ntmps99 rfl rfl rfl rfl rfl ?_
  simp -implicitDefEqProofs (disch := omega) only [go_sem]
theorem implList_l0 (n : Nat) (es : List (List D)) : PCall Tryz.prog 99 [.c (.lfl n es)] (.agg [.d (.s []), .lfl n es]) := fun S => by
  refine acall_cw (rs := [.cell 2 46]) Tryz.checked.mixed Tryz.func99 Tryz.ntmps99 rfl rfl rfl rfl rfl ?_
  simp -implicitDefEqProofs (disch := omega) only [go_sem]
theorem implList_l (n : Nat) (es : List (List D)) : PCall Tryz.prog 99 [.c (.lfl n es)] (.agg [.d (.s []), .d (.ol n es)]) := PCall.less (implList_l0 n es) (less_xl [] n es)
theorem implList_t (l j : Nat) (es : List (List D)) (S : Store) : ACall Tryz.prog 99 [.c (.tsl (l, j) es)] S (fun r S' => r = .agg [.d (.s []), .tsl (l, j) es] ∧ S' = S) := by
  refine acall_cw (rs := [.cell 2 46]) Tryz.checked.mixed Tryz.func99 Tryz.ntmps99 rfl rfl rfl rfl rfl ?_
  simp -implicitDefEqProofs (disch := omega) only [go_sem]
theorem implAtoms_lab (xs : List (List UInt8)) (hx : xs.length ≤ 1073741824) (n q : Nat) : PCall Tryz.prog 145 [.c (.d (.sl (xs.map encS)))] (.c (.d (.ol n (lx (wordsX xs) q)))) := fun S => by
  refine acall_cwL (n) (rs := [.tmp 2]) Tryz.checked.mixed Tryz.func145 Tryz.ntmps145 rfl rfl rfl rfl rfl ?_
  simp -implicitDefEqProofs (disch := omega) only [go_sem]
  (repeat (with_reducible refine And.intro ?_ ?_; focus first | omega | rfl | assumption | exact ⟨_, rfl, rfl⟩ | (simp; omega) | (simp; done)))
  refine aw_ltok n 3 2 [] (.inl rfl) (by simp) ?_
  refine loop_at (ι := Nat) Tryz.checked.mixed rfl [3, 7, 8, 9] (fun i => [.c (.tsl (0, 1) (lx ((wordsX xs).take i) q)), .c (.d (.sl (xs.map encS))), .c (.d (.i .i64 xs.length)), .c (.d (.i .i64 i))]) (fun i => [.seed n, .ltok n 2 (lx ((wordsX xs).take i) q)] :: S)
    (fun i => i ≤ xs.length) (fun i => xs.length - i) 0 rfl rfl (Nat.zero_le _) ?_
  intro i hi
  simp -implicitDefEqProofs (disch := omega) only [go_sem]
  with_reducible refine split2 (fun hb => ?_) (fun hb => ?_) <;> have h := hb <;> (try simp only [wf_preprocess] at h) <;> simp -implicitDefEqProofs (disch := omega) only [go_sem, hb] <;> (repeat (with_reducible refine And.intro ?_ ?_; focus first | omega | rfl | assumption | exact ⟨_, rfl, rfl⟩ | (simp; omega) | (simp; done)))
  · have hi' : i < xs.length := by omega
    have hw : i < (wordsX xs).length := by rw [words_len]; exact hi'
    have hg : (wordsX xs)[i] = atomX xs[i] := by simp [wordsX]
    have hl : (lx ((wordsX xs).take i) q).length ≤ i := by rw [lx_length]; exact List.length_take_le _ _
    (repeat (with_reducible refine And.intro ?_ ?_; focus first | omega | rfl | assumption | exact ⟨_, rfl, rfl⟩ | (simp; omega) | (simp; done)))
    refine call_w (implAtom_lab xs[i] (q + cntXs ((wordsX xs).take i))) ?_
    simp -implicitDefEqProofs (disch := omega) only [go_sem]
    (repeat (with_reducible refine And.intro ?_ ?_; focus first | omega | rfl | assumption | exact ⟨_, rfl, rfl⟩ | (simp; omega) | (simp; done)))
    have hs := lx_snoc hw q
    rw [hg, labX_atom] at hs
    rw [hs]
    exact inv_at (i + 1) (by omega) rfl rfl (by omega)
  · have hi' : i = (wordsX xs).length := by rw [words_len]; omega
    rw [hi', List.take_length]
theorem implNameList_lab (xs : List (List UInt8)) (hx : xs.length ≤ 1073741824) (n : Nat) : PCall Tryz.prog 98 [.c (.d (.sl (xs.map encS)))] (.agg [.d (.s []), .d (.ol n (lx (wordsX xs) (n + 1)))]) := fun S => by
  refine acall_cw (rs := [.cell 2 46]) Tryz.checked.mixed Tryz.func98 Tryz.ntmps98 rfl rfl rfl rfl rfl ?_
  simp -implicitDefEqProofs (disch := omega) only [go_sem]
  refine call_w (implAtoms_lab xs hx n (n + 1)) ?_
  simp -implicitDefEqProofs (disch := omega) only [go_sem]
  refine call_w (implList_d _) ?_
  simp -implicitDefEqProofs (disch := omega) only [go_sem]
theorem implTy_all : ∀ N : Nat, (∀ x : MType, SizeOf.sizeOf x < N → ∀ n : Nat, formed x = true → x.sz ≤ 4194304 → PCall Tryz.prog 146 [x.v] (.agg [.d (.s (sxT x).fAtom), .d (.ol n (lx (sxT x).fList (n + 1)))])) ∧
    (∀ xs : List MType, SizeOf.sizeOf xs < N → ∀ n q : Nat, formeds xs = true → xs.length ≤ 4194304 → (∀ t ∈ xs, t.sz ≤ 4194304) → PCall Tryz.prog 100 [.c (.d (.sl (xs.map MType.enc)))] (.c (.d (.ol n (lx (xs.map sxT) q)))))
  | 0 => ⟨fun x h => by omega, fun x h => by omega⟩
  | N + 1 => by
    obtain ⟨ih, ihS⟩ := implTy_all N
    refine ⟨fun x hn n hf hsz => ?_, fun xs hn n q hf hlen hsz => ?_⟩
    · have lArgs := MType.lt_Args x
      have hts := ty_sz hsz
      have hx := sxT_eq x
      rw [formed_eq, Bool.and_eq_true] at hf
      have hfi := of_dec hf.1
      have hall : ∀ t ∈ x.fArgs, t.sz ≤ 4194304 := fun t ht => by
        obtain ⟨i, hi, e⟩ := List.getElem_of_mem ht
        rw [← e]; exact (arg_sz hi hsz).1
      intro S
      refine acall_cwLs (n) 1 (rs := [.cell 2 46]) Tryz.checked.mixed Tryz.func146 Tryz.ntmps146 rfl rfl rfl rfl rfl ?_
      simp -implicitDefEqProofs (disch := omega) only [go_sem]
      with_reducible refine split2 (fun hb => ?_) (fun hb => ?_) <;> have h := hb <;> (try simp only [wf_preprocess] at h) <;> simp -implicitDefEqProofs (disch := omega) only [go_sem, hb] <;> (repeat (with_reducible refine And.intro ?_ ?_; focus first | omega | rfl | assumption | exact ⟨_, rfl, rfl⟩ | (simp; omega) | (simp; done)))
      · rw [if_pos h] at hx
        rw [hx]
        (repeat (with_reducible refine And.intro ?_ ?_; focus first | omega | rfl | assumption | exact ⟨_, rfl, rfl⟩ | (simp; omega) | (simp; done)))
        refine call_w (implAtom_lab _ n) ?_
        simp -implicitDefEqProofs (disch := omega) only [go_sem]
        rfl
      have k1 := h
      rw [if_neg h] at hx
      with_reducible refine split2 (fun hb => ?_) (fun hb => ?_) <;> have h := hb <;> (try simp only [wf_preprocess] at h) <;> simp -implicitDefEqProofs (disch := omega) only [go_sem, hb] <;> (repeat (with_reducible refine And.intro ?_ ?_; focus first | omega | rfl | assumption | exact ⟨_, rfl, rfl⟩ | (simp; omega) | (simp; done)))
      · rw [if_pos h] at hx
        rw [hx]
        refine call_w (implAtom_lab _ (n + 1)) ?_
        simp -implicitDefEqProofs (disch := omega) only [go_sem]
        refine call_w (implAtom_lab _ (n + 1 + 1)) ?_
        simp -implicitDefEqProofs (disch := omega) only [go_sem]
        refine call_w (implList_l _ _) ?_
        simp -implicitDefEqProofs (disch := omega) only [go_sem]
        rfl
      have k4 := h
      rw [if_neg h] at hx
      with_reducible refine split2 (fun hb => ?_) (fun hb => ?_) <;> have h := hb <;> (try simp only [wf_preprocess] at h) <;> simp -implicitDefEqProofs (disch := omega) only [go_sem, hb] <;> (repeat (with_reducible refine And.intro ?_ ?_; focus first | omega | rfl | assumption | exact ⟨_, rfl, rfl⟩ | (simp; omega) | (simp; done)))
      · have hlen : x.fArgs.length = 1 := by omega
        obtain ⟨a, ha⟩ := List.length_eq_one_iff.1 hlen
        have ha0 : x.fArgs[0]'(by omega) = a := by simp [ha]
        rw [if_neg (by omega), if_pos h, ha] at hx
        have hfa : formed a = true := formeds_iff.1 hf.2 a (by rw [ha]; simp)
        have hsa : a.sz ≤ 4194304 := hall a (by rw [ha]; simp)
        have hla : SizeOf.sizeOf a < N := by
          have := List.sizeOf_lt_of_mem (show a ∈ x.fArgs by rw [ha]; simp)
          omega
        rw [hx]
        refine call_w (implAtom_lab _ (n + 1)) ?_
        simp -implicitDefEqProofs (disch := omega) only [go_sem]
        refine call_w (implAtom_lab _ (n + 1 + 1)) ?_
        simp -implicitDefEqProofs (disch := omega) only [go_sem, ha, List.getD_cons_zero]
        (repeat (with_reducible refine And.intro ?_ ?_; focus first | omega | rfl | assumption | exact ⟨_, rfl, rfl⟩ | (simp; omega) | (simp; done)))
        refine call_w (ih a hla (n + 1 + 1 + 1) hfa hsa) ?_
        simp -implicitDefEqProofs (disch := omega) only [go_sem]
        refine call_w (implList_l _ _) ?_
        simp -implicitDefEqProofs (disch := omega) only [go_sem]
        simp only [fAtom_list, fList_list, List.cons_append, List.nil_append, List.map_cons, List.map_nil, lx_cons, lx_nil, labX_atom, cntX_atom, labX_eq, fAtom_atom, fList_atom, wAssoc]
      have k3 := h
      with_reducible refine split2 (fun hb => ?_) (fun hb => ?_) <;> have h := hb <;> (try simp only [wf_preprocess] at h) <;> simp -implicitDefEqProofs (disch := omega) only [go_sem, hb] <;> (repeat (with_reducible refine And.intro ?_ ?_; focus first | omega | rfl | assumption | exact ⟨_, rfl, rfl⟩ | (simp; omega) | (simp; done)))
      · rw [if_pos ⟨by omega, by omega⟩] at hx
        rw [hx]
        refine call_w (implAtom_lab _ n) ?_
        simp -implicitDefEqProofs (disch := omega) only [go_sem]
        rfl
      rw [if_neg (by omega), if_neg k3] at hx
      rw [hx]
      refine call_w (implAtom_lab _ (n + 1)) ?_
      simp -implicitDefEqProofs (disch := omega) only [go_sem]
      refine call_w (ihS x.fArgs (by omega) 0 (n + 1 + 1) hf.2 hts.1 hall) ?_
      simp -implicitDefEqProofs (disch := omega) only [go_sem]
      have hl : (lx (x.fArgs.map sxT) (n + 1 + 1)).length = x.fArgs.length := by rw [lx_length, List.length_map]
      have hr := lx_rows (l := x.fArgs.map sxT) (n := n + 1 + 1)
      (repeat (with_reducible refine And.intro ?_ ?_; focus first | omega | rfl | assumption | exact ⟨_, rfl, rfl⟩ | (simp; omega) | (simp; done)))
      refine call_w (implList_d _) ?_
      simp -implicitDefEqProofs (disch := omega) only [go_sem]
      simp only [fAtom_list, fList_list, List.cons_append, List.nil_append, lx_cons, lx_nil, labX_atom, cntX_atom]
    · have hsnoc := fun (i : Nat) (hi : i < xs.length) => lx_snoc' (l := xs.map sxT) (i := i) (by rw [List.length_map]; exact hi) q
      intro S
      refine acall_cwL (n) (rs := [.tmp 2]) Tryz.checked.mixed Tryz.func100 Tryz.ntmps100 rfl rfl rfl rfl rfl ?_
      simp -implicitDefEqProofs (disch := omega) only [go_sem]
      (repeat (with_reducible refine And.intro ?_ ?_; focus first | omega | rfl | assumption | exact ⟨_, rfl, rfl⟩ | (simp; omega) | (simp; done)))
      refine aw_ltok n 3 2 [] (.inl rfl) (by simp) ?_
      refine loop_at (ι := Nat) Tryz.checked.mixed rfl [3, 7, 8, 9] (fun i => [.c (.tsl (0, 1) (lx ((xs.map sxT).take i) q)), .c (.d (.sl (xs.map MType.enc))), .c (.d (.i .i64 xs.length)), .c (.d (.i .i64 i))]) (fun i => [.seed n, .ltok n 2 (lx ((xs.map sxT).take i) q)] :: S)
        (fun i => i ≤ xs.length) (fun i => xs.length - i) 0 rfl rfl (Nat.zero_le _) ?_
      intro i hi
      simp -implicitDefEqProofs (disch := omega) only [go_sem]
      with_reducible refine split2 (fun hb => ?_) (fun hb => ?_) <;> have h := hb <;> (try simp only [wf_preprocess] at h) <;> simp -implicitDefEqProofs (disch := omega) only [go_sem, hb] <;> (repeat (with_reducible refine And.intro ?_ ?_; focus first | omega | rfl | assumption | exact ⟨_, rfl, rfl⟩ | (simp; omega) | (simp; done)))
      · have hi' : i < xs.length := by omega
        have hs := hsnoc i hi'
        rw [List.getElem_map] at hs
        have hl : (lx ((xs.map sxT).take i) q).length ≤ i := by rw [lx_length]; exact List.length_take_le _ _
        (repeat (with_reducible refine And.intro ?_ ?_; focus first | omega | rfl | assumption | exact ⟨_, rfl, rfl⟩ | (simp; omega) | (simp; done)))
        refine call_w (ih xs[i] (by have := List.sizeOf_lt_of_mem (List.getElem_mem hi'); omega) (q + cntXs ((xs.map sxT).take i)) (formeds_iff.1 hf _ (List.getElem_mem hi')) (hsz _ (List.getElem_mem hi'))) ?_
        simp -implicitDefEqProofs (disch := omega) only [go_sem]
        (repeat (with_reducible refine And.intro ?_ ?_; focus first | omega | rfl | assumption | exact ⟨_, rfl, rfl⟩ | (simp; omega) | (simp; done)))
        rw [hs]
        exact inv_drop 2 (by decide) (i + 1) (by omega) rfl rfl rfl rfl (by omega)
      · have hi' : i = (xs.map sxT).length := by rw [List.length_map]; omega
        rw [hi', List.take_length]
theorem implTys_lab (xs : List MType) (n q : Nat) (hf : formeds xs = true) (hlen : xs.length ≤ 4194304) (hsz : ∀ t ∈ xs, t.sz ≤ 4194304) : PCall Tryz.prog 100 [.c (.d (.sl (xs.map MType.enc)))] (.c (.d (.ol n (lx (xs.map sxT) q)))) := (implTy_all _).2 xs (Nat.lt_succ_self _) n q hf hlen hsz
end Go.Proofs.YtlmhknhlmicmeaaGreat

namespace Go.Ab
theorem enc_atom (s : List UInt8) : (atomX s).enc = [.s s, .sl []] := by rw [MSExpr.enc_eq]; rfl
theorem enc_list (l : List MSExpr) : (listX l).enc = [.s [], .sl (l.map MSExpr.enc)] := by rw [MSExpr.enc_eq]; rfl
theorem encX_snoc {base l : List MSExpr} {i : Nat} (hi : i < l.length) : (base ++ l.take i).map MSExpr.enc ++ [[.s l[i].fAtom, .sl (l[i].fList.map MSExpr.enc)]] = (base ++ l.take (i + 1)).map MSExpr.enc := by
  rw [List.take_succ_eq_append_getElem hi, ← List.append_assoc, List.map_append (l₂ := [l[i]]), List.map_cons, List.map_nil, MSExpr.enc_eq]
theorem less_xf (s : List UInt8) (es : List (List D)) : Less (.agg [.d (.s s), .fsl es]) (.agg [.d (.s s), .d (.sl es)]) := cells_less' rfl fun j x y hx hy w σ S β v hv => by
  match j, hx, hy with
  | 0, hx, hy => cases hx; cases hy; exact hv
  | 1, hx, hy => cases hx; cases hy; exact hv.1
  | j + 2, hx, hy => simp at hx
theorem less_lx (x : MSExpr) (n : Nat) : Less (.agg [.d (.s x.fAtom), .d (.ol n (lx x.fList (n + 1)))]) x.v := by
  have h := less_lab (r := x.enc) (n := n)
  rw [labX_eq, MSExpr.v_eq] at h
  exact h
end Go.Ab
namespace Go.Proofs.YtlmhknhlmicmeaaGreat
open Go Go.Ab
theorem specAtom0_ok (s : List UInt8) : PCall Tryz.prog 87 [.c (.d (.s s))] (.agg [.d (.s s), .fsl []]) := fun S => by
  refine acall_cw (rs := [.cell 2 46]) Tryz.checked.mixed Tryz.func87 Tryz.ntmps87 rfl rfl rfl rfl rfl ?_
  simp -implicitDefEqProofs (disch := omega) only [go_sem]
theorem specAtom_ok (s : List UInt8) : PCall Tryz.prog 87 [.c (.d (.s s))] (.agg [.d (.s s), .d (.sl [])]) := PCall.less (specAtom0_ok s) (less_xf s [])
theorem specList_ok (es : List (List D)) (hes : ∀ e ∈ es, e.length = 2) (hl : es.length ≤ 1073741824) : PCall Tryz.prog 86 [.c (.d (.sl es))] (.agg [.d (.s []), .d (.sl es)]) := fun S => by
  refine acall_cw (rs := [.cell 2 46]) Tryz.checked.mixed Tryz.func86 Tryz.ntmps86 rfl rfl rfl rfl rfl ?_
  simp -implicitDefEqProofs (disch := omega) only [go_sem]
  exact ⟨hes, ⟨_, rfl, rfl⟩, (fun y hy => by cases hy), hl⟩
theorem specList_esc (es : List (List D)) (hes : ∀ e ∈ es, e.length = 2) (hl : es.length ≤ 1073741824) (own0 : List Ab.Obj) (Ω : Store) : ACall Tryz.prog 86 [.c (.d (.sl es))] (own0 :: Ω)
    (fun r S' => r = .agg [.d (.s []), .tsl (0, own0.length + 1) es] ∧ S' = (own0 ++ [.box [.d (.s []), .tsl (0, own0.length + 1) es], .tok 2 es]) :: Ω) := by
  refine acall_cwe (rs := [.cell 2 46]) Tryz.checked.mixed Tryz.func86 Tryz.ntmps86 rfl rfl rfl rfl rfl ?_
  simp -implicitDefEqProofs (disch := omega) only [go_sem]
  exact ⟨hes, ⟨_, rfl, rfl⟩, (fun y hy => by cases hy), hl⟩
theorem specWords_ok (xs : List (List UInt8)) (hx : xs.length ≤ 1073741824) : PCall Tryz.prog 134 [.c (.d (.sl (xs.map encS)))] (.c (.d (.sl ((wordsX xs).map MSExpr.enc)))) := fun S => by
  refine acall_cw (rs := [.tmp 2]) Tryz.checked.mixed Tryz.func134 Tryz.ntmps134 rfl rfl rfl rfl rfl ?_
  simp -implicitDefEqProofs (disch := omega) only [go_sem]
  (repeat (with_reducible refine And.intro ?_ ?_; focus first | omega | rfl | assumption | exact ⟨_, rfl, rfl⟩ | (simp; omega) | (simp; done)))
  refine aw_tok 3 2 [] rfl (by simp) ?_
  refine loop_at (ι := Nat) Tryz.checked.mixed rfl [0, 3, 4] (fun i => [.c (.d (.sl (xs.map encS))), .c (.tsl (0, 0) (((wordsX xs).take i).map MSExpr.enc)), .c (.d (.i .i64 i))]) (fun i => [.tok 2 (((wordsX xs).take i).map MSExpr.enc)] :: S)
    (fun i => i ≤ xs.length) (fun i => xs.length - i) 0 rfl rfl (Nat.zero_le _) ?_
  intro i hi
  have hl : (((wordsX xs).take i).map MSExpr.enc).length ≤ i := by rw [List.length_map]; exact List.length_take_le _ _
  simp -implicitDefEqProofs (disch := omega) only [go_sem]
  with_reducible refine split2 (fun hb => ?_) (fun hb => ?_) <;> have h := hb <;> (try simp only [wf_preprocess] at h) <;> simp -implicitDefEqProofs (disch := omega) only [go_sem, hb] <;> (repeat (with_reducible refine And.intro ?_ ?_; focus first | omega | rfl | assumption | exact ⟨_, rfl, rfl⟩ | (simp; omega) | (simp; done)))
  · have hi' : i < xs.length := by omega
    have hs := encX_snoc (base := []) (l := wordsX xs) (i := i) (by rw [words_len]; exact hi')
    have hg : (wordsX xs)[i]'(by rw [words_len]; exact hi') = atomX xs[i] := by simp [wordsX]
    rw [hg] at hs
    simp only [List.nil_append, fAtom_atom, fList_atom, List.map_nil] at hs
    (repeat (with_reducible refine And.intro ?_ ?_; focus first | omega | rfl | assumption | exact ⟨_, rfl, rfl⟩ | (simp; omega) | (simp; done)))
    refine call_w (specAtom_ok xs[i]) ?_
    simp -implicitDefEqProofs (disch := omega) only [go_sem]
    (repeat (with_reducible refine And.intro ?_ ?_; focus first | omega | rfl | assumption | exact ⟨_, rfl, rfl⟩ | (simp; omega) | (simp; done)))
    rw [hs]
    exact inv_at (i + 1) (by omega) rfl rfl (by omega)
  · have hi' : i = (wordsX xs).length := by rw [words_len]; omega
    rw [hi', List.take_length]
theorem specNameList_ok (xs : List (List UInt8)) (hx : xs.length ≤ 1073741824) : PCall Tryz.prog 88 [.c (.d (.sl (xs.map encS)))] (.agg [.d (.s []), .d (.sl ((wordsX xs).map MSExpr.enc))]) := fun S => by
  refine acall_cw (rs := [.cell 2 46]) Tryz.checked.mixed Tryz.func88 Tryz.ntmps88 rfl rfl rfl rfl rfl ?_
  simp -implicitDefEqProofs (disch := omega) only [go_sem]
  refine call_w (specWords_ok xs hx) ?_
  simp -implicitDefEqProofs (disch := omega) only [go_sem]
theorem specTy_all : ∀ N : Nat, (∀ x : MType, SizeOf.sizeOf x < N → x.sz ≤ 4194304 → PCall Tryz.prog 135 [x.v] (.agg [.d (.s (sxT x).fAtom), .d (.sl ((sxT x).fList.map MSExpr.enc))]))
  | 0 => fun x h => by omega
  | N + 1 => by
    have ih := specTy_all N
    intro x hn hsz
    have lArgs := MType.lt_Args x
    have hts := ty_sz hsz
    have hx := sxT_eq x
    have hall : ∀ t ∈ x.fArgs, t.sz ≤ 4194304 := fun t ht => by
      obtain ⟨i, hi, e⟩ := List.getElem_of_mem ht
      rw [← e]; exact (arg_sz hi hsz).1
    intro S
    refine acall_cw (rs := [.cell 2 46]) Tryz.checked.mixed Tryz.func135 Tryz.ntmps135 rfl rfl rfl rfl rfl ?_
    simp -implicitDefEqProofs (disch := omega) only [go_sem]
    with_reducible refine split2 (fun hb => ?_) (fun hb => ?_) <;> have h := hb <;> (try simp only [wf_preprocess] at h) <;> simp -implicitDefEqProofs (disch := omega) only [go_sem, hb] <;> (repeat (with_reducible refine And.intro ?_ ?_; focus first | omega | rfl | assumption | exact ⟨_, rfl, rfl⟩ | (simp; omega) | (simp; done)))
    · rw [if_pos h] at hx
      rw [hx]
      (repeat (with_reducible refine And.intro ?_ ?_; focus first | omega | rfl | assumption | exact ⟨_, rfl, rfl⟩ | (simp; omega) | (simp; done)))
      refine call_w (specAtom_ok _) ?_
      simp -implicitDefEqProofs (disch := omega) only [go_sem]
      rfl
    rw [if_neg h] at hx
    with_reducible refine split2 (fun hb => ?_) (fun hb => ?_) <;> have h := hb <;> (try simp only [wf_preprocess] at h) <;> simp -implicitDefEqProofs (disch := omega) only [go_sem, hb] <;> (repeat (with_reducible refine And.intro ?_ ?_; focus first | omega | rfl | assumption | exact ⟨_, rfl, rfl⟩ | (simp; omega) | (simp; done)))
    · rw [if_pos h] at hx
      rw [hx]
      refine call_w (specAtom_ok _) ?_
      simp -implicitDefEqProofs (disch := omega) only [go_sem]
      refine call_w (specAtom_ok _) ?_
      simp -implicitDefEqProofs (disch := omega) only [go_sem]
      refine call_w (specList_ok _ (by simp) (by simp)) ?_
      simp -implicitDefEqProofs (disch := omega) only [go_sem]
      simp only [fAtom_list, fList_list, List.map_cons, List.map_nil, enc_atom, wDyn]
    rw [if_neg h] at hx
    have fin1 : x.fKind = 2 → x.fArgs.length = 0 → sxT x = atomX x.fName := fun a b => by rw [hx, if_pos ⟨a, b⟩]
    have fin2 : ¬ (x.fKind = 2 ∧ x.fArgs.length = 0) → sxT x = listX ((if x.fKind = 3 then [atomX wAssoc] else []) ++ [atomX x.fName] ++ x.fArgs.map sxT) := fun a => by rw [hx, if_neg a]
    clear hx
    repeat' (first | (with_reducible refine split2 (fun hb => ?_) (fun hb => ?_) <;> have h := hb <;> (try simp only [wf_preprocess] at h) <;> simp -implicitDefEqProofs (disch := omega) only [go_sem, hb] <;> (repeat (with_reducible refine And.intro ?_ ?_; focus first | omega | rfl | assumption | exact ⟨_, rfl, rfl⟩ | (simp; omega) | (simp; done)))))
    · rw [fin1 (by omega) (by omega)]
      refine call_w (specAtom_ok _) ?_
      simp -implicitDefEqProofs (disch := omega) only [go_sem]
      rfl
    · exfalso; omega
    · have hx := fin2 (by omega)
      rw [if_neg h, List.nil_append] at hx
      refine call_w (specAtom_ok _) ?_
      simp -implicitDefEqProofs (disch := omega) only [go_sem]
      (repeat (with_reducible refine And.intro ?_ ?_; focus first | omega | rfl | assumption | exact ⟨_, rfl, rfl⟩ | (simp; omega) | (simp; done)))
      refine loop_at (ι := Nat) Tryz.checked.mixed rfl [1, 2, 3, 4] (fun i => [.c (.ptr (0, 0) 0), .c (.ptr (0, 1) 0), .c (.ptr (0, 2) 0), .c (.d (.i .i64 i))])
        (fun i => [.box [.d (.i .i64 x.fKind), .d (.s x.fName), .d (.sl (x.fArgs.map MType.enc))], .box [.d (.s []), .fsl []], .box [.d (.s []), .tsl (0, 3) (([atomX x.fName] ++ (x.fArgs.map sxT).take i).map MSExpr.enc)], .tok 2 (([atomX x.fName] ++ (x.fArgs.map sxT).take i).map MSExpr.enc)] :: S)
        (fun i => i ≤ x.fArgs.length) (fun i => x.fArgs.length - i) 0 rfl ?_ (Nat.zero_le _) ?_
      · simp only [List.take_zero, List.append_nil, List.map_cons, List.map_nil, List.cons_append, List.nil_append, enc_atom] <;> (try rfl)
      intro i hi
      have hl : (([atomX x.fName] ++ (x.fArgs.map sxT).take i).map MSExpr.enc).length ≤ i + 2 := by
        rw [List.length_map, List.length_append]
        have := List.length_take_le i (x.fArgs.map sxT)
        simp only [List.length_cons, List.length_nil]; omega
      have hs := fun hi => encX_snoc (base := [atomX x.fName]) (l := x.fArgs.map sxT) (i := i) hi
      have hrw := enc_rows (l := [atomX x.fName] ++ (x.fArgs.map sxT).take i)
      generalize hR : ([atomX x.fName] ++ (x.fArgs.map sxT).take i).map MSExpr.enc = R at hl hs hrw
      simp -implicitDefEqProofs (disch := omega) only [go_sem]
      with_reducible refine split2 (fun hb => ?_) (fun hb => ?_) <;> have h := hb <;> (try simp only [wf_preprocess] at h) <;> simp -implicitDefEqProofs (disch := omega) only [go_sem, hb] <;> (repeat (with_reducible refine And.intro ?_ ?_; focus first | omega | rfl | assumption | exact ⟨_, rfl, rfl⟩ | (simp; omega) | (simp; done)))
      · have hi' : i < x.fArgs.length := by omega
        have hs' := hs (by rw [List.length_map]; exact hi')
        rw [List.getElem_map] at hs'
        (repeat (with_reducible refine And.intro ?_ ?_; focus first | omega | rfl | assumption | exact ⟨_, rfl, rfl⟩ | (simp; omega) | (simp; done)))
        refine call_w (ih x.fArgs[i] (by have := List.sizeOf_lt_of_mem (List.getElem_mem hi'); omega) (hall _ (List.getElem_mem hi'))) ?_
        simp -implicitDefEqProofs (disch := omega) only [go_sem]
        (repeat (with_reducible refine And.intro ?_ ?_; focus first | omega | rfl | assumption | exact ⟨_, rfl, rfl⟩ | (simp; omega) | (simp; done)))
        rw [hs']
        exact inv_at (i + 1) (by omega) rfl rfl (by omega)
      · have hi' : i = (x.fArgs.map sxT).length := by rw [List.length_map]; omega
        rw [hx, ← hR, hi', List.take_length]
        simp only [fAtom_list, fList_list, List.cons_append, List.nil_append]
    · have hx := fin2 (by omega)
      rw [if_pos h] at hx
      refine call_w (specAtom_ok _) ?_
      simp -implicitDefEqProofs (disch := omega) only [go_sem]
      (repeat (with_reducible refine And.intro ?_ ?_; focus first | omega | rfl | assumption | exact ⟨_, rfl, rfl⟩ | (simp; omega) | (simp; done)))
      refine call_w (specAtom_ok _) ?_
      simp -implicitDefEqProofs (disch := omega) only [go_sem]
      (repeat (with_reducible refine And.intro ?_ ?_; focus first | omega | rfl | assumption | exact ⟨_, rfl, rfl⟩ | (simp; omega) | (simp; done)))
      refine loop_at (ι := Nat) Tryz.checked.mixed rfl [1, 2, 3, 4] (fun i => [.c (.ptr (0, 0) 0), .c (.ptr (0, 1) 0), .c (.ptr (0, 2) 0), .c (.d (.i .i64 i))])
        (fun i => [.box [.d (.i .i64 x.fKind), .d (.s x.fName), .d (.sl (x.fArgs.map MType.enc))], .box [.d (.s []), .fsl []], .box [.d (.s []), .tsl (0, 3) (([atomX wAssoc, atomX x.fName] ++ (x.fArgs.map sxT).take i).map MSExpr.enc)], .tok 2 (([atomX wAssoc, atomX x.fName] ++ (x.fArgs.map sxT).take i).map MSExpr.enc)] :: S)
        (fun i => i ≤ x.fArgs.length) (fun i => x.fArgs.length - i) 0 rfl ?_ (Nat.zero_le _) ?_
      · simp only [List.take_zero, List.append_nil, List.map_cons, List.map_nil, List.cons_append, List.nil_append, enc_atom] <;> (try rfl)
      intro i hi
      have hl : (([atomX wAssoc, atomX x.fName] ++ (x.fArgs.map sxT).take i).map MSExpr.enc).length ≤ i + 2 := by
        rw [List.length_map, List.length_append]
        have := List.length_take_le i (x.fArgs.map sxT)
        simp only [List.length_cons, List.length_nil]; omega
      have hs := fun hi => encX_snoc (base := [atomX wAssoc, atomX x.fName]) (l := x.fArgs.map sxT) (i := i) hi
      have hrw := enc_rows (l := [atomX wAssoc, atomX x.fName] ++ (x.fArgs.map sxT).take i)
      generalize hR : ([atomX wAssoc, atomX x.fName] ++ (x.fArgs.map sxT).take i).map MSExpr.enc = R at hl hs hrw
      simp -implicitDefEqProofs (disch := omega) only [go_sem]
      with_reducible refine split2 (fun hb => ?_) (fun hb => ?_) <;> have h := hb <;> (try simp only [wf_preprocess] at h) <;> simp -implicitDefEqProofs (disch := omega) only [go_sem, hb] <;> (repeat (with_reducible refine And.intro ?_ ?_; focus first | omega | rfl | assumption | exact ⟨_, rfl, rfl⟩ | (simp; omega) | (simp; done)))
      · have hi' : i < x.fArgs.length := by omega
        have hs' := hs (by rw [List.length_map]; exact hi')
        rw [List.getElem_map] at hs'
        (repeat (with_reducible refine And.intro ?_ ?_; focus first | omega | rfl | assumption | exact ⟨_, rfl, rfl⟩ | (simp; omega) | (simp; done)))
        refine call_w (ih x.fArgs[i] (by have := List.sizeOf_lt_of_mem (List.getElem_mem hi'); omega) (hall _ (List.getElem_mem hi'))) ?_
        simp -implicitDefEqProofs (disch := omega) only [go_sem]
        (repeat (with_reducible refine And.intro ?_ ?_; focus first | omega | rfl | assumption | exact ⟨_, rfl, rfl⟩ | (simp; omega) | (simp; done)))
        rw [hs']
        exact inv_at (i + 1) (by omega) rfl rfl (by omega)
      · have hi' : i = (x.fArgs.map sxT).length := by rw [List.length_map]; omega
        rw [hx, ← hR, hi', List.take_length]
        simp only [fAtom_list, fList_list, List.cons_append, List.nil_append]
    · have hx := fin2 (by omega)
      rw [if_neg h, List.nil_append] at hx
      refine call_w (specAtom_ok _) ?_
      simp -implicitDefEqProofs (disch := omega) only [go_sem]
      (repeat (with_reducible refine And.intro ?_ ?_; focus first | omega | rfl | assumption | exact ⟨_, rfl, rfl⟩ | (simp; omega) | (simp; done)))
      refine loop_at (ι := Nat) Tryz.checked.mixed rfl [1, 2, 3, 4] (fun i => [.c (.ptr (0, 0) 0), .c (.ptr (0, 1) 0), .c (.ptr (0, 2) 0), .c (.d (.i .i64 i))])
        (fun i => [.box [.d (.i .i64 x.fKind), .d (.s x.fName), .d (.sl (x.fArgs.map MType.enc))], .box [.d (.s []), .fsl []], .box [.d (.s []), .tsl (0, 3) (([atomX x.fName] ++ (x.fArgs.map sxT).take i).map MSExpr.enc)], .tok 2 (([atomX x.fName] ++ (x.fArgs.map sxT).take i).map MSExpr.enc)] :: S)
        (fun i => i ≤ x.fArgs.length) (fun i => x.fArgs.length - i) 0 rfl ?_ (Nat.zero_le _) ?_
      · simp only [List.take_zero, List.append_nil, List.map_cons, List.map_nil, List.cons_append, List.nil_append, enc_atom] <;> (try rfl)
      intro i hi
      have hl : (([atomX x.fName] ++ (x.fArgs.map sxT).take i).map MSExpr.enc).length ≤ i + 2 := by
        rw [List.length_map, List.length_append]
        have := List.length_take_le i (x.fArgs.map sxT)
        simp only [List.length_cons, List.length_nil]; omega
      have hs := fun hi => encX_snoc (base := [atomX x.fName]) (l := x.fArgs.map sxT) (i := i) hi
      have hrw := enc_rows (l := [atomX x.fName] ++ (x.fArgs.map sxT).take i)
      generalize hR : ([atomX x.fName] ++ (x.fArgs.map sxT).take i).map MSExpr.enc = R at hl hs hrw
      simp -implicitDefEqProofs (disch := omega) only [go_sem]
      with_reducible refine split2 (fun hb => ?_) (fun hb => ?_) <;> have h := hb <;> (try simp only [wf_preprocess] at h) <;> simp -implicitDefEqProofs (disch := omega) only [go_sem, hb] <;> (repeat (with_reducible refine And.intro ?_ ?_; focus first | omega | rfl | assumption | exact ⟨_, rfl, rfl⟩ | (simp; omega) | (simp; done)))
      · have hi' : i < x.fArgs.length := by omega
        have hs' := hs (by rw [List.length_map]; exact hi')
        rw [List.getElem_map] at hs'
        (repeat (with_reducible refine And.intro ?_ ?_; focus first | omega | rfl | assumption | exact ⟨_, rfl, rfl⟩ | (simp; omega) | (simp; done)))
        refine call_w (ih x.fArgs[i] (by have := List.sizeOf_lt_of_mem (List.getElem_mem hi'); omega) (hall _ (List.getElem_mem hi'))) ?_
        simp -implicitDefEqProofs (disch := omega) only [go_sem]
        (repeat (with_reducible refine And.intro ?_ ?_; focus first | omega | rfl | assumption | exact ⟨_, rfl, rfl⟩ | (simp; omega) | (simp; done)))
        rw [hs']
        exact inv_at (i + 1) (by omega) rfl rfl (by omega)
      · have hi' : i = (x.fArgs.map sxT).length := by rw [List.length_map]; omega
        rw [hx, ← hR, hi', List.take_length]
        simp only [fAtom_list, fList_list, List.cons_append, List.nil_append]
theorem specTy_ok (x : MType) (hsz : x.sz ≤ 4194304) : PCall Tryz.prog 135 [x.v] (.agg [.d (.s (sxT x).fAtom), .d (.sl ((sxT x).fList.map MSExpr.enc))]) := specTy_all _ x (Nat.lt_succ_self _) hsz
theorem specTys_ok (xs : List MType) (hlen : xs.length ≤ 4194304) (hsz : ∀ t ∈ xs, t.sz ≤ 4194304) : PCall Tryz.prog 89 [.c (.d (.sl (xs.map MType.enc)))] (.c (.d (.sl ((xs.map sxT).map MSExpr.enc)))) := fun S => by
  refine acall_cw (rs := [.tmp 2]) Tryz.checked.mixed Tryz.func89 Tryz.ntmps89 rfl rfl rfl rfl rfl ?_
  simp -implicitDefEqProofs (disch := omega) only [go_sem]
  (repeat (with_reducible refine And.intro ?_ ?_; focus first | omega | rfl | assumption | exact ⟨_, rfl, rfl⟩ | (simp; omega) | (simp; done)))
  refine aw_tok 3 2 [] rfl (by simp) ?_
  refine loop_at (ι := Nat) Tryz.checked.mixed rfl [0, 3, 4] (fun i => [.c (.d (.sl (xs.map MType.enc))), .c (.tsl (0, 0) (((xs.map sxT).take i).map MSExpr.enc)), .c (.d (.i .i64 i))]) (fun i => [.tok 2 (((xs.map sxT).take i).map MSExpr.enc)] :: S)
    (fun i => i ≤ xs.length) (fun i => xs.length - i) 0 rfl rfl (Nat.zero_le _) ?_
  intro i hi
  have hl : (((xs.map sxT).take i).map MSExpr.enc).length ≤ i := by rw [List.length_map]; exact List.length_take_le _ _
  simp -implicitDefEqProofs (disch := omega) only [go_sem]
  with_reducible refine split2 (fun hb => ?_) (fun hb => ?_) <;> have h := hb <;> (try simp only [wf_preprocess] at h) <;> simp -implicitDefEqProofs (disch := omega) only [go_sem, hb] <;> (repeat (with_reducible refine And.intro ?_ ?_; focus first | omega | rfl | assumption | exact ⟨_, rfl, rfl⟩ | (simp; omega) | (simp; done)))
  · have hi' : i < xs.length := by omega
    have hs := encX_snoc (base := []) (l := xs.map sxT) (i := i) (by rw [List.length_map]; exact hi')
    rw [List.getElem_map] at hs
    simp only [List.nil_append] at hs
    (repeat (with_reducible refine And.intro ?_ ?_; focus first | omega | rfl | assumption | exact ⟨_, rfl, rfl⟩ | (simp; omega) | (simp; done)))
    refine call_w (specTy_ok xs[i] (hsz _ (List.getElem_mem hi'))) ?_
    simp -implicitDefEqProofs (disch := omega) only [go_sem]
    (repeat (with_reducible refine And.intro ?_ ?_; focus first | omega | rfl | assumption | exact ⟨_, rfl, rfl⟩ | (simp; omega) | (simp; done)))
    rw [hs]
    exact inv_at (i + 1) (by omega) rfl rfl (by omega)
  · have hi' : i = (xs.map sxT).length := by rw [List.length_map]; omega
    rw [hi', List.take_length]
theorem specIf_ok (b : Bool) (x : MSExpr) (hsz : x.sz ≤ 67108864) : PCall Tryz.prog 90 [.c (.d (.b b)), x.v] (outX b x).v := by
  have zero : PCall Tryz.prog 90 [.c (.d (.b b)), x.v] (.agg [.d (.s []), .fsl []]) → PCall Tryz.prog 90 [.c (.d (.b b)), x.v] zeroX.v := fun h => PCall.less h (less_xf [] [])
  cases b with
  | false =>
    refine zero fun S => ?_
    refine acall_cw (rs := [.cell 4 46]) Tryz.checked.mixed Tryz.func90 Tryz.ntmps90 rfl rfl rfl rfl rfl ?_
    simp -implicitDefEqProofs (disch := omega) only [go_sem]
  | true =>
    show PCall Tryz.prog 90 [.c (.d (.b true)), x.v] (ifX x).v
    unfold ifX
    cases hv : validX x with
    | false =>
      refine zero fun S => ?_
      refine acall_cw (rs := [.cell 4 46]) Tryz.checked.mixed Tryz.func90 Tryz.ntmps90 rfl rfl rfl rfl rfl ?_
      simp -implicitDefEqProofs (disch := omega) only [go_sem]
      refine call_w (specValidX_ok x hsz) ?_
      simp -implicitDefEqProofs (disch := omega) only [go_sem, hv]
    | true =>
      intro S
      refine acall_cw (rs := [.cell 4 46]) Tryz.checked.mixed Tryz.func90 Tryz.ntmps90 rfl rfl rfl rfl rfl ?_
      simp -implicitDefEqProofs (disch := omega) only [go_sem]
      refine call_w (specValidX_ok x hsz) ?_
      simp -implicitDefEqProofs (disch := omega) only [go_sem, hv]
end Go.Proofs.YtlmhknhlmicmeaaGreat

namespace Go.Ab
theorem MDataType.bounds {x : MDataType} (h : x.sz ≤ 4194304) : x.fName.length ≤ 4194304 ∧ x.fVars.length ≤ 4194304 ∧ x.fConstructors.length ≤ 4194304 ∧ ∀ s ∈ x.fVars, s.length ≤ 4194304 := by
  simp only [MDataType.sz, MDataType.enc_eq, szRow, szRow_append, D.sz, List.length_map] at h
  refine ⟨by omega, by omega, by omega, fun s hs => ?_⟩
  have := strs_b hs
  omega
theorem MDataType.con_b {x : MDataType} {i : Nat} (hi : i < x.fConstructors.length) (h : x.sz ≤ 4194304) : x.fConstructors[i].sz ≤ 4194304 := by
  have hx : x.fConstructors[i].sz ≤ szRows (x.fConstructors.map MConstructor.enc) := szRows_mem (List.mem_map_of_mem (List.getElem_mem hi))
  simp only [MDataType.sz, MDataType.enc_eq, szRow, szRow_append, D.sz, List.length_map] at h
  omega
theorem MConstructor.bounds {x : MConstructor} (h : x.sz ≤ 4194304) : x.fName.length ≤ 4194304 ∧ x.fFields.length ≤ 4194304 ∧ ∀ t ∈ x.fFields, t.sz ≤ 4194304 := by
  simp only [MConstructor.sz, MConstructor.enc_eq, szRow, szRow_append, D.sz, List.length_map] at h
  refine ⟨by omega, by omega, fun t ht => ?_⟩
  have hx : t.sz ≤ szRows (x.fFields.map MType.enc) := szRows_mem (List.mem_map_of_mem ht)
  omega
noncomputable def consOk (vars : List (List UInt8)) (c : MConstructor) : Bool := dec (c.fFields.length ≤ 4) && typesOver vars c.fFields
noncomputable def consNames (d : MDataType) : List (List UInt8) := d.fConstructors.map MConstructor.fName
noncomputable def validData (d : MDataType) : Bool :=
  validName d.fName && (dec (d.fVars.length ≤ 3) && (namesOk d.fVars && (dec (1 ≤ d.fConstructors.length) && (dec (d.fConstructors.length ≤ 5) && (d.fConstructors.all (consOk d.fVars) && namesOk (consNames d))))))
end Go.Ab
namespace Go.Proofs.YtlmhknhlmicmeaaGreat
open Go Go.Ab
theorem specValidData_ok (d : MDataType) (hsz : d.sz ≤ 4194304) : PCall Tryz.prog 91 [d.v] (.c (.d (.b (validData d)))) := fun S => by
  have hb0 := MDataType.bounds hsz
  have bad : ∀ i, ∀ hi : i < d.fConstructors.length, consOk d.fVars d.fConstructors[i] = false → validData d = false := fun i hi h => by
    have : d.fConstructors.all (consOk d.fVars) = false := Bool.eq_false_iff.2 fun hx => by
      rw [List.all_eq_true.1 hx _ (List.getElem_mem hi)] at h; cases h
    unfold validData
    rw [this]; simp
  refine acall_cw (rs := [.tmp 2]) Tryz.checked.mixed Tryz.func91 Tryz.ntmps91 rfl rfl rfl rfl rfl ?_
  simp -implicitDefEqProofs (disch := omega) only [go_sem]
  (repeat (with_reducible refine And.intro ?_ ?_; focus first | omega | rfl | assumption | exact ⟨_, rfl, rfl⟩ | (simp; omega) | (simp; done)))
  refine aw_tok 3 1 [] rfl (by simp) ?_
  refine loop_at (ι := Nat × List (List UInt8)) Tryz.checked.mixed rfl [1, 3, 4] (fun y => [.c (.ptr (0, 0) 0), .c (.tsl (0, 1) (y.2.map encS)), .c (.d (.i .i64 y.1))]) (fun y => [.box (d.enc.map .d), .tok 1 (y.2.map encS)] :: S)
    (fun y => y.1 ≤ d.fConstructors.length ∧ y.2 = (consNames d).take y.1 ∧ ∀ j, ∀ hj : j < d.fConstructors.length, j < y.1 → consOk d.fVars d.fConstructors[j] = true) (fun y => d.fConstructors.length - y.1) (0, []) rfl ?_ ⟨Nat.zero_le _, rfl, fun j _ h => by simp only at h; omega⟩ ?_
  · simp -implicitDefEqProofs (disch := omega) only [go_sem]
  rintro ⟨i, names⟩ ⟨p1, p2, p3⟩
  simp only at p1 p2 p3
  have pl : names.length ≤ d.fConstructors.length := by rw [p2]; simp [consNames]; omega
  simp -implicitDefEqProofs (disch := omega) only [go_sem]
  with_reducible refine split2 (fun hb => ?_) (fun hb => ?_) <;> have h := hb <;> (try simp only [wf_preprocess] at h) <;> simp -implicitDefEqProofs (disch := omega) only [go_sem, hb] <;> (repeat (with_reducible refine And.intro ?_ ?_; focus first | omega | rfl | assumption | exact ⟨_, rfl, rfl⟩ | (simp; omega) | (simp; done)))
  · have hi : i < d.fConstructors.length := by omega
    have hc := MConstructor.bounds (MDataType.con_b hi hsz)
    (repeat (with_reducible refine And.intro ?_ ?_; focus first | omega | rfl | assumption | exact ⟨_, rfl, rfl⟩ | (simp; omega) | (simp; done)))
    with_reducible refine split2 (fun hb => ?_) (fun hb => ?_) <;> have h := hb <;> (try simp only [wf_preprocess] at h) <;> simp -implicitDefEqProofs (disch := omega) only [go_sem, hb] <;> (repeat (with_reducible refine And.intro ?_ ?_; focus first | omega | rfl | assumption | exact ⟨_, rfl, rfl⟩ | (simp; omega) | (simp; done)))
    · rw [bad i hi (by unfold consOk; rw [dec_false (by omega)]; rfl)]
    have h1 := h
    (repeat (with_reducible refine And.intro ?_ ?_; focus first | omega | rfl | assumption | exact ⟨_, rfl, rfl⟩ | (simp; omega) | (simp; done)))
    refine call_w (l13All_ok d.fConstructors[i].fFields d.fVars (by omega) hc.2.2 (by omega)) ?_
    simp -implicitDefEqProofs (disch := omega) only [go_sem] <;> (repeat (with_reducible refine And.intro ?_ ?_; focus first | omega | rfl | assumption | exact ⟨_, rfl, rfl⟩ | (simp; omega) | (simp; done)))
    with_reducible refine split2 (fun hb => ?_) (fun hb => ?_) <;> have h := hb <;> (try simp only [wf_preprocess] at h) <;> simp -implicitDefEqProofs (disch := omega) only [go_sem, hb] <;> (repeat (with_reducible refine And.intro ?_ ?_; focus first | omega | rfl | assumption | exact ⟨_, rfl, rfl⟩ | (simp; omega) | (simp; done)))
    · rw [bad i hi (by unfold consOk; rw [h]; simp)]
    have h2 := h
    (repeat (with_reducible refine And.intro ?_ ?_; focus first | omega | rfl | assumption | exact ⟨_, rfl, rfl⟩ | (simp; omega) | (simp; done)))
    rw [show List.map encS names ++ [[D.s d.fConstructors[i].fName]] = List.map encS (names ++ [d.fConstructors[i].fName]) by simp [encS]]
    exact inv_at (i + 1, names ++ [d.fConstructors[i].fName]) (by simp only; omega) rfl rfl ⟨by simp only; omega, by simp only; rw [p2, take_snoc (by simpa [consNames] using hi)]; simp [consNames], fun j hj hji => by
      simp only at hji
      by_cases e : j = i
      · subst e; unfold consOk; rw [h2, dec_true (by omega)]; rfl
      · exact p3 j hj (by omega)⟩
  have hi : i = d.fConstructors.length := by omega
  have hn : names = consNames d := by rw [p2, List.take_of_length_le (by simp [consNames]; omega)]
  have hall : d.fConstructors.all (consOk d.fVars) = true := List.all_eq_true.2 fun c hc => by
    obtain ⟨j, hj, e⟩ := List.getElem_of_mem hc
    rw [← e]; exact p3 j hj (by omega)
  have hnl : ∀ s ∈ names, s.length ≤ 4194304 := fun s hs => by
    rw [hn] at hs
    obtain ⟨c, hc, e⟩ := List.mem_map.1 hs
    obtain ⟨j, hj, e'⟩ := List.getElem_of_mem hc
    rw [← e, ← e']; exact (MConstructor.bounds (MDataType.con_b hj hsz)).1
  have hlen : names.length = d.fConstructors.length := by rw [hn]; simp [consNames]
  refine call_w (specValidName_ok d.fName (by omega)) ?_
  simp -implicitDefEqProofs (disch := omega) only [go_sem] <;> (repeat (with_reducible refine And.intro ?_ ?_; focus first | omega | rfl | assumption | exact ⟨_, rfl, rfl⟩ | (simp; omega) | (simp; done)))
  with_reducible refine split2 (fun hb => ?_) (fun hb => ?_) <;> have h := hb <;> (try simp only [wf_preprocess] at h) <;> simp -implicitDefEqProofs (disch := omega) only [go_sem, hb] <;> (repeat (with_reducible refine And.intro ?_ ?_; focus first | omega | rfl | assumption | exact ⟨_, rfl, rfl⟩ | (simp; omega) | (simp; done)))
  · have h1 := h
    refine call_w (l13Words_ok d.fVars 3 (by omega) hb0.2.2.2) ?_
    simp -implicitDefEqProofs (disch := omega) only [go_sem] <;> (repeat (with_reducible refine And.intro ?_ ?_; focus first | omega | rfl | assumption | exact ⟨_, rfl, rfl⟩ | (simp; omega) | (simp; done)))
    with_reducible refine split2 (fun hb => ?_) (fun hb => ?_) <;> have h := hb <;> (try simp only [wf_preprocess] at h) <;> simp -implicitDefEqProofs (disch := omega) only [go_sem, hb] <;> (repeat (with_reducible refine And.intro ?_ ?_; focus first | omega | rfl | assumption | exact ⟨_, rfl, rfl⟩ | (simp; omega) | (simp; done)))
    · have h2 := h
      with_reducible refine split2 (fun hb => ?_) (fun hb => ?_) <;> have h := hb <;> (try simp only [wf_preprocess] at h) <;> simp -implicitDefEqProofs (disch := omega) only [go_sem, hb] <;> (repeat (with_reducible refine And.intro ?_ ?_; focus first | omega | rfl | assumption | exact ⟨_, rfl, rfl⟩ | (simp; omega) | (simp; done)))
      · have h3 := h
        refine call_w (l13Words_ok names 5 (by omega) hnl) ?_
        simp -implicitDefEqProofs (disch := omega) only [go_sem] <;> (repeat (with_reducible refine And.intro ?_ ?_; focus first | omega | rfl | assumption | exact ⟨_, rfl, rfl⟩ | (simp; omega) | (simp; done)))
        refine bool_eq ?_
        rw [Bool.and_eq_true] at h2
        have h4 := of_dec h2.1
        unfold validData
        rw [h1, h2.2, hall, ← hn, dec_true (show d.fVars.length ≤ 3 by omega), dec_true (show 1 ≤ d.fConstructors.length by omega), hlen]
        simp only [Bool.true_and]
        congr 1
        exact dec_congr ⟨fun h => by omega, fun h => by omega⟩
      · refine bool_eq ?_
        unfold validData
        rw [dec_false (show ¬ 1 ≤ d.fConstructors.length by omega)]; simp
    · refine bool_eq ?_
      unfold validData
      have h2 : (dec (d.fVars.length ≤ 3) && namesOk d.fVars) = false := by
        rw [← h]; congr 1; exact dec_congr ⟨fun h => by omega, fun h => by omega⟩
      rw [← Bool.and_assoc (dec (d.fVars.length ≤ 3)), h2]; simp
  · exact bool_eq (by unfold validData; rw [h]; rfl)
theorem implValidData_ok (d : MDataType) (hsz : d.sz ≤ 4194304) : PCall Tryz.prog 46 [d.v] (.c (.d (.b (validData d)))) := fun S => by
  have hb0 := MDataType.bounds hsz
  have bad : ∀ i, ∀ hi : i < d.fConstructors.length, consOk d.fVars d.fConstructors[i] = false → validData d = false := fun i hi h => by
    have : d.fConstructors.all (consOk d.fVars) = false := Bool.eq_false_iff.2 fun hx => by
      rw [List.all_eq_true.1 hx _ (List.getElem_mem hi)] at h; cases h
    unfold validData
    rw [this]; simp
  refine acall_cw (rs := [.tmp 2]) Tryz.checked.mixed Tryz.func46 Tryz.ntmps46 rfl rfl rfl rfl rfl ?_
  simp -implicitDefEqProofs (disch := omega) only [go_sem]
  refine call_w (implValidName_ok d.fName (by omega)) ?_
  simp -implicitDefEqProofs (disch := omega) only [go_sem] <;> (repeat (with_reducible refine And.intro ?_ ?_; focus first | omega | rfl | assumption | exact ⟨_, rfl, rfl⟩ | (simp; omega) | (simp; done)))
  with_reducible refine split2 (fun hb => ?_) (fun hb => ?_) <;> have h := hb <;> (try simp only [wf_preprocess] at h) <;> simp -implicitDefEqProofs (disch := omega) only [go_sem, hb] <;> (repeat (with_reducible refine And.intro ?_ ?_; focus first | omega | rfl | assumption | exact ⟨_, rfl, rfl⟩ | (simp; omega) | (simp; done)))
  · exact bool_eq (by unfold validData; rw [h]; rfl)
  have h1 := h
  with_reducible refine split2 (fun hb => ?_) (fun hb => ?_) <;> have h := hb <;> (try simp only [wf_preprocess] at h) <;> simp -implicitDefEqProofs (disch := omega) only [go_sem, hb] <;> (repeat (with_reducible refine And.intro ?_ ?_; focus first | omega | rfl | assumption | exact ⟨_, rfl, rfl⟩ | (simp; omega) | (simp; done)))
  · exact bool_eq (by unfold validData; rw [dec_false (show ¬ d.fVars.length ≤ 3 by omega)]; simp)
  have h2 := h
  refine call_w (areNames_ok d.fVars (by omega) hb0.2.2.2) ?_
  simp -implicitDefEqProofs (disch := omega) only [go_sem] <;> (repeat (with_reducible refine And.intro ?_ ?_; focus first | omega | rfl | assumption | exact ⟨_, rfl, rfl⟩ | (simp; omega) | (simp; done)))
  with_reducible refine split2 (fun hb => ?_) (fun hb => ?_) <;> have h := hb <;> (try simp only [wf_preprocess] at h) <;> simp -implicitDefEqProofs (disch := omega) only [go_sem, hb] <;> (repeat (with_reducible refine And.intro ?_ ?_; focus first | omega | rfl | assumption | exact ⟨_, rfl, rfl⟩ | (simp; omega) | (simp; done)))
  · exact bool_eq (by unfold validData; rw [h]; simp)
  have h3 := h
  with_reducible refine split2 (fun hb => ?_) (fun hb => ?_) <;> have h := hb <;> (try simp only [wf_preprocess] at h) <;> simp -implicitDefEqProofs (disch := omega) only [go_sem, hb] <;> (repeat (with_reducible refine And.intro ?_ ?_; focus first | omega | rfl | assumption | exact ⟨_, rfl, rfl⟩ | (simp; omega) | (simp; done)))
  · exact bool_eq (by unfold validData; rw [dec_false (show ¬ 1 ≤ d.fConstructors.length by omega)]; simp)
  have h4 := h
  with_reducible refine split2 (fun hb => ?_) (fun hb => ?_) <;> have h := hb <;> (try simp only [wf_preprocess] at h) <;> simp -implicitDefEqProofs (disch := omega) only [go_sem, hb] <;> (repeat (with_reducible refine And.intro ?_ ?_; focus first | omega | rfl | assumption | exact ⟨_, rfl, rfl⟩ | (simp; omega) | (simp; done)))
  · exact bool_eq (by unfold validData; rw [dec_false (show ¬ d.fConstructors.length ≤ 5 by omega)]; simp)
  have h5 := h
  (repeat (with_reducible refine And.intro ?_ ?_; focus first | omega | rfl | assumption | exact ⟨_, rfl, rfl⟩ | (simp; omega) | (simp; done)))
  refine aw_tok 3 1 [] rfl (by simp) ?_
  refine loop_at (ι := Nat × List (List UInt8)) Tryz.checked.mixed rfl [1, 3, 36, 37, 38] (fun y => [.c (.ptr (0, 0) 0), .c (.tsl (0, 1) (y.2.map encS)), .c (.d (.sl (d.fConstructors.map MConstructor.enc))), .c (.d (.i .i64 d.fConstructors.length)), .c (.d (.i .i64 y.1))]) (fun y => [.box (d.enc.map .d), .tok 1 (y.2.map encS)] :: S)
    (fun y => y.1 ≤ d.fConstructors.length ∧ y.2 = (consNames d).take y.1 ∧ ∀ j, ∀ hj : j < d.fConstructors.length, j < y.1 → consOk d.fVars d.fConstructors[j] = true) (fun y => d.fConstructors.length - y.1) (0, []) rfl ?_ ⟨Nat.zero_le _, rfl, fun j _ h => by simp only at h; omega⟩ ?_
  · simp -implicitDefEqProofs (disch := omega) only [go_sem]
  rintro ⟨i, names⟩ ⟨p1, p2, p3⟩
  simp only at p1 p2 p3
  have pl : names.length ≤ d.fConstructors.length := by rw [p2]; simp [consNames]; omega
  simp -implicitDefEqProofs (disch := omega) only [go_sem]
  with_reducible refine split2 (fun hb => ?_) (fun hb => ?_) <;> have h := hb <;> (try simp only [wf_preprocess] at h) <;> simp -implicitDefEqProofs (disch := omega) only [go_sem, hb] <;> (repeat (with_reducible refine And.intro ?_ ?_; focus first | omega | rfl | assumption | exact ⟨_, rfl, rfl⟩ | (simp; omega) | (simp; done)))
  · have hi : i < d.fConstructors.length := by omega
    have hc := MConstructor.bounds (MDataType.con_b hi hsz)
    (repeat (with_reducible refine And.intro ?_ ?_; focus first | omega | rfl | assumption | exact ⟨_, rfl, rfl⟩ | (simp; omega) | (simp; done)))
    with_reducible refine split2 (fun hb => ?_) (fun hb => ?_) <;> have h := hb <;> (try simp only [wf_preprocess] at h) <;> simp -implicitDefEqProofs (disch := omega) only [go_sem, hb] <;> (repeat (with_reducible refine And.intro ?_ ?_; focus first | omega | rfl | assumption | exact ⟨_, rfl, rfl⟩ | (simp; omega) | (simp; done)))
    · rw [bad i hi (by unfold consOk; rw [dec_false (by omega)]; rfl)]
    have k1 := h
    (repeat (with_reducible refine And.intro ?_ ?_; focus first | omega | rfl | assumption | exact ⟨_, rfl, rfl⟩ | (simp; omega) | (simp; done)))
    refine call_w (areTypesOver_ok d.fConstructors[i].fFields d.fVars (by omega) hc.2.2 (by omega)) ?_
    simp -implicitDefEqProofs (disch := omega) only [go_sem] <;> (repeat (with_reducible refine And.intro ?_ ?_; focus first | omega | rfl | assumption | exact ⟨_, rfl, rfl⟩ | (simp; omega) | (simp; done)))
    with_reducible refine split2 (fun hb => ?_) (fun hb => ?_) <;> have h := hb <;> (try simp only [wf_preprocess] at h) <;> simp -implicitDefEqProofs (disch := omega) only [go_sem, hb] <;> (repeat (with_reducible refine And.intro ?_ ?_; focus first | omega | rfl | assumption | exact ⟨_, rfl, rfl⟩ | (simp; omega) | (simp; done)))
    · rw [bad i hi (by unfold consOk; rw [h]; simp)]
    have k2 := h
    (repeat (with_reducible refine And.intro ?_ ?_; focus first | omega | rfl | assumption | exact ⟨_, rfl, rfl⟩ | (simp; omega) | (simp; done)))
    rw [show List.map encS names ++ [[D.s d.fConstructors[i].fName]] = List.map encS (names ++ [d.fConstructors[i].fName]) by simp [encS]]
    exact inv_drop 2 (by decide) (i + 1, names ++ [d.fConstructors[i].fName]) (by simp only; omega) rfl rfl rfl rfl ⟨by simp only; omega, by simp only; rw [p2, take_snoc (by simpa [consNames] using hi)]; simp [consNames], fun j hj hji => by
      simp only at hji
      by_cases e : j = i
      · subst e; unfold consOk; rw [k2, dec_true (by omega)]; rfl
      · exact p3 j hj (by omega)⟩
  have hi : i = d.fConstructors.length := by omega
  have hn : names = consNames d := by rw [p2, List.take_of_length_le (by simp [consNames]; omega)]
  have hall : d.fConstructors.all (consOk d.fVars) = true := List.all_eq_true.2 fun c hc => by
    obtain ⟨j, hj, e⟩ := List.getElem_of_mem hc
    rw [← e]; exact p3 j hj (by omega)
  have hnl : ∀ s ∈ names, s.length ≤ 4194304 := fun s hs => by
    rw [hn] at hs
    obtain ⟨c, hc, e⟩ := List.mem_map.1 hs
    obtain ⟨j, hj, e'⟩ := List.getElem_of_mem hc
    rw [← e, ← e']; exact (MConstructor.bounds (MDataType.con_b hj hsz)).1
  refine call_w (areNames_ok names (by omega) hnl) ?_
  simp -implicitDefEqProofs (disch := omega) only [go_sem] <;> (repeat (with_reducible refine And.intro ?_ ?_; focus first | omega | rfl | assumption | exact ⟨_, rfl, rfl⟩ | (simp; omega) | (simp; done)))
  exact bool_eq (by unfold validData; rw [h1, h3, hall, ← hn, dec_true (show d.fVars.length ≤ 3 by omega), dec_true (show 1 ≤ d.fConstructors.length by omega), dec_true (show d.fConstructors.length ≤ 5 by omega)]; simp)
end Go.Proofs.YtlmhknhlmicmeaaGreat

namespace Go.Ab
def wData : List UInt8 := [100, 97, 116, 97]
def sxC (c : MConstructor) : MSExpr := listX ([atomX c.fName] ++ c.fFields.map sxT)
def baseD (d : MDataType) : List MSExpr := [atomX wData, atomX d.fName, listX (wordsX d.fVars)]
def sxD (d : MDataType) : MSExpr := listX (baseD d ++ d.fConstructors.map sxC)
noncomputable def outD (d : MDataType) : MSExpr := outX (validData d) (sxD d)
theorem outD_sz {d : MDataType} (h : d.sz ≤ 1048576) : (outD d).sz ≤ 1048576 := Nat.le_trans (outX_sz _ _) (by decide)
def szC : List MConstructor → Nat
  | [] => 0
  | x :: xs => x.sz + szC xs
theorem szC_rows : ∀ l, szRows (l.map MConstructor.enc) = szC l
  | [] => rfl
  | x :: xs => by rw [List.map_cons, szRows, szC, szC_rows xs]; rfl
theorem con_sz_eq (x : MConstructor) : x.sz = x.fName.length + (x.fFields.length + szT x.fFields) := by
  rw [← szT_rows]; simp only [MConstructor.sz, MConstructor.enc_eq, szRow, D.sz, List.length_map]; omega
theorem data_sz_eq (x : MDataType) : x.sz = x.fName.length + (x.fVars.length + (x.fVars.map List.length).sum) + (x.fConstructors.length + szC x.fConstructors) := by
  rw [← szC_rows, ← szRows_encS]; simp only [MDataType.sz, MDataType.enc_eq, szRow, D.sz, List.length_map]; omega
theorem sxC_le (c : MConstructor) : (sxC c).sz ≤ 1 + 16 * c.sz := by
  have := sxT_map_le c.fFields
  rw [sxC, sz_list, szX_append, List.length_append, List.length_map, con_sz_eq]
  simp [szX, sz_atom]; omega
theorem sxCs_le : ∀ l : List MConstructor, szX (l.map sxC) ≤ l.length + 16 * szC l
  | [] => by simp [szX]
  | c :: l => by
    have h1 := sxC_le c
    have h2 := sxCs_le l
    rw [List.map_cons, szX, szC, List.length_cons]; omega
theorem sxD_le (d : MDataType) : (sxD d).sz ≤ 7 + 16 * d.sz := by
  have := sxCs_le d.fConstructors
  rw [sxD, sz_list, szX_append, List.length_append, List.length_map, data_sz_eq]
  simp [baseD, szX, sz_atom, sz_list, words_len, szX_words, wData]; omega
theorem base_rows (n : Nat) (a b : List UInt8) (w : List (List UInt8)) : lx [atomX a, atomX b, listX (wordsX w)] (n + 1) = [[.s a, .ol (n + 1) []], [.s b, .ol (n + 1 + 1) []], [.s [], .ol (n + 1 + 1 + 1) (lx (wordsX w) (n + 1 + 1 + 1 + 1))]] := by
  simp only [lx_cons, lx_nil, labX_eq, fAtom_atom, fList_atom, fAtom_list, fList_list, cntX_atom]
theorem typesOver_formed {vars : List (List UInt8)} {ts : List MType} (h : typesOver vars ts = true) : formeds ts = true := formeds_iff.2 fun t ht => by
  have := List.all_eq_true.1 h t ht
  unfold typeOver at this
  rw [Bool.and_eq_true] at this
  exact valid_formed this.1
theorem validData_cons {d : MDataType} (h : validData d = true) : ∀ c ∈ d.fConstructors, formeds c.fFields = true := fun c hc => by
  have h1 : d.fConstructors.all (consOk d.fVars) = true := by
    unfold validData at h
    simp only [Bool.and_eq_true] at h
    simp_all
  have h2 := List.all_eq_true.1 h1 c hc
  unfold consOk at h2
  rw [Bool.and_eq_true] at h2
  exact typesOver_formed h2.2
theorem ty_mem_sz {l : List MType} {t : MType} (h : t ∈ l) : t.sz ≤ szT l := by
  rw [← szT_rows]; exact szRows_mem (List.mem_map_of_mem h)
theorem con_mem_sz {l : List MConstructor} {t : MConstructor} (h : t ∈ l) : t.sz ≤ szC l := by
  rw [← szC_rows]; exact szRows_mem (List.mem_map_of_mem h)
end Go.Ab
namespace Go.Proofs.YtlmhknhlmicmeaaGreat
open Go Go.Ab
theorem implEncData_lab (d : MDataType) (n : Nat) (hv : validData d = true) (hsz : d.sz ≤ 1048576) : PCall Tryz.prog 48 [d.v] (.agg [.d (.s []), .d (.ol n (lx (sxD d).fList (n + 1)))]) := fun S => by
  have hdz := data_sz_eq d
  have hfo := validData_cons hv
  have hlen : d.fConstructors.length ≤ 1048576 := by omega
  obtain ⟨L, hL⟩ : ∃ L : Nat → Nat, L = fun i => n + 1 + cntXs (baseD d ++ (d.fConstructors.map sxC).take i) := ⟨_, rfl⟩
  obtain ⟨T, hT⟩ : ∃ T : Nat → List (List D), T = fun i => lx (baseD d ++ (d.fConstructors.map sxC).take i) (n + 1) := ⟨_, rfl⟩
  have hT0 : T 0 = [[.s wData, .ol (n + 1) []], [.s d.fName, .ol (n + 1 + 1) []], [.s [], .ol (n + 1 + 1 + 1) (lx (wordsX d.fVars) (n + 1 + 1 + 1 + 1))]] := by
    rw [hT]; simp only [List.take_zero, List.append_nil]; exact base_rows _ _ _ _
  have hTl : ∀ i, (T i).length ≤ i + 3 := fun i => by
    rw [hT]; simp only [lx_length, List.length_append]
    have := List.length_take_le i (d.fConstructors.map sxC)
    simp [baseD]; omega
  have hTs : ∀ i (hi : i < d.fConstructors.length), T i ++ [[.s [], .ol (L i) (lx ([atomX d.fConstructors[i].fName] ++ d.fConstructors[i].fFields.map sxT) (L i + 1))]] = T (i + 1) := fun i hi => by
    have := lx_snocB (base := baseD d) (l := d.fConstructors.map sxC) (i := i) (by rw [List.length_map]; exact hi) (n + 1)
    rw [List.getElem_map] at this
    rw [hT, hL]; exact this
  have hTr : ∀ i, ∀ r ∈ T i, r.length = 2 := fun i => by rw [hT]; exact lx_rows
  have hTe : T d.fConstructors.length = lx (sxD d).fList (n + 1) := by
    rw [hT]; simp only
    rw [List.take_of_length_le (by simp)]; rfl
  clear hT hL
  refine acall_cwLs (n) 1 (rs := [.cell 2 46]) Tryz.checked.mixed Tryz.func48 Tryz.ntmps48 rfl rfl rfl rfl rfl ?_
  simp -implicitDefEqProofs (disch := omega) only [go_sem]
  refine call_w (implAtom_lab _ (n + 1)) ?_
  simp -implicitDefEqProofs (disch := omega) only [go_sem]
  refine call_w (implAtom_lab _ (n + 1 + 1)) ?_
  simp -implicitDefEqProofs (disch := omega) only [go_sem]
  refine call_w (implNameList_lab d.fVars (by omega) (n + 1 + 1 + 1)) ?_
  simp -implicitDefEqProofs (disch := omega) only [go_sem]
  (repeat (with_reducible refine And.intro ?_ ?_; focus first | omega | rfl | assumption | exact ⟨_, rfl, rfl⟩ | (simp; omega) | (simp; done)))
  refine aw_ltok n 3 2 (T 0) (.inl ?_) (hTr 0) ?_
  · rw [hT0]; rfl
  refine aw_reseed (L 0) ?_
  refine loop_at (ι := Nat) Tryz.checked.mixed rfl [2, 3, 15, 16, 17] (fun i => [.c (.ptr (0, 3) 0), .c (.tsl (0, 4) (T i)), .c (.d (.sl (d.fConstructors.map MConstructor.enc))), .c (.d (.i .i64 d.fConstructors.length)), .c (.d (.i .i64 i))])
    (fun i => [.seed (L i), .seed 1, .box [.d (.s d.fName), .d (.sl (d.fVars.map encS)), .d (.sl (d.fConstructors.map MConstructor.enc))], .box [.d (.s []), .fsl []], .ltok n 2 (T i)] :: S)
    (fun i => i ≤ d.fConstructors.length) (fun i => d.fConstructors.length - i) 0 rfl rfl (Nat.zero_le _) ?_
  intro i hi
  have hl := hTl i
  simp -implicitDefEqProofs (disch := omega) only [go_sem]
  with_reducible refine split2 (fun hb => ?_) (fun hb => ?_) <;> have h := hb <;> (try simp only [wf_preprocess] at h) <;> simp -implicitDefEqProofs (disch := omega) only [go_sem, hb] <;> (repeat (with_reducible refine And.intro ?_ ?_; focus first | omega | rfl | assumption | exact ⟨_, rfl, rfl⟩ | (simp; omega) | (simp; done)))
  · have hi' : i < d.fConstructors.length := by omega
    have hm := List.getElem_mem hi'
    have hcz := con_mem_sz hm
    have hce := con_sz_eq d.fConstructors[i]
    have hs := hTs i hi'
    (repeat (with_reducible refine And.intro ?_ ?_; focus first | omega | rfl | assumption | exact ⟨_, rfl, rfl⟩ | (simp; omega) | (simp; done)))
    refine call_w (implAtom_lab _ (L i + 1)) ?_
    simp -implicitDefEqProofs (disch := omega) only [go_sem]
    refine call_w (implTys_lab d.fConstructors[i].fFields 0 (L i + 1 + 1) (hfo _ hm) (by omega) (fun t ht => by have := ty_mem_sz ht; omega)) ?_
    simp -implicitDefEqProofs (disch := omega) only [go_sem]
    have hr := lx_rows (l := d.fConstructors[i].fFields.map sxT) (n := L i + 1 + 1)
    have hl2 : (lx (d.fConstructors[i].fFields.map sxT) (L i + 1 + 1)).length = d.fConstructors[i].fFields.length := by rw [lx_length, List.length_map]
    (repeat (with_reducible refine And.intro ?_ ?_; focus first | omega | rfl | assumption | exact ⟨_, rfl, rfl⟩ | (simp; omega) | (simp; done)))
    refine call_w (implList_d _) ?_
    simp -implicitDefEqProofs (disch := omega) only [go_sem]
    (repeat (with_reducible refine And.intro ?_ ?_; focus first | omega | rfl | assumption | exact ⟨_, rfl, rfl⟩ | (simp; omega) | (simp; done)))
    simp only [List.cons_append, List.nil_append, lx_cons, labX_atom, cntX_atom] at hs
    rw [hs]
    refine inv_seed (L (i + 1)) 4 (by decide) (i + 1) (by omega) rfl rfl ?_ rfl (by omega)
    simp [tmRefs, zipTm, V.refs, C.refs, refK]
  · have hi' : i = d.fConstructors.length := by omega
    refine call_d rfl (implList_t 0 4 _ _) ?_
    simp -implicitDefEqProofs (disch := omega) only [go_sem]
    rw [hi', hTe]
theorem specData_ok (d : MDataType) (hsz : d.sz ≤ 1048576) : PCall Tryz.prog 41 [d.v] (outD d).v := fun S => by
  have hz := sxD_le d
  have hdz := data_sz_eq d
  obtain ⟨T, hT⟩ : ∃ T : Nat → List (List D), T = fun i => (baseD d ++ (d.fConstructors.map sxC).take i).map MSExpr.enc := ⟨_, rfl⟩
  have hT0 : T 0 = [[.s wData, .sl []], [.s d.fName, .sl []], [.s [], .sl ((wordsX d.fVars).map MSExpr.enc)]] := by
    rw [hT]; simp only [List.take_zero, List.append_nil, baseD, List.map_cons, List.map_nil, enc_atom, enc_list]
  have hTl : ∀ i, (T i).length ≤ i + 3 := fun i => by
    rw [hT]; simp only [List.length_map, List.length_append]
    have := List.length_take_le i (d.fConstructors.map sxC)
    simp [baseD]; omega
  have hTs : ∀ i (hi : i < d.fConstructors.length), T i ++ [[.s [], .sl (([atomX d.fConstructors[i].fName] ++ d.fConstructors[i].fFields.map sxT).map MSExpr.enc)]] = T (i + 1) := fun i hi => by
    have := encX_snoc (base := baseD d) (l := d.fConstructors.map sxC) (i := i) (by rw [List.length_map]; exact hi)
    rw [List.getElem_map] at this
    rw [hT]; exact this
  have hTr : ∀ i, ∀ r ∈ T i, r.length = 2 := fun i => by rw [hT]; exact enc_rows
  have hTe : T d.fConstructors.length = (sxD d).fList.map MSExpr.enc := by
    rw [hT]; simp only
    rw [List.take_of_length_le (by simp)]; rfl
  clear hT
  refine acall_cw (rs := [.cell 2 46]) Tryz.checked.mixed Tryz.func41 Tryz.ntmps41 rfl rfl rfl rfl rfl ?_
  simp -implicitDefEqProofs (disch := omega) only [go_sem]
  refine call_w (specAtom_ok _) ?_
  simp -implicitDefEqProofs (disch := omega) only [go_sem]
  refine call_w (specAtom_ok _) ?_
  simp -implicitDefEqProofs (disch := omega) only [go_sem]
  refine call_w (specNameList_ok d.fVars (by omega)) ?_
  simp -implicitDefEqProofs (disch := omega) only [go_sem]
  have hE := fun own0 Ω => specList_esc (T 0) (hTr 0) (by have := hTl 0; omega) own0 Ω
  simp only [hT0] at hE
  refine call_m [false] rfl (hE _ _) ?_
  simp -implicitDefEqProofs (disch := omega) only [go_sem]
  refine loop_at (ι := Nat) Tryz.checked.mixed rfl [1, 2, 3, 4] (fun i => [.c (.ptr (0, 0) 0), .c (.ptr (0, 1) 0), .c (.ptr (0, 4) 0), .c (.d (.i .i64 i))])
    (fun i => [.box [.d (.s d.fName), .d (.sl (d.fVars.map encS)), .d (.sl (d.fConstructors.map MConstructor.enc))], .box [.d (.s []), .fsl []], .box [.d (.s []), .tsl (0, 3) (T 0)], .tok 2 (T i), .box [.d (.s []), .tsl (0, 3) (T i)]] :: S)
    (fun i => i ≤ d.fConstructors.length) (fun i => d.fConstructors.length - i) 0 rfl (by simp only [hT0] <;> (try rfl)) (Nat.zero_le _) ?_
  intro i hi
  have hl := hTl i
  simp -implicitDefEqProofs (disch := omega) only [go_sem]
  with_reducible refine split2 (fun hb => ?_) (fun hb => ?_) <;> have h := hb <;> (try simp only [wf_preprocess] at h) <;> simp -implicitDefEqProofs (disch := omega) only [go_sem, hb] <;> (repeat (with_reducible refine And.intro ?_ ?_; focus first | omega | rfl | assumption | exact ⟨_, rfl, rfl⟩ | (simp; omega) | (simp; done)))
  · have hi' : i < d.fConstructors.length := by omega
    have hm := List.getElem_mem hi'
    have hcz := con_mem_sz hm
    have hce := con_sz_eq d.fConstructors[i]
    have hs := hTs i hi'
    (repeat (with_reducible refine And.intro ?_ ?_; focus first | omega | rfl | assumption | exact ⟨_, rfl, rfl⟩ | (simp; omega) | (simp; done)))
    refine call_w (specAtom_ok _) ?_
    simp -implicitDefEqProofs (disch := omega) only [go_sem]
    (repeat (with_reducible refine And.intro ?_ ?_; focus first | omega | rfl | assumption | exact ⟨_, rfl, rfl⟩ | (simp; omega) | (simp; done)))
    refine call_w (specTys_ok d.fConstructors[i].fFields (by omega) (fun t ht => by have := ty_mem_sz ht; omega)) ?_
    simp -implicitDefEqProofs (disch := omega) only [go_sem]
    have hr := enc_rows (l := d.fConstructors[i].fFields.map sxT)
    have hl2 : ((d.fConstructors[i].fFields.map sxT).map MSExpr.enc).length = d.fConstructors[i].fFields.length := by rw [List.length_map, List.length_map]
    (repeat (with_reducible refine And.intro ?_ ?_; focus first | omega | rfl | assumption | exact ⟨_, rfl, rfl⟩ | (simp; omega) | (simp; done)))
    simp only [List.cons_append, List.nil_append, List.map_cons, enc_atom] at hs
    rw [hs]
    exact inv_drop 5 (by decide) (i + 1) (by omega) rfl rfl rfl rfl (by omega)
  · have hi' : i = d.fConstructors.length := by omega
    subst hi'
    rw [hTe]
    refine call_w (specValidData_ok d (by omega)) ?_
    simp -implicitDefEqProofs (disch := omega) only [go_sem]
    refine call_w (specIf_ok (validData d) (sxD d) (by omega)) ?_
    simp -implicitDefEqProofs (disch := omega) only [go_sem]
    rfl
end Go.Proofs.YtlmhknhlmicmeaaGreat

namespace Go.Ab
def atA (l : List MSExpr) (i : Nat) : List UInt8 := (l.getD i zeroX).fAtom
theorem atA_get {l : List MSExpr} {i : Nat} (h : i < l.length) : atA l i = l[i].fAtom := by simp [atA, List.getD, h]
theorem atA_no {l : List MSExpr} {i : Nat} (h : l.length ≤ i) : atA l i = [] := by simp [atA, List.getD, h]; rfl
def namesX (l : List MSExpr) : List (List UInt8) := if l.all (fun x => decide (x.fAtom ≠ [])) = true then l.map MSExpr.fAtom else []
theorem namesX_words : ∀ {vs : List (List UInt8)}, (∀ v ∈ vs, v ≠ []) → namesX (wordsX vs) = vs := fun {vs} h => by
  unfold namesX wordsX
  rw [if_pos (List.all_eq_true.2 fun x hx => ?_), List.map_map]
  · conv => rhs; rw [← List.map_id vs]
    rfl
  · obtain ⟨v, hv, rfl⟩ := List.mem_map.1 hx
    exact decide_eq_true (h v hv)
theorem atoms_sz : ∀ l : List MSExpr, ((l.map MSExpr.fAtom).map List.length).sum ≤ szX l
  | [] => by simp [szX]
  | x :: l => by
    have := atoms_sz l
    rw [List.map_cons, List.map_cons, List.sum_cons, szX, sx_sz]; omega
theorem namesX_sz (l : List MSExpr) : (namesX l).length ≤ l.length ∧ ((namesX l).map List.length).sum ≤ szX l := by
  unfold namesX
  split
  · refine ⟨by simp, ?_⟩
    exact atoms_sz l
  · simp
mutual
def decT (b : Bool) : MSExpr → MType
  | .mk a l => if a = [] then
      if l.length < 2 then .mk 0 [] []
      else if atA l 0 = wDyn ∧ (b = true ∨ l.length = 2 ∧ atA l 1 ≠ []) then .mk 4 (atA l 1) []
      else if atA l 0 = wAssoc ∧ (b = true ∨ l.length = 3 ∧ atA l 1 ≠ []) then .mk 3 (atA l 1) ((decTs b l).drop 2)
      else .mk 2 (atA l 0) ((decTs b l).drop 1)
    else if a.head? = some 39 then .mk 1 a.tail [] else .mk 2 a []
def decTs (b : Bool) : List MSExpr → List MType
  | [] => []
  | x :: xs => decT b x :: decTs b xs
end
theorem decTs_map (b : Bool) : ∀ l, decTs b l = l.map (decT b)
  | [] => rfl
  | t :: ts => by rw [decTs, List.map_cons, decTs_map b ts]
theorem decT_eq (b : Bool) (x : MSExpr) : decT b x = if x.fAtom = [] then
      if x.fList.length < 2 then .mk 0 [] []
      else if atA x.fList 0 = wDyn ∧ (b = true ∨ x.fList.length = 2 ∧ atA x.fList 1 ≠ []) then .mk 4 (atA x.fList 1) []
      else if atA x.fList 0 = wAssoc ∧ (b = true ∨ x.fList.length = 3 ∧ atA x.fList 1 ≠ []) then .mk 3 (atA x.fList 1) ((x.fList.map (decT b)).drop 2)
      else .mk 2 (atA x.fList 0) ((x.fList.map (decT b)).drop 1)
    else if x.fAtom.head? = some 39 then .mk 1 x.fAtom.tail [] else .mk 2 x.fAtom [] := by
  cases x; rw [decT, decTs_map]; rfl
theorem szT_append : ∀ a b, szT (a ++ b) = szT a + szT b
  | [], b => by simp [szT]
  | x :: a, b => by rw [List.cons_append, szT, szT, szT_append a b]; omega
theorem szT_drop (l : List MType) (i : Nat) : szT (l.drop i) ≤ szT l := by
  have := szT_append (l.take i) (l.drop i)
  rw [List.take_append_drop] at this
  omega
theorem atA_sz (l : List MSExpr) (i : Nat) : (atA l i).length ≤ szX l := by
  by_cases h : i < l.length
  · rw [atA_get h]
    have h1 := szX_mem (List.getElem_mem h)
    rw [sx_sz] at h1; omega
  · rw [atA_no (by omega)]; simp
mutual
theorem decT_sz (b : Bool) : ∀ x : MSExpr, (decT b x).sz ≤ x.sz
  | .mk a l => by
    have h1 := decTs_sz b l
    have h2 := szT_drop (decTs b l) 2
    have h3 := szT_drop (decTs b l) 1
    have h4 := atA_sz l 0
    have h5 := atA_sz l 1
    have h6 : (decTs b l).length = l.length := by rw [decTs_map, List.length_map]
    rw [sx_sz, szX_rows]; simp only [MSExpr.fAtom, MSExpr.fList]
    rw [decT]
    split
    · split
      · rw [ty_sz_eq]; simp [MType.fName, MType.fArgs, szT]
      · split
        · rw [ty_sz_eq]; simp [MType.fName, MType.fArgs, szT]; omega
        · have g0 := decTs_cut b l 0
          have g1 := decTs_cut b l 1
          simp only [Nat.zero_add, Nat.reduceAdd] at g0 g1
          split
          · rw [ty_sz_eq]; simp only [MType.fName, MType.fArgs, List.length_drop, h6]; omega
          · rw [ty_sz_eq]; simp only [MType.fName, MType.fArgs, List.length_drop, h6]; omega
    · split
      · rw [ty_sz_eq]; simp [MType.fName, MType.fArgs, szT]; omega
      · rw [ty_sz_eq]; simp [MType.fName, MType.fArgs, szT]
theorem decTs_sz (b : Bool) : ∀ l : List MSExpr, szT (decTs b l) ≤ szX l
  | [] => by simp [decTs, szT]
  | x :: xs => by
    have h1 := decT_sz b x
    have h2 := decTs_sz b xs
    rw [decTs, szT, szX]; omega
theorem decTs_cut (b : Bool) : ∀ (l : List MSExpr) (i : Nat), szT ((decTs b l).drop (i + 1)) + (atA l i).length ≤ szX l
  | [], i => by simp [decTs, szT, atA_no]
  | x :: xs, 0 => by
    have h2 := decTs_sz b xs
    rw [decTs, List.drop_succ_cons, List.drop_zero, szX, show atA (x :: xs) 0 = x.fAtom from rfl, sx_sz]; omega
  | x :: xs, i + 1 => by
    have h2 := decTs_cut b xs i
    rw [decTs, List.drop_succ_cons, szX, show atA (x :: xs) (i + 1) = atA xs i from rfl]; omega
end
theorem name_ne {s : List UInt8} (h : validName s = true) : s ≠ [] := fun e => by rw [e] at h; have := of_dec h; simp at this
theorem name_head {s : List UInt8} (h : validName s = true) : s.head? ≠ some 39 := fun e => by
  have h1 := of_dec h
  have h2 := h1.2.2 0 (by omega)
  cases s with
  | nil => cases e
  | cons c s =>
    simp only [List.head?_cons, Option.some.injEq] at e
    subst e
    simp [lowerB, digitB] at h2
theorem name_dyn {s : List UInt8} (h : validName s = true) : s ≠ wDyn ∧ s ≠ wAssoc := by
  have h1 := (of_dec h).2.1
  refine ⟨fun e => h1 (by rw [e]; simp [reserved, wDyn]), fun e => h1 (by rw [e]; simp [reserved, wAssoc])⟩
mutual
theorem decT_sx (b : Bool) : ∀ t : MType, formed t = true → decT b (sxT t) = t
  | .mk k n zs => fun hf => by
    rw [formed, Bool.and_eq_true] at hf
    have hfi := of_dec hf.1
    have hzs := decTs_sx b zs hf.2
    rw [sxT]
    by_cases h1 : k = 1
    · have hz : zs = [] := by
        have : zs.length = 0 := by omega
        exact List.eq_nil_of_length_eq_zero this
      rw [if_pos h1, atomX, decT, if_neg (by simp), if_pos (by simp), hz, h1]; rfl
    rw [if_neg h1]
    by_cases h4 : k = 4
    · have hz : zs = [] := by
        have : zs.length = 0 := by omega
        exact List.eq_nil_of_length_eq_zero this
      have hn : validName n = true := by
        rcases hfi with h | h | h
        · exact h.2.1
        · exact h.2.1
        · omega
      rw [if_pos h4, listX, decT, if_pos rfl, if_neg (by simp), if_pos ⟨rfl, .inr ⟨rfl, name_ne hn⟩⟩, hz, h4]; rfl
    rw [if_neg h4]
    by_cases h2 : k = 2 ∧ zs.length = 0
    · have hz : zs = [] := List.eq_nil_of_length_eq_zero h2.2
      have hn : n ≠ [] ∧ n.head? ≠ some 39 := by
        rcases hfi with h | h | h
        · omega
        · omega
        · rcases h.2 with g | g
          · exact ⟨name_ne g.1, name_head g.1⟩
          · rcases of_dec g.1 with e | e <;> rw [e] <;> simp
      rw [if_pos h2, atomX, decT, if_neg hn.1, if_neg hn.2, hz, h2.1]
    rw [if_neg h2]
    by_cases h3 : k = 3
    · have hz : zs.length = 1 ∧ validName n = true := by
        rcases hfi with h | h | h
        · omega
        · exact ⟨h.2.2, h.2.1⟩
        · omega
      rw [if_pos h3, listX, decT, if_pos rfl, if_neg (by simp), if_neg (fun h => by have := h.1; simp [atA, atomX, MSExpr.fAtom, wDyn, wAssoc] at this), if_pos ⟨rfl, .inr ⟨by rw [sxTs_map]; simp [hz.1], name_ne hz.2⟩⟩]
      show MType.mk 3 n (decTs b (sxTs zs)) = _
      rw [hzs, h3]
    · have hn : validName n = true ∧ zs ≠ [] := by
        rcases hfi with h | h | h
        · omega
        · omega
        · rcases h.2 with g | g
          · exact ⟨g.1, fun e => h2 ⟨h.1, by rw [e]; rfl⟩⟩
          · exact (h2 ⟨h.1, g.2⟩).elim
      have hk : k = 2 := by
        rcases hfi with h | h | h
        · omega
        · omega
        · exact h.1
      have hd := name_dyn hn.1
      rw [if_neg h3, listX, decT, if_pos rfl, if_neg (by rw [sxTs_map]; cases zs with | nil => exact (hn.2 rfl).elim | cons z zs => simp), if_neg (fun h => hd.1 h.1), if_neg (fun h => hd.2 h.1)]
      show MType.mk 2 n (decTs b (sxTs zs)) = _
      rw [hzs, hk]
theorem decTs_sx (b : Bool) : ∀ ts : List MType, formeds ts = true → decTs b (sxTs ts) = ts
  | [], _ => rfl
  | t :: ts, h => by
    rw [formeds, Bool.and_eq_true] at h
    rw [sxTs, decTs, decT_sx b t h.1, decTs_sx b ts h.2]
end
theorem decT_map_sx (b : Bool) {ts : List MType} (h : formeds ts = true) : (ts.map sxT).map (decT b) = ts := by
  have := decTs_sx b ts h
  rw [decTs_map, sxTs_map] at this
  exact this
def decC (b : Bool) (y : MSExpr) : MConstructor := ⟨atA y.fList 0, (y.fList.drop 1).map (decT b)⟩
def decD (b : Bool) (x : MSExpr) : MDataType := ⟨atA x.fList 1, namesX (x.fList.getD 2 zeroX).fList, (x.fList.drop 3).map (decC b)⟩
theorem namesNe {vs : List (List UInt8)} (h : namesOk vs = true) : ∀ v ∈ vs, v ≠ [] := fun v hv => by
  unfold namesOk at h
  rw [Bool.and_eq_true] at h
  exact name_ne (List.all_eq_true.1 h.2 v hv)
theorem decC_sx (b : Bool) {c : MConstructor} (h : formeds c.fFields = true) : decC b (sxC c) = c := by
  show MConstructor.mk c.fName ((c.fFields.map sxT).map (decT b)) = c
  rw [decT_map_sx b h]
theorem validData_vars {d : MDataType} (h : validData d = true) : ∀ v ∈ d.fVars, v ≠ [] := by
  unfold validData at h
  simp only [Bool.and_eq_true] at h
  exact namesNe (by simp_all)
theorem decD_sx (b : Bool) {d : MDataType} (h : validData d = true) : decD b (sxD d) = d := by
  show MDataType.mk d.fName (namesX (wordsX d.fVars)) ((d.fConstructors.map sxC).map (decC b)) = d
  rw [namesX_words (validData_vars h), List.map_map, show d.fConstructors.map (decC b ∘ sxC) = d.fConstructors.map id from List.map_congr_left (fun c hc => decC_sx b (validData_cons h c hc)), List.map_id]
theorem sxD_head (d : MDataType) : 3 ≤ (sxD d).fList.length ∧ atA (sxD d).fList 0 = wData := ⟨by rw [sxD, fList_list]; simp [baseD], rfl⟩
noncomputable def okD (x : MSExpr) : Bool := dec (validX x = true ∧ 3 ≤ x.fList.length ∧ atA x.fList 0 = wData ∧ validData (decD true x) = true ∧ sxD (decD true x) = x)
noncomputable def rdD (x : MSExpr) : MDataType := if okD x = true then decD true x else ⟨[], [], []⟩
theorem outX_out {b : Bool} {s x : MSExpr} (h : outX b s = x) (hx : x.fList ≠ []) : b = true ∧ s = x ∧ validX x = true := by
  cases b with
  | false => rw [← h] at hx; exact (hx rfl).elim
  | true =>
    rw [outX] at h
    unfold ifX at h
    split at h
    · rename_i hv; exact ⟨rfl, h, by rw [← h]; exact hv⟩
    · rw [← h] at hx; exact (hx rfl).elim
theorem okD_spec {x : MSExpr} (hx : x.fList ≠ []) : okD x = (validX x && dec (outD (decD false x) = x)) := by
  cases hv : validX x with
  | false => exact dec_false fun h => by rw [hv] at h; cases h.1
  | true =>
    rw [Bool.true_and]
    refine dec_congr ⟨fun ⟨_, h1, h2, h3, h4⟩ => ?_, fun h => ?_⟩
    · have e : decD false x = decD true x := by conv => lhs; rw [← h4]
                                                exact decD_sx false h3
      rw [e, outD, h3, h4, outX, ifX, if_pos hv]
    · obtain ⟨h1, h2, _⟩ := outX_out h hx
      have e : decD true x = decD false x := by conv => lhs; rw [← h2]
                                                exact decD_sx true h1
      have := sxD_head (decD false x)
      rw [h2] at this
      rw [e]
      exact ⟨hv, this.1, this.2, h1, h2⟩
theorem okD_same {x : MSExpr} (h : okD x = true) : decD false x = decD true x := by
  have h1 := of_dec h
  conv => lhs; rw [← h1.2.2.2.2]
  exact decD_sx false h1.2.2.2.1
theorem decC_sz (b : Bool) (y : MSExpr) : (decC b y).sz ≤ y.sz := by
  have h := decTs_cut b y.fList 0
  rw [decTs_map] at h
  rw [con_sz_eq, sx_sz, szX_rows]
  simp only [decC, List.length_map, List.length_drop, ← List.map_drop, Nat.zero_add] at h ⊢
  omega
theorem decCs_sz (b : Bool) : ∀ l : List MSExpr, szC (l.map (decC b)) ≤ szX l
  | [] => by simp [szC]
  | y :: l => by
    have h1 := decC_sz b y
    have h2 := decCs_sz b l
    rw [List.map_cons, szC, szX]; omega
theorem szX_split3 (l : List MSExpr) : (atA l 1).length + ((l.getD 2 zeroX).fList.length + szX (l.getD 2 zeroX).fList) + szX (l.drop 3) ≤ szX l := by
  match l with
  | [] => simp [atA, szX, zeroX, MSExpr.fAtom, MSExpr.fList]
  | [x] => simp [atA, szX, zeroX, MSExpr.fAtom, MSExpr.fList]
  | [x, y] =>
    simp only [szX, sx_sz y]
    simp [atA, szX, zeroX, MSExpr.fAtom, MSExpr.fList]; omega
  | x :: y :: z :: l =>
    simp only [szX, sx_sz y, sx_sz z, szX_rows]
    simp [atA]; omega
theorem decD_sz (b : Bool) (x : MSExpr) : (decD b x).sz ≤ x.sz := by
  have h1 := decCs_sz b (x.fList.drop 3)
  have h2 := namesX_sz (x.fList.getD 2 zeroX).fList
  have h3 := szX_split3 x.fList
  rw [data_sz_eq, sx_sz, szX_rows]
  simp only [decD, List.length_map, List.length_drop]
  omega
theorem rdD_sz {x : MSExpr} (h : x.sz ≤ 1048576) : (rdD x).sz ≤ 1048576 := by
  have := decD_sz true x
  unfold rdD
  split
  · omega
  · rw [data_sz_eq]; simp [szC]
end Go.Ab

namespace Go.Ab
theorem sx_arg {x : MSExpr} {i : Nat} (hi : i < x.fList.length) (h : x.sz ≤ 4194304) : x.fList[i].sz ≤ 4194304 := by
  have := szX_mem (List.getElem_mem hi)
  rw [sx_sz, szX_rows] at h
  omega
theorem sx_len {x : MSExpr} (h : x.sz ≤ 4194304) : x.fAtom.length ≤ 4194304 ∧ x.fList.length ≤ 4194304 := by
  rw [sx_sz] at h
  omega
end Go.Ab
namespace Go.Proofs.YtlmhknhlmicmeaaGreat
open Go Go.Ab
theorem specEqualSExpr_all : ∀ n : Nat, ∀ x : MSExpr, SizeOf.sizeOf x < n → ∀ y : MSExpr, x.sz ≤ 4194304 → PCall Tryz.prog 40 [x.v, y.v] (.c (.d (.b (dec (x = y)))))
  | 0 => fun x h => by omega
  | n + 1 => by
    have ih := specEqualSExpr_all n
    intro x hn y hsz S
    have lList := MSExpr.lt_List x
    have hb := sx_len hsz
    refine acall_cw (rs := [.tmp 4]) Tryz.checked.mixed Tryz.func40 Tryz.ntmps40 rfl rfl rfl rfl rfl ?_
    simp -implicitDefEqProofs (disch := omega) only [go_sem]
    with_reducible refine split2 (fun hb => ?_) (fun hb => ?_) <;> have h := hb <;> (try simp only [wf_preprocess] at h) <;> simp -implicitDefEqProofs (disch := omega) only [go_sem, hb] <;> (repeat (with_reducible refine And.intro ?_ ?_; focus first | omega | rfl | assumption | exact ⟨_, rfl, rfl⟩ | (simp; omega) | (simp; done)))
    · exact bool_eq (dec_false (fun e => h (by rw [e]))).symm
    have h1 := h
    with_reducible refine split2 (fun hb => ?_) (fun hb => ?_) <;> have h := hb <;> (try simp only [wf_preprocess] at h) <;> simp -implicitDefEqProofs (disch := omega) only [go_sem, hb] <;> (repeat (with_reducible refine And.intro ?_ ?_; focus first | omega | rfl | assumption | exact ⟨_, rfl, rfl⟩ | (simp; omega) | (simp; done)))
    · exact bool_eq (dec_false (fun e => h (by rw [e]))).symm
    have hl : x.fList.length = y.fList.length := by omega
    refine loop_at (ι := Nat) Tryz.checked.mixed rfl [2, 3, 5] (fun i => [.c (.ptr (0, 0) 0), .c (.ptr (0, 1) 0), .c (.d (.i .i64 i))]) (fun i => [.box [.d (.s x.fAtom), .d (.sl (x.fList.map MSExpr.enc))], .box [.d (.s y.fAtom), .d (.sl (y.fList.map MSExpr.enc))]] :: S)
      (fun i => i ≤ x.fList.length ∧ ∀ j, j < i → x.fList[j]? = y.fList[j]?) (fun i => x.fList.length - i) 0 rfl rfl ⟨Nat.zero_le _, fun j h => by omega⟩ ?_
    rintro i ⟨p1, p2⟩
    simp -implicitDefEqProofs (disch := omega) only [go_sem, MSExpr.enc_eq]
    with_reducible refine split2 (fun hb => ?_) (fun hb => ?_) <;> have h := hb <;> (try simp only [wf_preprocess] at h) <;> simp -implicitDefEqProofs (disch := omega) only [go_sem, hb] <;> (repeat (with_reducible refine And.intro ?_ ?_; focus first | omega | rfl | assumption | exact ⟨_, rfl, rfl⟩ | (simp; omega) | (simp; done)))
    · have hi : i < x.fList.length := by omega
      have hi' : i < y.fList.length := by omega
      (repeat (with_reducible refine And.intro ?_ ?_; focus first | omega | rfl | assumption | exact ⟨_, rfl, rfl⟩ | (simp; omega) | (simp; done)))
      refine call_w (ih x.fList[i] (by have := List.sizeOf_lt_of_mem (List.getElem_mem hi); omega) y.fList[i] (sx_arg hi hsz)) ?_
      simp -implicitDefEqProofs (disch := omega) only [go_sem]
      with_reducible refine split2 (fun hb => ?_) (fun hb => ?_) <;> have h := hb <;> (try simp only [wf_preprocess] at h) <;> simp -implicitDefEqProofs (disch := omega) only [go_sem, hb] <;> (repeat (with_reducible refine And.intro ?_ ?_; focus first | omega | rfl | assumption | exact ⟨_, rfl, rfl⟩ | (simp; omega) | (simp; done)))
      · exact bool_eq (dec_false (fun e => h (by simp only [e]))).symm
      refine inv_at (i + 1) (by omega) rfl rfl ⟨by omega, fun j hj => ?_⟩
      by_cases e : j = i
      · subst e
        rw [List.getElem?_eq_getElem hi, List.getElem?_eq_getElem hi', h]
      · exact p2 j (by omega)
    · have hi : i = x.fList.length := by omega
      refine bool_eq (dec_true ?_).symm
      refine MSExpr.ext (by first | exact h1 | (simp at h1; exact h1)) (List.ext_getElem? fun j => ?_)
      by_cases hj : j < i
      · exact p2 j hj
      · rw [List.getElem?_eq_none (by omega), List.getElem?_eq_none (by omega)]
theorem specEqualSExpr_ok (x y : MSExpr) (h : x.sz ≤ 4194304) : PCall Tryz.prog 40 [x.v, y.v] (.c (.d (.b (dec (x = y))))) := specEqualSExpr_all _ x (Nat.lt_succ_self _) y h
theorem implEqualSExpr_all : ∀ n : Nat, (∀ x : MSExpr, SizeOf.sizeOf x < n → ∀ y : MSExpr, x.sz ≤ 4194304 → PCall Tryz.prog 47 [x.v, y.v] (.c (.d (.b (dec (x = y)))))) ∧
    (∀ xs : List MSExpr, SizeOf.sizeOf xs < n → ∀ ys : List MSExpr, xs.length ≤ 4194304 → (∀ t ∈ xs, t.sz ≤ 4194304) → PCall Tryz.prog 96 [.c (.d (.sl (xs.map MSExpr.enc))), .c (.d (.sl (ys.map MSExpr.enc))), .c (.fn 47 [])] (.c (.d (.b (dec (xs = ys))))))
  | 0 => ⟨fun x h => by omega, fun x h => by omega⟩
  | n + 1 => by
    obtain ⟨ih, ihS⟩ := implEqualSExpr_all n
    refine ⟨fun x hn y hsz S => ?_, fun xs hn ys hlen hsz S => ?_⟩
    · have lList := MSExpr.lt_List x
      have hb := sx_len hsz
      refine acall_cw (rs := [.tmp 4]) Tryz.checked.mixed Tryz.func47 Tryz.ntmps47 rfl rfl rfl rfl rfl ?_
      simp -implicitDefEqProofs (disch := omega) only [go_sem]
      with_reducible refine split2 (fun hb => ?_) (fun hb => ?_) <;> have h := hb <;> (try simp only [wf_preprocess] at h) <;> simp -implicitDefEqProofs (disch := omega) only [go_sem, hb] <;> (repeat (with_reducible refine And.intro ?_ ?_; focus first | omega | rfl | assumption | exact ⟨_, rfl, rfl⟩ | (simp; omega) | (simp; done)))
      · have h1 := h
        (repeat (with_reducible refine And.intro ?_ ?_; focus first | omega | rfl | assumption | exact ⟨_, rfl, rfl⟩ | (simp; omega) | (simp; done)))
        refine call_w (ihS x.fList (by omega) y.fList (by omega) (fun t ht => by
          obtain ⟨i, hi, e⟩ := List.getElem_of_mem ht
          rw [← e]; exact sx_arg hi hsz)) ?_
        simp -implicitDefEqProofs (disch := omega) only [go_sem]
        refine bool_eq (dec_congr ⟨fun e => MSExpr.ext h1 e, fun e => by rw [e]⟩)
      · exact bool_eq (dec_false (fun e => h (by rw [e]))).symm
    · refine acall_cw (rs := [.tmp 6]) Tryz.checked.mixed Tryz.func96 Tryz.ntmps96 rfl rfl rfl rfl rfl ?_
      simp -implicitDefEqProofs (disch := omega) only [go_sem]
      with_reducible refine split2 (fun hb => ?_) (fun hb => ?_) <;> have h := hb <;> (try simp only [wf_preprocess] at h) <;> simp -implicitDefEqProofs (disch := omega) only [go_sem, hb] <;> (repeat (with_reducible refine And.intro ?_ ?_; focus first | omega | rfl | assumption | exact ⟨_, rfl, rfl⟩ | (simp; omega) | (simp; done)))
      · exact bool_eq (dec_false (fun e => h (by rw [e]))).symm
      have hl : xs.length = ys.length := by omega
      refine loop_at (ι := Nat) Tryz.checked.mixed rfl [1, 2, 15, 16, 17] (fun y => [.c (.d (.sl (ys.map MSExpr.enc))), .c (.fn 47 []), .c (.d (.sl (xs.map MSExpr.enc))), .c (.d (.i .i64 xs.length)), .c (.d (.i .i64 y))]) (fun y => [] :: S)
        (fun i => i ≤ xs.length ∧ ∀ j, j < i → xs[j]? = ys[j]?) (fun y => xs.length - y) 0 rfl rfl ⟨Nat.zero_le _, fun j h => by omega⟩ ?_
      rintro i ⟨p1, p2⟩
      simp -implicitDefEqProofs (disch := omega) only [go_sem]
      with_reducible refine split2 (fun hb => ?_) (fun hb => ?_) <;> have h := hb <;> (try simp only [wf_preprocess] at h) <;> simp -implicitDefEqProofs (disch := omega) only [go_sem, hb] <;> (repeat (with_reducible refine And.intro ?_ ?_; focus first | omega | rfl | assumption | exact ⟨_, rfl, rfl⟩ | (simp; omega) | (simp; done)))
      · have hi : i < xs.length := by omega
        have hi' : i < ys.length := by omega
        (repeat (with_reducible refine And.intro ?_ ?_; focus first | omega | rfl | assumption | exact ⟨_, rfl, rfl⟩ | (simp; omega) | (simp; done)))
        refine call_w (ih xs[i] (by have := List.sizeOf_lt_of_mem (List.getElem_mem hi); omega) ys[i] (hsz _ (List.getElem_mem hi))) ?_
        simp -implicitDefEqProofs (disch := omega) only [go_sem]
        with_reducible refine split2 (fun hb => ?_) (fun hb => ?_) <;> have h := hb <;> (try simp only [wf_preprocess] at h) <;> simp -implicitDefEqProofs (disch := omega) only [go_sem, hb] <;> (repeat (with_reducible refine And.intro ?_ ?_; focus first | omega | rfl | assumption | exact ⟨_, rfl, rfl⟩ | (simp; omega) | (simp; done)))
        · exact bool_eq (dec_false (fun e => h (by simp only [e]))).symm
        refine inv_drop 0 (by decide) (i + 1) (by omega) rfl rfl rfl rfl ⟨by omega, fun j hj => ?_⟩
        by_cases e : j = i
        · subst e
          rw [List.getElem?_eq_getElem hi, List.getElem?_eq_getElem hi', h]
        · exact p2 j (by omega)
      · have hi : i = xs.length := by omega
        refine bool_eq (dec_true (List.ext_getElem? fun j => ?_)).symm
        by_cases hj : j < i
        · exact p2 j hj
        · rw [List.getElem?_eq_none (by omega), List.getElem?_eq_none (by omega)]
theorem implEqualSExpr_ok (x y : MSExpr) (h : x.sz ≤ 4194304) : PCall Tryz.prog 47 [x.v, y.v] (.c (.d (.b (dec (x = y))))) := (implEqualSExpr_all _).1 x (Nat.lt_succ_self _) y h
end Go.Proofs.YtlmhknhlmicmeaaGreat

namespace Go.Ab
section
variable {P : Program} {w w' : World} {σ σ' : Nat → Nat} {S : Store} {β : Hs}
end
end Go.Ab

namespace Go.Ab
section
variable {P : Program} {w w' : World} {σ σ' : Nat → Nat} {β : Hs}
theorem box_tok {own : List Obj} {Ω : Store} (lab : Option Nat) (j i esz : Nat) (es : List (List D)) (cs : List C) (hj : own[j]? = some (.box cs)) (hi : cs[i]? = some (match lab with | some n => .lfl n es | none => .fsl es)) (hes : ∀ e ∈ es, e.length = esz) (hS : RepS w σ (own :: Ω) β) :
    ∃ β', RepS w σ ((own.set j (.box (cs.set i (.tsl (0, own.length) es))) ++ [tokO lab esz es]) :: Ω) β' ∧ Step (own :: Ω) β σ w ((own.set j (.box (cs.set i (.tsl (0, own.length) es))) ++ [tokO lab esz es]) :: Ω) β' σ w ∧ Keep (own :: Ω) β ((own.set j (.box (cs.set i (.tsl (0, own.length) es))) ++ [tokO lab esz es]) :: Ω) β' := by
  cases β with
  | nil => have := hS.shape.1; simp at this
  | cons bo bΩ =>
  have hlen : bo.length = own.length := by
    obtain ⟨gr, g1, g2⟩ := hS.shape.2 0 own rfl
    simp at g1; rw [g1]; exact g2
  have hjl := (List.getElem?_eq_some_iff.1 hj).1
  have hg0 : getO (own :: Ω) (0, j) = some (.box cs) := by rw [getO_zero]; exact hj
  obtain ⟨hb, hbo, hr⟩ := hS.obj (0, j) _ hg0
  obtain ⟨b, cv, ty, rfl, hbc, hσ, hcs⟩ := hr
  have hcs : RepCs w σ (own :: Ω) (bo :: bΩ) cs cv.toList := hcs
  obtain ⟨v, hv, hc0, hone⟩ := hcs.2 i _ hi
  have hx : ∃ ad : Option Addr, RepD w σ (.sl es) v ∧ v = .slice ad es.length es.length ∧ ∀ n, lab = some n → RepD w σ (.ol n es) v := by
    cases lab with
    | none =>
      obtain ⟨hd, ad, n, hval⟩ := hc0
      have hn : n = es.length := by rw [hval] at hd; cases hd <;> rfl
      exact ⟨ad, hd, by rw [hval, hn], fun n e => by cases e⟩
    | some n =>
      obtain ⟨hd, ad, m, hval⟩ := hc0
      have hn : m = es.length := by
        have := rep_ol hd
        rw [hval] at this
        cases this <;> rfl
      exact ⟨ad, rep_ol hd, by rw [hval, hn], fun n' e => by cases e; exact hd⟩
  obtain ⟨ad, hd, hval, hol⟩ := hx
  have hg : Grow w σ w σ := Grow.refl hS.live
  obtain ⟨hS', hk, hst⟩ := hS.push (o := tokO lab esz es) (h := v) hg hlen (by
    cases lab with
    | none => exact ⟨hd, hes, ad, es.length, hval, Nat.le_refl _, .inl rfl⟩
    | some n => exact ⟨hd, hes, ad, es.length, hval, Nat.le_refl _, .inl ⟨rfl, hol n rfl⟩⟩) (fun b hb => by
    rw [hval] at hb
    cases lab <;> cases ad <;> simp [tokO, owns, blk] at hb)
  have hk1 : getO ((own ++ [tokO lab esz es]) :: Ω) (0, j) = some (.box cs) := getO_push _ _ _ _ _ hg0
  have hh1 : getO ((bo ++ [v]) :: bΩ) (0, j) = some (.pointer (some ⟨b, 0, none⟩)) := getO_push _ _ _ _ _ hbo
  have hko : KeepO (.box cs) (some (Value.pointer (some ⟨b, 0, none⟩))) (.box (cs.set i (.tsl (0, own.length) es))) (some (Value.pointer (some ⟨b, 0, none⟩))) := .inr ⟨⟨_, rfl⟩, rfl⟩
  have hK : Keep ((own ++ [tokO lab esz es]) :: Ω) ((bo ++ [v]) :: bΩ) (setO ((own ++ [tokO lab esz es]) :: Ω) (0, j) (.box (cs.set i (.tsl (0, own.length) es)))) (setO ((bo ++ [v]) :: bΩ) (0, j) (.pointer (some ⟨b, 0, none⟩))) := by
    intro k1 o1 e1
    by_cases e : k1 = (0, j)
    · subst e
      rw [hk1] at e1; cases e1
      exact ⟨_, getO_setO_eq _ _ _ _ hk1, by rw [hh1, getO_setO_eq _ _ _ _ hh1]; exact hko⟩
    · exact ⟨o1, (getO_setO_ne _ _ _ _ (Ne.symm e)).trans e1, by rw [getO_setO_ne _ _ _ _ (Ne.symm e)]; exact .refl _ _⟩
  have hne : (0, own.length) ≠ (0, j) := fun e => by injection e with _ e; omega
  obtain ⟨hS2, hk2, hst2⟩ := hS'.set (w' := w) (σ' := σ) (o' := .box (cs.set i (.tsl (0, own.length) es))) (h' := .pointer (some ⟨b, 0, none⟩)) hk1 hh1 (Nat.le_refl _) rfl rfl (Near.refl _ _) hS'.live (fun _ _ _ => ⟨rfl, rfl⟩) hko
    ⟨b, cv, ty, rfl, hbc, hσ, by
      refine ⟨by rw [List.length_set]; exact hcs.1, fun m x hm => ?_⟩
      rw [List.getElem?_set] at hm
      by_cases e : i = m
      · subst e
        rw [if_pos rfl] at hm
        split at hm
        · cases hm
          refine ⟨v, hv, ⟨hd, tokO lab esz es, ?_, fun a1 b1 e1 => ?_⟩, hone⟩
          · show getO (setO _ (0, j) _) (0, own.length) = _
            rw [getO_setO_ne _ _ _ _ (Ne.symm hne), getO_push_new]
          · obtain ⟨_, rfl⟩ := istok_of e1
            refine ⟨Nat.le_refl _, fun _ => ?_⟩
            show getO (setO _ (0, j) _) (0, own.length) = _
            rw [getO_setO_ne _ _ _ _ (Ne.symm hne), ← hlen, getO_push_new]
        · cases hm
      · rw [if_neg e] at hm
        obtain ⟨u, hu, hc, ho⟩ := hcs.2 m x hm
        exact ⟨u, hu, (hc.mono (Near.refl _ _) hk).mono (Near.refl _ _) hK, ho⟩⟩ (fun _ e => .inl e)
  have est : setO ((own ++ [tokO lab esz es]) :: Ω) (0, j) (.box (cs.set i (.tsl (0, own.length) es))) = (own.set j (.box (cs.set i (.tsl (0, own.length) es))) ++ [tokO lab esz es]) :: Ω := by
    rw [setO, List.set_append_left _ _ hjl]
  rw [est] at hS2 hk2 hst2
  exact ⟨_, hS2, hst.trans hst2, hk.trans hk2⟩
end
end Go.Ab

namespace Go.Ab
section
variable {P : Program} {w w' : World} {σ σ' : Nat → Nat} {β : Hs} {N : Nat}
def CellLe (x y : C) : Prop := ∀ w σ S β v, RepC w σ S β x v → RepC w σ S β y v
theorem CellLe.refl (x : C) : CellLe x x := fun _ _ _ _ _ h => h
theorem cell_nil_lfl (n : Nat) : CellLe (.fsl []) (.lfl n []) := fun w σ S β v h => by
  obtain ⟨hd, a, m, hv⟩ := h
  have hm : m = 0 := by rw [hv] at hd; cases hd <;> rfl
  subst hm
  exact ⟨by rw [hv]; exact .onil _ _ _, a, 0, hv⟩
theorem cell_nil_ol (n : Nat) : CellLe (.fsl []) (.d (.ol n [])) := fun w σ S β v h => (cell_nil_lfl n w σ S β v h).1
theorem cell_fsl (es : List (List D)) : CellLe (.fsl es) (.d (.sl es)) := fun w σ S β v h => h.1
theorem cell_ol (n : Nat) (es : List (List D)) : CellLe (.d (.ol n es)) (.d (.sl es)) := fun w σ S β v h => rep_ol h
inductive CellsLe : List C → List C → Prop
  | nil : CellsLe [] []
  | cons {x y : C} {xs ys : List C} : CellLe x y → CellsLe xs ys → CellsLe (x :: xs) (y :: ys)
theorem CellsLe.refl : ∀ xs, CellsLe xs xs
  | [] => .nil
  | x :: xs => .cons (.refl x) (CellsLe.refl xs)
theorem CellsLe.length : ∀ {xs ys : List C}, CellsLe xs ys → xs.length = ys.length
  | _, _, .nil => rfl
  | _, _, .cons _ h => by rw [List.length_cons, List.length_cons, CellsLe.length h]
theorem CellsLe.at : ∀ {xs ys : List C}, CellsLe xs ys → ∀ (j : Nat) (x y : C), xs[j]? = some x → ys[j]? = some y → CellLe x y
  | _, _, .nil, j, x, y, h, _ => by simp at h
  | _, _, .cons a h, 0, x, y, h1, h2 => by simp at h1 h2; subst h1; subst h2; exact a
  | _, _, .cons a h, j + 1, x, y, h1, h2 => CellsLe.at h j x y (by simpa using h1) (by simpa using h2)
theorem CellsLe.less {xs ys : List C} (h : CellsLe xs ys) : Less (.agg xs) (.agg ys) := by
  rintro w σ S β v ⟨a, ha, hc⟩
  refine ⟨a, ha, h.length.symm.trans hc.1, fun j y hy => ?_⟩
  have hj : j < xs.length := by rw [h.length]; exact (List.getElem?_eq_some_iff.1 hy).1
  obtain ⟨v, h1, h2, h3⟩ := hc.2 j _ (List.getElem?_eq_getElem hj)
  exact ⟨v, h1, h.at j _ y (List.getElem?_eq_getElem hj) hy w σ S β v h2, h3⟩
theorem CellsLe.reps {xs ys : List C} (h : CellsLe xs ys) {w : World} {σ : Nat → Nat} {S : Store} {β : Hs} {vs : List Value} (hc : RepCs w σ S β xs vs) : RepCs w σ S β ys vs := by
  refine ⟨h.length.symm.trans hc.1, fun j y hy => ?_⟩
  have hj : j < xs.length := by rw [h.length]; exact (List.getElem?_eq_some_iff.1 hy).1
  obtain ⟨v, h1, h2, h3⟩ := hc.2 j _ (List.getElem?_eq_getElem hj)
  exact ⟨v, h1, h.at j _ y (List.getElem?_eq_getElem hj) hy w σ S β v h2, h3⟩
theorem box_less {own : List Obj} {Ω : Store} (j : Nat) (cs cs' : List C) (hj : own[j]? = some (.box cs)) (hle : CellsLe cs cs') (hS : RepS w σ (own :: Ω) β) :
    ∃ β', RepS w σ ((own.set j (.box cs')) :: Ω) β' ∧ Step (own :: Ω) β σ w ((own.set j (.box cs')) :: Ω) β' σ w ∧ Keep (own :: Ω) β ((own.set j (.box cs')) :: Ω) β' ∧ tail1 β' = tail1 β ∧ β'.length = β.length := by
  cases β with
  | nil => have := hS.shape.1; simp at this
  | cons bo bΩ =>
  have hg0 : getO (own :: Ω) (0, j) = some (.box cs) := by rw [getO_zero]; exact hj
  obtain ⟨hb, hbo, hr⟩ := hS.obj (0, j) _ hg0
  obtain ⟨b, cv, ty, rfl, hbc, hσ, hcs⟩ := hr
  have hcs : RepCs w σ (own :: Ω) (bo :: bΩ) cs cv.toList := hcs
  have hko : KeepO (.box cs) (some (Value.pointer (some ⟨b, 0, none⟩))) (.box cs') (some (Value.pointer (some ⟨b, 0, none⟩))) := .inr ⟨⟨_, rfl⟩, rfl⟩
  have hK : Keep (own :: Ω) (bo :: bΩ) (setO (own :: Ω) (0, j) (.box cs')) (setO (bo :: bΩ) (0, j) (.pointer (some ⟨b, 0, none⟩))) := by
    intro k1 o1 e1
    by_cases e : k1 = (0, j)
    · subst e
      rw [hg0] at e1; cases e1
      exact ⟨_, getO_setO_eq _ _ _ _ hg0, by rw [hbo, getO_setO_eq _ _ _ _ hbo]; exact hko⟩
    · exact ⟨o1, (getO_setO_ne _ _ _ _ (Ne.symm e)).trans e1, by rw [getO_setO_ne _ _ _ _ (Ne.symm e)]; exact .refl _ _⟩
  obtain ⟨hS2, hk2, hst2⟩ := hS.set (w' := w) (σ' := σ) (o' := .box cs') (h' := .pointer (some ⟨b, 0, none⟩)) hg0 hbo (Nat.le_refl _) rfl rfl (Near.refl _ _) hS.live (fun _ _ _ => ⟨rfl, rfl⟩) hko
    ⟨b, cv, ty, rfl, hbc, hσ, by
      have h1 := hle.reps hcs
      refine ⟨h1.1, fun m x hm => ?_⟩
      obtain ⟨u, hu, hc, ho⟩ := h1.2 m x hm
      exact ⟨u, hu, hc.mono (Near.refl _ _) hK, ho⟩⟩ (fun _ e => .inl e)
  have est : setO (own :: Ω) (0, j) (.box cs') = (own.set j (.box cs')) :: Ω := rfl
  rw [est] at hS2 hk2 hst2
  exact ⟨_, hS2, hst2, hk2, rfl, by simp [setO]⟩
theorem boxless_ghost {tm : List (Nat × V)} {own : List Obj} {Ω : Store} (j : Nat) (cs cs' : List C) (hj : own[j]? = some (.box cs)) (hle : CellsLe cs cs') : Ghost N ⟨tm, own :: Ω⟩ ⟨tm, (own.set j (.box cs')) :: Ω⟩ := by
  intro a w σ β hR
  obtain ⟨β', hS, hst, hk, ht, _⟩ := box_less j cs cs' hj hle hR.S
  refine ⟨σ, β', ⟨hR.size, hR.defers, hS, fun u => (hR.T u).mono (Near.refl _ _) hk⟩, hst, ?_⟩
  rw [ht]; exact Keep.refl _ _
theorem boxtok_ghost {tm : List (Nat × V)} {own : List Obj} {Ω : Store} (lab : Option Nat) (j i esz : Nat) (es : List (List D)) (cs : List C) (hj : own[j]? = some (.box cs)) (hi : cs[i]? = some (match lab with | some n => .lfl n es | none => .fsl es)) (hes : ∀ e ∈ es, e.length = esz) :
    Ghost N ⟨tm, own :: Ω⟩ ⟨tm, (own.set j (.box (cs.set i (.tsl (0, own.length) es))) ++ [tokO lab esz es]) :: Ω⟩ := by
  intro a w σ β hR
  obtain ⟨β', hS, hst, hk⟩ := box_tok lab j i esz es cs hj hi hes hR.S
  refine ⟨σ, β', ⟨hR.size, hR.defers, hS, fun u => (hR.T u).mono (Near.refl _ _) hk⟩, hst, ?_⟩
  intro k o hko
  obtain ⟨o', h1, h2⟩ := hk (k.1 + 1, k.2) o (by
    obtain ⟨l, i⟩ := k
    show getO (own :: Ω) (l + 1, i) = _
    rw [getO_succ]; exact hko)
  obtain ⟨bo, bΩ, rfl, _⟩ := frames hR
  have h3 := hS.shape.1
  cases β' with
  | nil => simp at h3
  | cons bo' bΩ' =>
    rw [getO_succ] at h1
    rw [getO_succ, getO_succ] at h2
    exact ⟨o', h1, h2⟩
theorem aw_boxless {c : Code} {Q : Exit → St → Prop} {tm : List (Nat × V)} {own : List Obj} {Ω : Store} (j : Nat) (cs cs' : List C) (hj : own[j]? = some (.box cs)) (hle : CellsLe cs cs') (h : AW P N c Q ⟨tm, (own.set j (.box cs')) :: Ω⟩) : AW P N c Q ⟨tm, own :: Ω⟩ := aw_ghost h (boxless_ghost j cs cs' hj hle)
theorem cells_set {x y : C} (hle : CellLe x y) : ∀ (i : Nat) (cs : List C), cs[i]? = some x → CellsLe cs (cs.set i y)
  | 0, [], h => by simp at h
  | 0, z :: cs, h => by simp at h; subst h; exact .cons hle (.refl cs)
  | i + 1, [], h => by simp at h
  | i + 1, z :: cs, h => .cons (.refl z) (cells_set hle i cs (by simpa using h))
theorem aw_boxltok {c : Code} {Q : Exit → St → Prop} {tm : List (Nat × V)} {own : List Obj} {Ω : Store} (n j i esz : Nat) (cs : List C) (hj : own[j]? = some (.box cs)) (hi : cs[i]? = some (.fsl []))
    (h : AW P N c Q ⟨tm, (own.set j (.box (cs.set i (.tsl (0, own.length) []))) ++ [.ltok n esz []]) :: Ω⟩) : AW P N c Q ⟨tm, own :: Ω⟩ := by
  have hjl := (List.getElem?_eq_some_iff.1 hj).1
  have hil := (List.getElem?_eq_some_iff.1 hi).1
  refine aw_boxless j cs (cs.set i (.lfl n [])) hj (cells_set (cell_nil_lfl n) i cs hi) ?_
  refine aw_ghost ?_ (boxtok_ghost (some n) j i esz [] (cs.set i (.lfl n [])) (by rw [List.getElem?_set_self hjl]) (by rw [List.getElem?_set_self hil]) (by simp))
  rw [List.set_set, List.set_set, List.length_set]
  exact h
theorem aw_boxtok {c : Code} {Q : Exit → St → Prop} {tm : List (Nat × V)} {own : List Obj} {Ω : Store} (j i esz : Nat) (cs : List C) (hj : own[j]? = some (.box cs)) (hi : cs[i]? = some (.fsl []))
    (h : AW P N c Q ⟨tm, (own.set j (.box (cs.set i (.tsl (0, own.length) []))) ++ [.tok esz []]) :: Ω⟩) : AW P N c Q ⟨tm, own :: Ω⟩ :=
  aw_ghost h (boxtok_ghost none j i esz [] cs hj hi (by simp))
def DLe (x y : D) : Prop := ∀ w σ v, RepD w σ x v → RepD w σ y v
theorem DLe.refl (x : D) : DLe x x := fun _ _ _ h => h
theorem dle_lab (d : D) (n : Nat) : DLe (labD d n) d := fun w σ v h => er_D d n v h
inductive RowLe : List D → List D → Prop
  | nil : RowLe [] []
  | cons {x y : D} {xs ys : List D} : DLe x y → RowLe xs ys → RowLe (x :: xs) (y :: ys)
theorem RowLe.refl : ∀ r, RowLe r r
  | [] => .nil
  | x :: xs => .cons (.refl x) (RowLe.refl xs)
theorem RowLe.length : ∀ {r r' : List D}, RowLe r r' → r.length = r'.length
  | _, _, .nil => rfl
  | _, _, .cons _ h => by rw [List.length_cons, List.length_cons, h.length]
theorem RowLe.at : ∀ {r r' : List D}, RowLe r r' → ∀ (j : Nat) (y : D), r'[j]? = some y → ∃ x, r[j]? = some x ∧ DLe x y
  | _, _, .nil, j, y, h => by simp at h
  | _, _, .cons a h, 0, y, h2 => by simp at h2; subst h2; exact ⟨_, rfl, a⟩
  | _, _, .cons a h, j + 1, y, h2 => h.at j y (by simpa using h2)
theorem RowLe.append : ∀ {a a' b b' : List D}, RowLe a a' → RowLe b b' → RowLe (a ++ b) (a' ++ b')
  | _, _, _, _, .nil, h => h
  | _, _, _, _, .cons x h, k => .cons x (h.append k)
inductive RowsLe : List (List D) → List (List D) → Prop
  | nil : RowsLe [] []
  | cons {x y : List D} {xs ys : List (List D)} : RowLe x y → RowsLe xs ys → RowsLe (x :: xs) (y :: ys)
theorem RowsLe.length : ∀ {r r' : List (List D)}, RowsLe r r' → r.length = r'.length
  | _, _, .nil => rfl
  | _, _, .cons _ h => by rw [List.length_cons, List.length_cons, h.length]
theorem RowsLe.snoc : ∀ {a b : List (List D)} {x y : List D}, RowsLe a b → RowLe x y → RowsLe (a ++ [x]) (b ++ [y])
  | _, _, _, _, .nil, h => .cons h .nil
  | _, _, _, _, .cons z h, k => .cons z (h.snoc k)
theorem RowsLe.rows {z : Nat} : ∀ {a b : List (List D)}, RowsLe a b → (∀ r ∈ b, r.length = z) → ∀ r ∈ a, r.length = z
  | _, _, .nil, h, r, hr => by cases hr
  | _, _, .cons x h, k, r, hr => by
    rcases List.mem_cons.1 hr with rfl | hr
    · rw [x.length]; exact k _ (by simp)
    · exact h.rows (fun r hr => k r (by simp [hr])) r hr
theorem RowsLe.flat : ∀ {a b : List (List D)}, RowsLe a b → RowLe a.flatten b.flatten
  | _, _, .nil => .nil
  | _, _, .cons x h => by rw [List.flatten_cons, List.flatten_cons]; exact x.append h.flat
theorem RowsLe.rep {a b : List (List D)} (h : RowsLe a b) {w : World} {σ : Nat → Nat} {v : Value} (hr : RepD w σ (.sl a) v) : RepD w σ (.sl b) v := by
  cases hr with
  | nil ad cap =>
    cases h
    exact .nil ad cap
  | sl b0 off cap esz es vals c t fz hcap hlen hb hσ hc hv =>
    have hl := h.length
    rw [hl] at hcap hσ hc ⊢
    have hlb : ∀ e ∈ b, e.length = esz := fun e he => by
      obtain ⟨i, hi, rfl⟩ := List.getElem_of_mem he
      have : ∀ {a b : List (List D)} (h : RowsLe a b) (i : Nat) (hi : i < b.length) (hi' : i < a.length), RowLe a[i] b[i] := by
        intro a b h
        induction h with
        | nil => intro i hi; simp at hi
        | cons x h ih => intro i hi hi'; cases i with
          | zero => exact x
          | succ i => exact ih i (by simpa using hi) (by simpa using hi')
      have h1 := this h i hi (by omega)
      rw [← h1.length]; exact hlen _ (List.getElem_mem _)
    refine .sl b0 off cap esz b vals c t fz hcap hlb hb hσ hc fun j d hd => ?_
    obtain ⟨x, hx, hle⟩ := h.flat.at j d hd
    exact hle w σ _ (hv j x hx)
inductive CompsLe : List (Bool × List C) → List (Bool × List C) → Prop
  | nil : CompsLe [] []
  | cons {b : Bool} {cs cs' : List C} {xs ys : List (Bool × List C)} : CellsLe cs cs' → CompsLe xs ys → CompsLe ((b, cs) :: xs) ((b, cs') :: ys)
theorem CompsLe.refl : ∀ xs, CompsLe xs xs
  | [] => .nil
  | (b, cs) :: xs => .cons (.refl cs) (CompsLe.refl xs)
theorem CompsLe.length : ∀ {xs ys : List (Bool × List C)}, CompsLe xs ys → xs.length = ys.length
  | _, _, .nil => rfl
  | _, _, .cons _ h => by rw [List.length_cons, List.length_cons, h.length]
theorem CompsLe.at : ∀ {xs ys : List (Bool × List C)}, CompsLe xs ys → ∀ (j : Nat) (y : Bool × List C), ys[j]? = some y → ∃ cs, xs[j]? = some (y.1, cs) ∧ CellsLe cs y.2
  | _, _, .nil, j, y, h => by simp at h
  | _, _, .cons a h, 0, y, h2 => by simp at h2; subst h2; exact ⟨_, rfl, a⟩
  | _, _, .cons a h, j + 1, y, h2 => h.at j y (by simpa using h2)
theorem CompsLe.less {xs ys : List (Bool × List C)} (h : CompsLe xs ys) : Less (.tup xs) (.tup ys) := by
  rintro w σ S β v ⟨a, ha, hl, hc⟩
  refine ⟨a, ha, h.length.symm.trans hl, fun j y hy => ?_⟩
  obtain ⟨cs, h1, h2⟩ := h.at j y hy
  obtain ⟨u, hu, hr⟩ := hc j _ h1
  refine ⟨u, hu, ?_⟩
  obtain ⟨b, cs'⟩ := y
  cases b with
  | true =>
    obtain ⟨a', e, hcs⟩ := hr
    exact ⟨a', e, h2.reps hcs⟩
  | false =>
    obtain ⟨x, e, hx, ho⟩ := hr
    simp only at e h2
    subst e
    cases h2 with
    | cons hxy hn =>
      cases hn
      exact ⟨_, rfl, hxy w σ S β u hx, ho⟩
theorem PCall.of_le {f : FuncId} {args : List V} {t : V} (h : ∀ S, ACall P f args S fun r S' => Less r t ∧ S' = S) : PCall P f args t := fun S =>
  ⟨(h S).1, fun w σ β vs hS hv => ((h S).2 w σ β vs hS hv).mono fun e w' ⟨v, r, S', σ', β', h1, h2, h3, h4, h5, h6, h7⟩ => ⟨v, t, S', σ', β', h1, h2, h3, h4, h6 _ _ _ _ _ h5, rfl, h7⟩⟩
theorem tup1_less {cs cs' : List C} {xs : List (Bool × List C)} (h : ∀ w σ S β vs, RepCs w σ S β cs vs → RepCs w σ S β cs' vs) : Less (.tup ((true, cs) :: xs)) (.tup ((true, cs') :: xs)) := by
  rintro w σ S β v ⟨a, ha, hl, hc⟩
  obtain ⟨u, hu, a', rfl, hcs⟩ := hc 0 _ rfl
  refine ⟨a, ha, hl, fun j y hy => ?_⟩
  cases j with
  | zero =>
    simp at hy; subst hy
    exact ⟨_, hu, a', rfl, h _ _ _ _ _ hcs⟩
  | succ j => exact hc (j + 1) y (by simpa using hy)
theorem less_refl (v : V) : Less v v := fun _ _ _ _ _ h => h
end
end Go.Ab

