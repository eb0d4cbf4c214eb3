/-
  SEVERAL TEXTS IN ONE (merged by program): contracts and models, each with its own heading.
-/
import Derived.Test.YtlmhknhlmicmeaaGreatDoorPartRlbC
import Derived.Lib.ItoaNum
import Derived.Lib.Atoi
import Derived.Shelf.LaysM
import Derived.Shelf.Strconv.Itoa3
import Derived.Test.YtlmhknhlmicmeaaGreatDoorProg
set_option linter.unusedSimpArgs false
set_option linter.unusedVariables false
set_option maxRecDepth 4000
namespace Go.Proofs.YtlmhknhlmicmeaaGreatDoor
open Go Go.Ab
theorem arg_sz {x : MType} {i : Nat} (hi : i < x.fArgs.length) (h : x.sz ≤ 4194304) : x.fArgs[i].sz ≤ 4194304 ∧ x.fArgs.length ≤ 4194304 ∧ x.fName.length ≤ 4194304 := by
  have hx : x.fArgs[i].sz ≤ szRows (x.fArgs.map MType.enc) := szRows_mem (List.mem_map_of_mem (List.getElem_mem hi))
  simp only [MType.sz, MType.enc_eq, szRow, D.sz, List.length_map] at h
  omega
theorem ty_sz {x : MType} (h : x.sz ≤ 4194304) : x.fArgs.length ≤ 4194304 ∧ x.fName.length ≤ 4194304 := by
  simp only [MType.sz, MType.enc_eq, szRow, D.sz, List.length_map] at h
  omega
theorem cnts_drop : ∀ {ts : List MType} {i : Nat} (hi : i < ts.length), MType.cnts (ts.drop i) = ts[i].cnt + MType.cnts (ts.drop (i + 1)) := fun {ts} {i} hi => by
  rw [List.drop_eq_getElem_cons hi, MType.cnts]
theorem depths_drop : ∀ {ts : List MType} {i : Nat} (hi : i < ts.length), depths (ts.drop i) = max (depthT ts[i] + 1) (depths (ts.drop (i + 1))) := fun {ts} {i} hi => by
  rw [List.drop_eq_getElem_cons hi, depths]
theorem formeds_drop : ∀ {ts : List MType} {i : Nat} (hi : i < ts.length), formeds (ts.drop i) = (formed ts[i] && formeds (ts.drop (i + 1))) := fun {ts} {i} hi => by
  rw [List.drop_eq_getElem_cons hi, formeds]
theorem l4Left_all : ∀ n : Nat, ∀ x : MType, SizeOf.sizeOf x < n → ∀ l : Int, 0 ≤ l → l ≤ 1073741824 → x.sz ≤ 4194304 → PCall Tryz.prog 323 [x.v, .c (.d (.i .i64 l))] (.c (.d (.i .i64 (sub1 l x.cnt))))
  | 0 => fun x h => by omega
  | n + 1 => by
    have ih := l4Left_all n
    intro x hn l h0 h1 hsz S
    have lArgs := MType.lt_Args x
    have hts := ty_sz hsz
    have hcn := MType.cnt_eq x
    refine acall_cw (rs := [.tmp 4]) Tryz.checked.mixed Tryz.func323 Tryz.ntmps323 rfl rfl rfl rfl rfl ?_
    simp -implicitDefEqProofs (disch := omega) only [go_sem]
    refine loop_at (ι := Nat × Int) Tryz.checked.mixed rfl [1, 2, 5] (fun y => [.c (.d (.i .i64 y.2)), .c (.ptr (0, 0) 0), .c (.d (.i .i64 y.1))]) (fun y => [.box [.d (.i .i64 x.fKind), .d (.s x.fName), .d (.sl (x.fArgs.map MType.enc))]] :: S)
      (fun y => y.1 ≤ x.fArgs.length ∧ -1 ≤ y.2 ∧ y.2 ≤ 1073741824 ∧ (0 ≤ y.2 → sub1 l x.cnt = sub1 y.2 (MType.cnts (x.fArgs.drop y.1))) ∧ (y.2 < 0 → sub1 l x.cnt = -1)) (fun y => x.fArgs.length - y.1) (0, l - 1) rfl rfl ⟨Nat.zero_le _, by simp only; omega, by simp only; omega, fun h => ?_, fun h => ?_⟩ ?_
    · simp only [List.drop_zero] at h ⊢
      unfold sub1
      rw [hcn]
      split <;> split <;> omega
    · simp only at h
      exact sub1_no (by omega)
    rintro ⟨i, c⟩ ⟨p1, p2, p3, p4, p5⟩
    simp only at p1 p2 p3 p4 p5
    simp -implicitDefEqProofs (disch := omega) only [go_sem]
    with_reducible refine split2 (fun hb => ?_) (fun hb => ?_) <;> have h := hb <;> (try simp only [wf_preprocess] at h) <;> simp -implicitDefEqProofs (disch := omega) only [go_sem, hb] <;> (repeat (with_reducible refine And.intro ?_ ?_; focus first | omega | rfl | assumption | exact ⟨_, rfl, rfl⟩ | (simp; omega) | (simp; done)))
    · have hi : i < x.fArgs.length := by omega
      with_reducible refine split2 (fun hb => ?_) (fun hb => ?_) <;> have h := hb <;> (try simp only [wf_preprocess] at h) <;> simp -implicitDefEqProofs (disch := omega) only [go_sem, hb] <;> (repeat (with_reducible refine And.intro ?_ ?_; focus first | omega | rfl | assumption | exact ⟨_, rfl, rfl⟩ | (simp; omega) | (simp; done)))
      · have hsz' := arg_sz hi hsz
        have p6 := p4 h
        rw [cnts_drop hi] at p6
        (repeat (with_reducible refine And.intro ?_ ?_; focus first | omega | rfl | assumption | exact ⟨_, rfl, rfl⟩ | (simp; omega) | (simp; done)))
        refine call_w (ih x.fArgs[i] (by have := List.sizeOf_lt_of_mem (List.getElem_mem hi); omega) c (by omega) (by omega) (by omega)) ?_
        simp -implicitDefEqProofs (disch := omega) only [go_sem] <;> (repeat (with_reducible refine And.intro ?_ ?_; focus first | omega | rfl | assumption | exact ⟨_, rfl, rfl⟩ | (simp; omega) | (simp; done)))
        refine inv_at (i + 1, sub1 c _) (by simp only; omega) rfl rfl ⟨by simp only; omega, ?_, ?_, fun h => ?_, fun h => ?_⟩
        · simp only; unfold sub1; split <;> omega
        · simp only; unfold sub1; split <;> omega
        · simp only at h ⊢
          rw [p6]
          have := sub1_nn (l := c) (a := x.fArgs[i].cnt) (by omega)
          rw [this.1]
          unfold sub1
          split <;> split <;> omega
        · simp only at h ⊢
          rw [p6]
          have := sub1_neg h
          exact sub1_no (by omega)
      · have hc : c = -1 := by omega
        rw [p5 (by omega), hc]
    · have hi : i = x.fArgs.length := by omega
      by_cases hc : 0 ≤ c
      · rw [p4 hc, hi, List.drop_length, MType.cnts, sub1_yes (by omega)]
        exact int_eq (by simp)
      · rw [p5 (by omega)]
        exact int_eq (by omega)
theorem l4Left_ok (x : MType) (l : Int) (h0 : 0 ≤ l) (h1 : l ≤ 1073741824) (hsz : x.sz ≤ 4194304) : PCall Tryz.prog 323 [x.v, .c (.d (.i .i64 l))] (.c (.d (.i .i64 (sub1 l x.cnt)))) := l4Left_all _ x (Nat.lt_succ_self _) l h0 h1 hsz
theorem l1Max_ok (a b : Int) : PCall Tryz.prog 276 [.c (.d (.i .i64 a)), .c (.d (.i .i64 b))] (.c (.d (.i .i64 (max a b)))) := fun S => by
  refine acall_cw (rs := [.tmp 4]) Tryz.checked.mixed Tryz.func276 Tryz.ntmps276 rfl rfl rfl rfl rfl ?_
  simp -implicitDefEqProofs (disch := omega) only [go_sem]
  with_reducible refine split2 (fun hb => ?_) (fun hb => ?_) <;> have h := hb <;> (try simp only [wf_preprocess] at h) <;> simp -implicitDefEqProofs (disch := omega) only [go_sem, hb] <;> (repeat (with_reducible refine And.intro ?_ ?_; focus first | omega | rfl | assumption | exact ⟨_, rfl, rfl⟩ | (simp; omega) | (simp; done)))
  · exact int_eq (by omega)
  · exact int_eq (by omega)
theorem specDepth_all : ∀ n : Nat, ∀ x : MType, SizeOf.sizeOf x < n → x.sz ≤ 4194304 → PCall Tryz.prog 324 [x.v] (.c (.d (.i .i64 (depthT x))))
  | 0 => fun x h => by omega
  | n + 1 => by
    have ih := specDepth_all n
    intro x hn hsz S
    have lArgs := MType.lt_Args x
    have hts := ty_sz hsz
    have hd1 := depthT_le x
    have hd2 := cnt_le x
    refine acall_cw (rs := [.tmp 2]) Tryz.checked.mixed Tryz.func324 Tryz.ntmps324 rfl rfl rfl rfl rfl ?_
    simp -implicitDefEqProofs (disch := omega) only [go_sem]
    refine loop_at (ι := Nat × Nat) Tryz.checked.mixed rfl [1, 3, 4] (fun y => [.c (.ptr (0, 0) 0), .c (.d (.i .i64 y.2)), .c (.d (.i .i64 y.1))]) (fun y => [.box [.d (.i .i64 x.fKind), .d (.s x.fName), .d (.sl (x.fArgs.map MType.enc))]] :: S)
      (fun y => y.1 ≤ x.fArgs.length ∧ depthT x = max y.2 (depths (x.fArgs.drop y.1))) (fun y => x.fArgs.length - y.1) (0, 0) rfl rfl ⟨Nat.zero_le _, by simp [depthT_eq]⟩ ?_
    rintro ⟨i, c⟩ ⟨p1, p2⟩
    simp only at p1 p2
    simp -implicitDefEqProofs (disch := omega) only [go_sem]
    with_reducible refine split2 (fun hb => ?_) (fun hb => ?_) <;> have h := hb <;> (try simp only [wf_preprocess] at h) <;> simp -implicitDefEqProofs (disch := omega) only [go_sem, hb] <;> (repeat (with_reducible refine And.intro ?_ ?_; focus first | omega | rfl | assumption | exact ⟨_, rfl, rfl⟩ | (simp; omega) | (simp; done)))
    · have hi : i < x.fArgs.length := by omega
      have hsz' := arg_sz hi hsz
      rw [depths_drop hi] at p2
      have hd3 := depthT_le x.fArgs[i]
      have hd4 := cnt_le x.fArgs[i]
      (repeat (with_reducible refine And.intro ?_ ?_; focus first | omega | rfl | assumption | exact ⟨_, rfl, rfl⟩ | (simp; omega) | (simp; done)))
      refine call_w (ih x.fArgs[i] (by have := List.sizeOf_lt_of_mem (List.getElem_mem hi); omega) (by omega)) ?_
      simp -implicitDefEqProofs (disch := omega) only [go_sem] <;> (repeat (with_reducible refine And.intro ?_ ?_; focus first | omega | rfl | assumption | exact ⟨_, rfl, rfl⟩ | (simp; omega) | (simp; done)))
      refine call_w (l1Max_ok _ _) ?_
      simp -implicitDefEqProofs (disch := omega) only [go_sem] <;> (repeat (with_reducible refine And.intro ?_ ?_; focus first | omega | rfl | assumption | exact ⟨_, rfl, rfl⟩ | (simp; omega) | (simp; done)))
      rw [show max (c : Int) (1 + (depthT x.fArgs[i] : Int)) = ((max c (1 + depthT x.fArgs[i]) : Nat) : Int) by omega]
      exact inv_at (i + 1, max c (1 + depthT x.fArgs[i])) (by simp only; omega) rfl rfl ⟨by simp only; omega, by simp only; omega⟩
    · have hi : i = x.fArgs.length := by omega
      rw [hi, List.drop_length, depths] at p2
      exact int_eq (by omega)
theorem specDepth_ok (x : MType) (hsz : x.sz ≤ 4194304) : PCall Tryz.prog 324 [x.v] (.c (.d (.i .i64 (depthT x)))) := specDepth_all _ x (Nat.lt_succ_self _) hsz
theorem implDepth_all : ∀ n : Nat, ∀ x : MType, SizeOf.sizeOf x < n → x.sz ≤ 4194304 → PCall Tryz.prog 336 [x.v] (.c (.d (.i .i64 (depthT x))))
  | 0 => fun x h => by omega
  | n + 1 => by
    have ih := implDepth_all n
    intro x hn hsz S
    have lArgs := MType.lt_Args x
    have hts := ty_sz hsz
    have hd1 := depthT_le x
    have hd2 := cnt_le x
    refine acall_cw (rs := [.tmp 2]) Tryz.checked.mixed Tryz.func336 Tryz.ntmps336 rfl rfl rfl rfl rfl ?_
    simp -implicitDefEqProofs (disch := omega) only [go_sem]
    refine loop_at (ι := Nat × Nat) Tryz.checked.mixed rfl [3, 7, 8, 9] (fun y => [.c (.d (.i .i64 y.2)), .c (.d (.sl (x.fArgs.map MType.enc))), .c (.d (.i .i64 x.fArgs.length)), .c (.d (.i .i64 y.1))]) (fun y => [.box [.d (.i .i64 x.fKind), .d (.s x.fName), .d (.sl (x.fArgs.map MType.enc))]] :: S)
      (fun y => y.1 ≤ x.fArgs.length ∧ depthT x = max y.2 (depths (x.fArgs.drop y.1))) (fun y => x.fArgs.length - y.1) (0, 0) rfl rfl ⟨Nat.zero_le _, by simp [depthT_eq]⟩ ?_
    rintro ⟨i, c⟩ ⟨p1, p2⟩
    simp only at p1 p2
    simp -implicitDefEqProofs (disch := omega) only [go_sem]
    with_reducible refine split2 (fun hb => ?_) (fun hb => ?_) <;> have h := hb <;> (try simp only [wf_preprocess] at h) <;> simp -implicitDefEqProofs (disch := omega) only [go_sem, hb] <;> (repeat (with_reducible refine And.intro ?_ ?_; focus first | omega | rfl | assumption | exact ⟨_, rfl, rfl⟩ | (simp; omega) | (simp; done)))
    · have hi : i < x.fArgs.length := by omega
      have hsz' := arg_sz hi hsz
      rw [depths_drop hi] at p2
      have hd3 := depthT_le x.fArgs[i]
      have hd4 := cnt_le x.fArgs[i]
      (repeat (with_reducible refine And.intro ?_ ?_; focus first | omega | rfl | assumption | exact ⟨_, rfl, rfl⟩ | (simp; omega) | (simp; done)))
      refine call_w (ih x.fArgs[i] (by have := List.sizeOf_lt_of_mem (List.getElem_mem hi); omega) (by omega)) ?_
      simp -implicitDefEqProofs (disch := omega) only [go_sem] <;> (repeat (with_reducible refine And.intro ?_ ?_; focus first | omega | rfl | assumption | exact ⟨_, rfl, rfl⟩ | (simp; omega) | (simp; done)))
      rw [show max (c : Int) ((depthT x.fArgs[i] : Int) + 1) = ((max c (depthT x.fArgs[i] + 1) : Nat) : Int) by omega]
      exact inv_drop 1 (by decide) (i + 1, max c (depthT x.fArgs[i] + 1)) (by simp only; omega) rfl rfl rfl rfl ⟨by simp only; omega, by simp only; omega⟩
    · have hi : i = x.fArgs.length := by omega
      rw [hi, List.drop_length, depths] at p2
      exact int_eq (by omega)
theorem implDepth_ok (x : MType) (hsz : x.sz ≤ 4194304) : PCall Tryz.prog 336 [x.v] (.c (.d (.i .i64 (depthT x)))) := implDepth_all _ x (Nat.lt_succ_self _) hsz
theorem typeSize_all : ∀ n : Nat, ∀ x : MType, SizeOf.sizeOf x < n → x.sz ≤ 4194304 → PCall Tryz.prog 337 [x.v] (.c (.d (.i .i64 x.cnt)))
  | 0 => fun x h => by omega
  | n + 1 => by
    have ih := typeSize_all n
    intro x hn hsz S
    have lArgs := MType.lt_Args x
    have hts := ty_sz hsz
    have hd2 := cnt_le x
    refine acall_cw (rs := [.tmp 2]) Tryz.checked.mixed Tryz.func337 Tryz.ntmps337 rfl rfl rfl rfl rfl ?_
    simp -implicitDefEqProofs (disch := omega) only [go_sem]
    refine loop_at (ι := Nat × Nat) Tryz.checked.mixed rfl [3, 7, 8, 9] (fun y => [.c (.d (.i .i64 y.2)), .c (.d (.sl (x.fArgs.map MType.enc))), .c (.d (.i .i64 x.fArgs.length)), .c (.d (.i .i64 y.1))]) (fun y => [.box [.d (.i .i64 x.fKind), .d (.s x.fName), .d (.sl (x.fArgs.map MType.enc))]] :: S)
      (fun y => y.1 ≤ x.fArgs.length ∧ x.cnt = y.2 + MType.cnts (x.fArgs.drop y.1)) (fun y => x.fArgs.length - y.1) (0, 1) rfl rfl ⟨Nat.zero_le _, by simp [MType.cnt_eq]⟩ ?_
    rintro ⟨i, c⟩ ⟨p1, p2⟩
    simp only at p1 p2
    simp -implicitDefEqProofs (disch := omega) only [go_sem]
    with_reducible refine split2 (fun hb => ?_) (fun hb => ?_) <;> have h := hb <;> (try simp only [wf_preprocess] at h) <;> simp -implicitDefEqProofs (disch := omega) only [go_sem, hb] <;> (repeat (with_reducible refine And.intro ?_ ?_; focus first | omega | rfl | assumption | exact ⟨_, rfl, rfl⟩ | (simp; omega) | (simp; done)))
    · have hi : i < x.fArgs.length := by omega
      have hsz' := arg_sz hi hsz
      rw [cnts_drop hi] at p2
      (repeat (with_reducible refine And.intro ?_ ?_; focus first | omega | rfl | assumption | exact ⟨_, rfl, rfl⟩ | (simp; omega) | (simp; done)))
      refine call_w (ih x.fArgs[i] (by have := List.sizeOf_lt_of_mem (List.getElem_mem hi); omega) (by omega)) ?_
      simp -implicitDefEqProofs (disch := omega) only [go_sem] <;> (repeat (with_reducible refine And.intro ?_ ?_; focus first | omega | rfl | assumption | exact ⟨_, rfl, rfl⟩ | (simp; omega) | (simp; done)))
      rw [show (c : Int) + (x.fArgs[i].cnt : Int) = ((c + x.fArgs[i].cnt : Nat) : Int) by omega]
      exact inv_drop 1 (by decide) (i + 1, c + x.fArgs[i].cnt) (by simp only; omega) rfl rfl rfl rfl ⟨by simp only; omega, by simp only; omega⟩
    · have hi : i = x.fArgs.length := by omega
      rw [hi, List.drop_length, MType.cnts] at p2
      exact int_eq (by omega)
theorem typeSize_ok (x : MType) (hsz : x.sz ≤ 4194304) : PCall Tryz.prog 337 [x.v] (.c (.d (.i .i64 x.cnt))) := typeSize_all _ x (Nat.lt_succ_self _) hsz
theorem isFormed_all : ∀ n : Nat, (∀ x : MType, SizeOf.sizeOf x < n → x.sz ≤ 4194304 → PCall Tryz.prog 335 [x.v] (.c (.d (.b (formed x))))) ∧
    (∀ xs : List MType, SizeOf.sizeOf xs < n → xs.length ≤ 4194304 → (∀ t ∈ xs, t.sz ≤ 4194304) → PCall Tryz.prog 293 [.c (.d (.sl (xs.map MType.enc))), .c (.fn 352 [])] (.c (.d (.b (!formeds xs)))))
  | 0 => ⟨fun x h => by omega, fun x h => by omega⟩
  | n + 1 => by
    obtain ⟨ih, ihS⟩ := isFormed_all n
    refine ⟨fun x hn hsz S => ?_, fun xs hn hlen hsz S => ?_⟩
    · have lArgs := MType.lt_Args x
      have hts := ty_sz hsz
      have fin : ∀ b, fineT x.fKind x.fName x.fArgs.length = b → formed x = (b && formeds x.fArgs) := fun b hb => by rw [← hb]; exact formed_eq x
      have hall : ∀ t ∈ x.fArgs, t.sz ≤ 4194304 := fun t ht => by
        obtain ⟨i, hi, e⟩ := List.getElem_of_mem ht
        rw [← e]; exact (arg_sz hi hsz).1
      have tail := ihS x.fArgs (by omega) hts.1 hall
      have yes : fineT x.fKind x.fName x.fArgs.length = true → formed x = !(!formeds x.fArgs) := fun h => by rw [fin _ h]; simp
      have no : fineT x.fKind x.fName x.fArgs.length = false → formed x = false := fun h => by rw [fin _ h]; simp
      have shut : ¬ ((x.fKind = 1 ∨ x.fKind = 4) ∧ validName x.fName = true ∧ x.fArgs.length = 0 ∨ x.fKind = 3 ∧ validName x.fName = true ∧ x.fArgs.length = 1 ∨ x.fKind = 2 ∧ (validName x.fName = true ∧ x.fArgs.length ≤ 3 ∨ builtInB x.fName = true ∧ x.fArgs.length = 0)) → V.c (.d (.b false)) = V.c (.d (.b (formed x))) := fun h => bool_eq (no (dec_false h)).symm
      have open_ : ((x.fKind = 1 ∨ x.fKind = 4) ∧ validName x.fName = true ∧ x.fArgs.length = 0 ∨ x.fKind = 3 ∧ validName x.fName = true ∧ x.fArgs.length = 1 ∨ x.fKind = 2 ∧ (validName x.fName = true ∧ x.fArgs.length ≤ 3 ∨ builtInB x.fName = true ∧ x.fArgs.length = 0)) → V.c (.d (.b (!(!formeds x.fArgs)))) = V.c (.d (.b (formed x))) := fun h => bool_eq (yes (dec_true h)).symm
      clear yes no fin
      refine acall_cw (rs := [.tmp 2]) Tryz.checked.mixed Tryz.func335 Tryz.ntmps335 rfl rfl rfl rfl rfl ?_
      simp -implicitDefEqProofs (disch := omega) only [go_sem]
      repeat' (first
        | (with_reducible refine split2 (fun hb => ?_) (fun hb => ?_) <;> have h := hb <;> (try simp only [wf_preprocess] at h) <;> simp -implicitDefEqProofs (disch := omega) only [go_sem, hb] <;> (repeat (with_reducible refine And.intro ?_ ?_; focus first | omega | rfl | assumption | exact ⟨_, rfl, rfl⟩ | (simp; omega) | (simp; done))))
        | (refine call_w (implValidName_ok x.fName (by omega)) ?_; simp -implicitDefEqProofs (disch := omega) only [go_sem])
        | (refine call_w (isBuiltIn_ok x.fName) ?_; simp -implicitDefEqProofs (disch := omega) only [go_sem])
        | (refine call_w tail ?_; simp -implicitDefEqProofs (disch := omega) only [go_sem]))
      all_goals first
        | (refine shut (fun y => ?_); rcases y with ⟨_, _, _⟩ | ⟨_, _, _⟩ | ⟨_, ⟨_, _⟩ | ⟨_, _⟩⟩ <;> first | omega | (simp_all; done))
        | (refine open_ ?_; first
            | exact .inl ⟨by omega, by assumption, by omega⟩
            | exact .inr (.inl ⟨by omega, by assumption, by omega⟩)
            | exact .inr (.inr ⟨by omega, .inl ⟨by assumption, by omega⟩⟩)
            | exact .inr (.inr ⟨by omega, .inr ⟨by assumption, by omega⟩⟩))
    · have hcl : ∀ y ∈ xs, PCall Tryz.prog 352 [y.v] (.c (.d (.b (!formed y)))) := fun y hy S => by
        have hys := List.sizeOf_lt_of_mem hy
        refine acall_cw (rs := [.tmp 2]) Tryz.checked.mixed Tryz.func352 Tryz.ntmps352 rfl rfl rfl rfl rfl ?_
        simp -implicitDefEqProofs (disch := omega) only [go_sem]
        refine call_w (ih y (by omega) (hsz y hy)) ?_
        simp -implicitDefEqProofs (disch := omega) only [go_sem] <;> (repeat (with_reducible refine And.intro ?_ ?_; focus first | omega | rfl | assumption | exact ⟨_, rfl, rfl⟩ | (simp; omega) | (simp; done)))
      have hidx : PCall Tryz.prog 334 [.c (.d (.sl (xs.map MType.enc))), .c (.fn 352 [])] (.c (.d (.i .i64 (indexP (fun y => !formed y) xs)))) := fun S => by
        refine acall_cw (rs := [.tmp 4]) Tryz.checked.mixed Tryz.func334 Tryz.ntmps334 rfl rfl rfl rfl rfl ?_
        simp -implicitDefEqProofs (disch := omega) only [go_sem]
        refine loop_at (ι := Nat) Tryz.checked.mixed rfl [0, 1, 7, 8] (fun i => [.c (.d (.sl (xs.map MType.enc))), .c (.fn 352 []), .c (.d (.i .i64 xs.length)), .c (.d (.i .i64 i))]) (fun _ => [] :: S)
          (fun i => i ≤ xs.length ∧ ∀ j, ∀ hj : j < xs.length, j < i → formed xs[j] = true) (fun i => xs.length - i) 0 rfl rfl ⟨Nat.zero_le _, fun j _ h => by omega⟩ ?_
        rintro i ⟨p1, p2⟩
        simp -implicitDefEqProofs (disch := omega) only [go_sem]
        with_reducible refine split2 (fun hb => ?_) (fun hb => ?_) <;> have h := hb <;> (try simp only [wf_preprocess] at h) <;> simp -implicitDefEqProofs (disch := omega) only [go_sem, hb] <;> (repeat (with_reducible refine And.intro ?_ ?_; focus first | omega | rfl | assumption | exact ⟨_, rfl, rfl⟩ | (simp; omega) | (simp; done)))
        · have hi : i < xs.length := by omega
          (repeat (with_reducible refine And.intro ?_ ?_; focus first | omega | rfl | assumption | exact ⟨_, rfl, rfl⟩ | (simp; omega) | (simp; done)))
          refine call_w (hcl xs[i] (List.getElem_mem hi)) ?_
          simp -implicitDefEqProofs (disch := omega) only [go_sem] <;> (repeat (with_reducible refine And.intro ?_ ?_; focus first | omega | rfl | assumption | exact ⟨_, rfl, rfl⟩ | (simp; omega) | (simp; done)))
          with_reducible refine split2 (fun hb => ?_) (fun hb => ?_) <;> have h := hb <;> (try simp only [wf_preprocess] at h) <;> simp -implicitDefEqProofs (disch := omega) only [go_sem, hb] <;> (repeat (with_reducible refine And.intro ?_ ?_; focus first | omega | rfl | assumption | exact ⟨_, rfl, rfl⟩ | (simp; omega) | (simp; done)))
          · rw [indexP_here hi (fun j hj hji => by rw [p2 j hj hji]; rfl) (by rw [h]; rfl)]
          · refine inv_at (i + 1) (by omega) rfl rfl ⟨by omega, fun j hj hji => ?_⟩
            by_cases e : j = i
            · subst e; exact h
            · exact p2 j hj (by omega)
        · rw [indexP_no (fun j hj => by rw [p2 j hj (by omega)]; rfl)]
      refine acall_cw (rs := [.tmp 4]) Tryz.checked.mixed Tryz.func293 Tryz.ntmps293 rfl rfl rfl rfl rfl ?_
      simp -implicitDefEqProofs (disch := omega) only [go_sem]
      refine call_w (hidx) ?_
      simp -implicitDefEqProofs (disch := omega) only [go_sem] <;> (repeat (with_reducible refine And.intro ?_ ?_; focus first | omega | rfl | assumption | exact ⟨_, rfl, rfl⟩ | (simp; omega) | (simp; done)))
      rw [← formeds_any]
      exact bool_eq indexP_pos
theorem isFormed_ok (x : MType) (hsz : x.sz ≤ 4194304) : PCall Tryz.prog 335 [x.v] (.c (.d (.b (formed x)))) := (isFormed_all _).1 x (Nat.lt_succ_self _) hsz
theorem implValidType_ok (x : MType) (hsz : x.sz ≤ 4194304) : PCall Tryz.prog 295 [x.v] (.c (.d (.b (validType x)))) := fun S => by
  refine acall_cw (rs := [.tmp 2]) Tryz.checked.mixed Tryz.func295 Tryz.ntmps295 rfl rfl rfl rfl rfl ?_
  simp -implicitDefEqProofs (disch := omega) only [go_sem]
  refine call_w (isFormed_ok x hsz) ?_
  simp -implicitDefEqProofs (disch := omega) only [go_sem] <;> (repeat (with_reducible refine And.intro ?_ ?_; focus first | omega | rfl | assumption | exact ⟨_, rfl, rfl⟩ | (simp; omega) | (simp; done)))
  with_reducible refine split2 (fun hb => ?_) (fun hb => ?_) <;> have h := hb <;> (try simp only [wf_preprocess] at h) <;> simp -implicitDefEqProofs (disch := omega) only [go_sem, hb] <;> (repeat (with_reducible refine And.intro ?_ ?_; focus first | omega | rfl | assumption | exact ⟨_, rfl, rfl⟩ | (simp; omega) | (simp; done)))
  · have h1 := h
    refine call_w (implDepth_ok x hsz) ?_
    simp -implicitDefEqProofs (disch := omega) only [go_sem] <;> (repeat (with_reducible refine And.intro ?_ ?_; focus first | omega | rfl | assumption | exact ⟨_, rfl, rfl⟩ | (simp; omega) | (simp; done)))
    with_reducible refine split2 (fun hb => ?_) (fun hb => ?_) <;> have h := hb <;> (try simp only [wf_preprocess] at h) <;> simp -implicitDefEqProofs (disch := omega) only [go_sem, hb] <;> (repeat (with_reducible refine And.intro ?_ ?_; focus first | omega | rfl | assumption | exact ⟨_, rfl, rfl⟩ | (simp; omega) | (simp; done)))
    · refine call_w (typeSize_ok x hsz) ?_
      simp -implicitDefEqProofs (disch := omega) only [go_sem] <;> (repeat (with_reducible refine And.intro ?_ ?_; focus first | omega | rfl | assumption | exact ⟨_, rfl, rfl⟩ | (simp; omega) | (simp; done)))
      exact bool_eq (by rw [decide_dec]; exact dec_congr ⟨fun y => ⟨h1, by omega, by omega⟩, fun y => by have := y.2.2; omega⟩)
    · exact bool_eq (dec_false fun y => by have := y.2.1; omega).symm
  · exact bool_eq (dec_false fun y => by rw [y.1] at h; cases h).symm
set_option maxHeartbeats 1000000 in
theorem l4Form_all : ∀ n : Nat, ∀ x : MType, SizeOf.sizeOf x < n → x.sz ≤ 4194304 → PCall Tryz.prog 325 [x.v] (.c (.d (.b (formed x))))
  | 0 => fun x h => by omega
  | n + 1 => by
    have ih := l4Form_all n
    intro x hn hsz S
    have lArgs := MType.lt_Args x
    have hts := ty_sz hsz
    have shut : ¬ ((x.fKind = 1 ∨ x.fKind = 4) ∧ validName x.fName = true ∧ x.fArgs.length = 0 ∨ x.fKind = 3 ∧ validName x.fName = true ∧ x.fArgs.length = 1 ∨ x.fKind = 2 ∧ (validName x.fName = true ∧ x.fArgs.length ≤ 3 ∨ builtInB x.fName = true ∧ x.fArgs.length = 0)) → V.c (.d (.b false)) = V.c (.d (.b (formed x))) := fun h => bool_eq (by rw [formed_eq, show fineT x.fKind x.fName x.fArgs.length = false from dec_false h]; rfl)
    have fine0 : ∀ b : Bool, (b = true ↔ ((x.fKind = 1 ∨ x.fKind = 4) ∧ validName x.fName = true ∧ x.fArgs.length = 0 ∨ x.fKind = 3 ∧ validName x.fName = true ∧ x.fArgs.length = 1 ∨ x.fKind = 2 ∧ (validName x.fName = true ∧ x.fArgs.length ≤ 3 ∨ builtInB x.fName = true ∧ x.fArgs.length = 0))) → b = fineT x.fKind x.fName x.fArgs.length := fun b h => by
      rw [Bool.eq_iff_iff, h]
      unfold fineT
      rw [dec_eq_true]
    refine acall_cw (rs := [.tmp 2]) Tryz.checked.mixed Tryz.func325 Tryz.ntmps325 rfl rfl rfl rfl rfl ?_
    simp -implicitDefEqProofs (disch := omega) only [go_sem]
    refine call_w (specValidName_ok x.fName (by omega)) ?_
    simp -implicitDefEqProofs (disch := omega) only [go_sem] <;> (repeat (with_reducible refine And.intro ?_ ?_; focus first | omega | rfl | assumption | exact ⟨_, rfl, rfl⟩ | (simp; omega) | (simp; done)))
    repeat' (first
      | (with_reducible refine split2 (fun hb => ?_) (fun hb => ?_) <;> have h := hb <;> (try simp only [wf_preprocess] at h) <;> simp -implicitDefEqProofs (disch := omega) only [go_sem, hb] <;> (repeat (with_reducible refine And.intro ?_ ?_; focus first | omega | rfl | assumption | exact ⟨_, rfl, rfl⟩ | (simp; omega) | (simp; done))))
      | (refine call_w (l4Base_ok x.fName) ?_; simp -implicitDefEqProofs (disch := omega) only [go_sem]))
    all_goals first
      | (refine shut (fun y => ?_); rcases y with ⟨_, _, _⟩ | ⟨_, _, _⟩ | ⟨_, ⟨_, _⟩ | ⟨_, _⟩⟩ <;> first | omega | (simp_all; done))
      | skip
    all_goals
      refine loop_at (ι := Nat × Bool) Tryz.checked.mixed rfl [1, 3, 4] (fun y => [.c (.ptr (0, 0) 0), .c (.d (.b y.2)), .c (.d (.i .i64 y.1))]) (fun y => [.box [.d (.i .i64 x.fKind), .d (.s x.fName), .d (.sl (x.fArgs.map MType.enc))]] :: S)
        (fun y => y.1 ≤ x.fArgs.length ∧ (y.2 && formeds (x.fArgs.drop y.1)) = formed x) (fun y => x.fArgs.length - y.1) (0, fineT x.fKind x.fName x.fArgs.length) ?_ rfl ⟨Nat.zero_le _, by rw [formed_eq]; rfl⟩ ?_
      · simp only [List.map_cons, List.map_nil]
        simp -implicitDefEqProofs (disch := omega) only [go_sem, List.cons.injEq, V.c.injEq, C.d.injEq, D.b.injEq, Int.natCast_zero]
        refine fine0 _ ⟨fun y => ?_, fun y => ?_⟩
        · (try simp only [decide_eq_true_eq, Bool.false_eq_true] at y) <;> first
            | exact .inl ⟨by omega, by assumption, by omega⟩
            | exact .inr (.inl ⟨by omega, by assumption, by omega⟩)
            | exact .inr (.inr ⟨by omega, .inl ⟨by assumption, by omega⟩⟩)
            | exact .inr (.inr ⟨by omega, .inr ⟨by assumption, by omega⟩⟩)
        · rcases y with ⟨_, _, _⟩ | ⟨_, _, _⟩ | ⟨_, ⟨_, _⟩ | ⟨_, _⟩⟩ <;> first | omega | (simp only [decide_eq_true_eq]; omega) | (simp_all; done)
      rintro ⟨i, c⟩ ⟨p1, p2⟩
      simp only at p1 p2
      simp -implicitDefEqProofs (disch := omega) only [go_sem]
      with_reducible refine split2 (fun hb => ?_) (fun hb => ?_) <;> have h := hb <;> (try simp only [wf_preprocess] at h) <;> simp -implicitDefEqProofs (disch := omega) only [go_sem, hb] <;> (repeat (with_reducible refine And.intro ?_ ?_; focus first | omega | rfl | assumption | exact ⟨_, rfl, rfl⟩ | (simp; omega) | (simp; done)))
      · have hi : i < x.fArgs.length := by omega
        have hsz' := arg_sz hi hsz
        rw [formeds_drop hi] at p2
        with_reducible refine split2 (fun hb => ?_) (fun hb => ?_) <;> have h := hb <;> (try simp only [wf_preprocess] at h) <;> simp -implicitDefEqProofs (disch := omega) only [go_sem, hb] <;> (repeat (with_reducible refine And.intro ?_ ?_; focus first | omega | rfl | assumption | exact ⟨_, rfl, rfl⟩ | (simp; omega) | (simp; done)))
        · refine call_w (ih x.fArgs[i] (by have := List.sizeOf_lt_of_mem (List.getElem_mem hi); omega) (by omega)) ?_
          simp -implicitDefEqProofs (disch := omega) only [go_sem]
          exact inv_at (i + 1, formed x.fArgs[i]) (by simp only; omega) rfl rfl ⟨by simp only; omega, by rw [← p2, h]; rfl⟩
        · exact inv_at (i + 1, false) (by simp only; omega) rfl rfl ⟨by simp only; omega, by rw [← p2, h]; rfl⟩
      · have hi : i = x.fArgs.length := by omega
        rw [hi, List.drop_length, formeds, Bool.and_true] at p2
        rw [p2]
theorem l4Form_ok (x : MType) (hsz : x.sz ≤ 4194304) : PCall Tryz.prog 325 [x.v] (.c (.d (.b (formed x)))) := l4Form_all _ x (Nat.lt_succ_self _) hsz
theorem specValidType_ok (x : MType) (hsz : x.sz ≤ 4194304) : PCall Tryz.prog 280 [x.v] (.c (.d (.b (validType x)))) := fun S => by
  refine acall_cw (rs := [.tmp 2]) Tryz.checked.mixed Tryz.func280 Tryz.ntmps280 rfl rfl rfl rfl rfl ?_
  simp -implicitDefEqProofs (disch := omega) only [go_sem]
  refine call_w (l4Left_ok x 60 (by omega) (by omega) hsz) ?_
  simp -implicitDefEqProofs (disch := omega) only [go_sem] <;> (repeat (with_reducible refine And.intro ?_ ?_; focus first | omega | rfl | assumption | exact ⟨_, rfl, rfl⟩ | (simp; omega) | (simp; done)))
  with_reducible refine split2 (fun hb => ?_) (fun hb => ?_) <;> have h := hb <;> (try simp only [wf_preprocess] at h) <;> simp -implicitDefEqProofs (disch := omega) only [go_sem, hb] <;> (repeat (with_reducible refine And.intro ?_ ?_; focus first | omega | rfl | assumption | exact ⟨_, rfl, rfl⟩ | (simp; omega) | (simp; done)))
  · have h1 := (sub1_nn (l := 60) (a := x.cnt) (by omega)).2
    refine call_w (specDepth_ok x hsz) ?_
    simp -implicitDefEqProofs (disch := omega) only [go_sem] <;> (repeat (with_reducible refine And.intro ?_ ?_; focus first | omega | rfl | assumption | exact ⟨_, rfl, rfl⟩ | (simp; omega) | (simp; done)))
    with_reducible refine split2 (fun hb => ?_) (fun hb => ?_) <;> have h := hb <;> (try simp only [wf_preprocess] at h) <;> simp -implicitDefEqProofs (disch := omega) only [go_sem, hb] <;> (repeat (with_reducible refine And.intro ?_ ?_; focus first | omega | rfl | assumption | exact ⟨_, rfl, rfl⟩ | (simp; omega) | (simp; done)))
    · refine call_w (l4Form_ok x hsz) ?_
      simp -implicitDefEqProofs (disch := omega) only [go_sem] <;> (repeat (with_reducible refine And.intro ?_ ?_; focus first | omega | rfl | assumption | exact ⟨_, rfl, rfl⟩ | (simp; omega) | (simp; done)))
      refine bool_eq ?_
      cases hf : formed x with
      | false => exact (dec_false fun y => by rw [hf] at y; cases y.1).symm
      | true => exact (dec_true ⟨hf, by omega, by omega⟩).symm
    · exact bool_eq (dec_false fun y => by have := y.2.1; omega).symm
  · have h1 := sub1_neg (l := 60) (a := x.cnt) (by omega)
    exact bool_eq (dec_false fun y => by have := y.2.2; omega).symm
end Go.Proofs.YtlmhknhlmicmeaaGreatDoor

namespace Go.Ab
mutual
def MExpr.cnt : MExpr → Nat
  | .mk _ _ _ _ _ a b => 1 + (MExpr.cnts a + MArm.cnts b)
def MExpr.cnts : List MExpr → Nat
  | [] => 0
  | x :: xs => x.cnt + MExpr.cnts xs
def MArm.cnt : MArm → Nat
  | .mk _ _ b => b.cnt
def MArm.cnts : List MArm → Nat
  | [] => 0
  | x :: xs => x.cnt + MArm.cnts xs
end
theorem MExpr.cnt_eq (x : MExpr) : x.cnt = 1 + (MExpr.cnts x.fArgs + MArm.cnts x.fArms) := by cases x; rw [MExpr.cnt]; rfl
theorem MArm.cnt_eq (x : MArm) : x.cnt = x.fBody.cnt := by cases x; rw [MArm.cnt]; rfl
theorem MExpr.cnts_drop {xs : List MExpr} {i : Nat} (hi : i < xs.length) : MExpr.cnts (xs.drop i) = xs[i].cnt + MExpr.cnts (xs.drop (i + 1)) := by rw [List.drop_eq_getElem_cons hi, MExpr.cnts]
theorem MArm.cnts_drop {xs : List MArm} {i : Nat} (hi : i < xs.length) : MArm.cnts (xs.drop i) = xs[i].fBody.cnt + MArm.cnts (xs.drop (i + 1)) := by rw [List.drop_eq_getElem_cons hi, MArm.cnts, MArm.cnt_eq]
theorem MExpr.sz_parts (x : MExpr) : x.fArgs.length + szRows (x.fArgs.map MExpr.enc) ≤ x.sz ∧ x.fArms.length + szRows (x.fArms.map MArm.enc) ≤ x.sz := by
  simp only [MExpr.sz, MExpr.enc_eq, szRow, szRow_append, D.sz, List.length_map]
  omega
theorem MArm.sz_body (x : MArm) : x.fBody.sz ≤ x.sz := by
  simp only [MArm.sz, MArm.enc_eq, MExpr.sz, szRow, szRow_append, D.sz, List.length_map]
  omega
mutual
theorem MExpr.cnt_le : ∀ x : MExpr, x.cnt ≤ 1 + x.sz
  | .mk k t n m ty a b => by
    have h1 := MExpr.cnts_le a
    have h2 := MArm.cnts_le b
    rw [MExpr.cnt]
    simp only [MExpr.sz, MExpr.enc_eq, szRow, szRow_append, D.sz, List.length_map, MExpr.fArgs, MExpr.fArms]
    omega
theorem MExpr.cnts_le : ∀ xs : List MExpr, MExpr.cnts xs ≤ xs.length + szRows (xs.map MExpr.enc)
  | [] => by simp [MExpr.cnts]
  | x :: xs => by
    have h1 := MExpr.cnt_le x
    have h2 := MExpr.cnts_le xs
    rw [MExpr.cnts, List.length_cons, List.map_cons, szRows, MExpr.sz_def]
    omega
theorem MArm.cnt_le : ∀ x : MArm, x.cnt ≤ 1 + x.sz
  | .mk c v b => by
    have h1 := MExpr.cnt_le b
    have h2 := MArm.sz_body (.mk c v b)
    rw [MArm.cnt]
    simp only [MArm.fBody] at h2
    omega
theorem MArm.cnts_le : ∀ xs : List MArm, MArm.cnts xs ≤ xs.length + szRows (xs.map MArm.enc)
  | [] => by simp [MArm.cnts]
  | x :: xs => by
    have h1 := MArm.cnt_le x
    have h2 := MArm.cnts_le xs
    rw [MArm.cnts, List.length_cons, List.map_cons, szRows, MArm.sz_def]
    omega
end
end Go.Ab
namespace Go.Proofs.YtlmhknhlmicmeaaGreatDoor
open Go Go.Ab
theorem implExprSize_all : ∀ n : Nat, ∀ x : MExpr, SizeOf.sizeOf x < n → x.sz ≤ 4194304 → PCall Tryz.prog 210 [x.v] (.c (.d (.i .i64 x.cnt)))
  | 0 => fun x h => by omega
  | n + 1 => by
    have ih := implExprSize_all n
    intro x hn hsz S
    have lArgs := MExpr.lt_Args x
    have lArms := MExpr.lt_Arms x
    have hp := MExpr.sz_parts x
    have hc := MExpr.cnt_le x
    have he := MExpr.cnt_eq x
    refine acall_cw (rs := [.tmp 2]) Tryz.checked.mixed Tryz.func210 Tryz.ntmps210 rfl rfl rfl rfl rfl ?_
    simp -implicitDefEqProofs (disch := omega) only [go_sem]
    refine loop_at (ι := Nat × Nat) Tryz.checked.mixed rfl [1, 3, 9, 10, 11] (fun y => [.c (.ptr (0, 0) 0), .c (.d (.i .i64 y.2)), .c (.d (.sl (x.fArgs.map MExpr.enc))), .c (.d (.i .i64 x.fArgs.length)), .c (.d (.i .i64 y.1))]) (fun y => [.box (x.enc.map .d)] :: S)
      (fun y => y.1 ≤ x.fArgs.length ∧ x.cnt = y.2 + MExpr.cnts (x.fArgs.drop y.1) + MArm.cnts x.fArms) (fun y => x.fArgs.length - y.1) (0, 1) rfl ?_ ⟨Nat.zero_le _, by simp only [List.drop_zero]; omega⟩ ?_
    · simp -implicitDefEqProofs (disch := omega) only [go_sem]
    rintro ⟨i, c⟩ ⟨p1, p2⟩
    simp only at p1 p2
    simp -implicitDefEqProofs (disch := omega) only [go_sem]
    with_reducible refine split2 (fun hb => ?_) (fun hb => ?_) <;> have h := hb <;> (try simp only [wf_preprocess] at h) <;> simp -implicitDefEqProofs (disch := omega) only [go_sem, hb] <;> (repeat (with_reducible refine And.intro ?_ ?_; focus first | omega | rfl | assumption | exact ⟨_, rfl, rfl⟩ | (simp; omega) | (simp; done)))
    · have hi : i < x.fArgs.length := by omega
      have hx : x.fArgs[i].sz ≤ szRows (x.fArgs.map MExpr.enc) := szRows_mem (List.mem_map_of_mem (List.getElem_mem hi))
      rw [MExpr.cnts_drop hi] at p2
      (repeat (with_reducible refine And.intro ?_ ?_; focus first | omega | rfl | assumption | exact ⟨_, rfl, rfl⟩ | (simp; omega) | (simp; done)))
      refine call_w (ih x.fArgs[i] (by have := List.sizeOf_lt_of_mem (List.getElem_mem hi); omega) (by omega)) ?_
      simp -implicitDefEqProofs (disch := omega) only [go_sem] <;> (repeat (with_reducible refine And.intro ?_ ?_; focus first | omega | rfl | assumption | exact ⟨_, rfl, rfl⟩ | (simp; omega) | (simp; done)))
      rw [show (c : Int) + (x.fArgs[i].cnt : Int) = ((c + x.fArgs[i].cnt : Nat) : Int) by omega]
      exact inv_drop 1 (by decide) (i + 1, c + x.fArgs[i].cnt) (by simp only; omega) rfl rfl rfl rfl ⟨by simp only; omega, by simp only; omega⟩
    have hi : i = x.fArgs.length := by omega
    rw [hi, List.drop_length, MExpr.cnts] at p2
    refine loop_at (ι := Nat × Nat) Tryz.checked.mixed rfl [3, 21, 22, 23] (fun y => [.c (.d (.i .i64 y.2)), .c (.d (.sl (x.fArms.map MArm.enc))), .c (.d (.i .i64 x.fArms.length)), .c (.d (.i .i64 y.1))]) (fun y => [.box (x.enc.map .d)] :: S)
      (fun y => y.1 ≤ x.fArms.length ∧ x.cnt = y.2 + MArm.cnts (x.fArms.drop y.1)) (fun y => x.fArms.length - y.1) (0, c) rfl ?_ ⟨Nat.zero_le _, by simp only [List.drop_zero]; omega⟩ ?_
    · simp -implicitDefEqProofs (disch := omega) only [go_sem]
    clear p1 p2 hb h hi i
    rintro ⟨i, d⟩ ⟨p1, p2⟩
    simp only at p1 p2
    simp -implicitDefEqProofs (disch := omega) only [go_sem]
    with_reducible refine split2 (fun hb => ?_) (fun hb => ?_) <;> have h := hb <;> (try simp only [wf_preprocess] at h) <;> simp -implicitDefEqProofs (disch := omega) only [go_sem, hb] <;> (repeat (with_reducible refine And.intro ?_ ?_; focus first | omega | rfl | assumption | exact ⟨_, rfl, rfl⟩ | (simp; omega) | (simp; done)))
    · have hi : i < x.fArms.length := by omega
      have hx : x.fArms[i].sz ≤ szRows (x.fArms.map MArm.enc) := szRows_mem (List.mem_map_of_mem (List.getElem_mem hi))
      have hy := MArm.sz_body x.fArms[i]
      have hs := List.sizeOf_lt_of_mem (List.getElem_mem hi)
      have hs' := MArm.lt_Body x.fArms[i]
      rw [MArm.cnts_drop hi] at p2
      (repeat (with_reducible refine And.intro ?_ ?_; focus first | omega | rfl | assumption | exact ⟨_, rfl, rfl⟩ | (simp; omega) | (simp; done)))
      refine call_w (ih x.fArms[i].fBody (by omega) (by omega)) ?_
      simp -implicitDefEqProofs (disch := omega) only [go_sem] <;> (repeat (with_reducible refine And.intro ?_ ?_; focus first | omega | rfl | assumption | exact ⟨_, rfl, rfl⟩ | (simp; omega) | (simp; done)))
      rw [show (d : Int) + (x.fArms[i].fBody.cnt : Int) = ((d + x.fArms[i].fBody.cnt : Nat) : Int) by omega]
      exact inv_drop 1 (by decide) (i + 1, d + x.fArms[i].fBody.cnt) (by simp only; omega) rfl rfl rfl rfl ⟨by simp only; omega, by simp only; omega⟩
    · have hi : i = x.fArms.length := by omega
      rw [hi, List.drop_length, MArm.cnts] at p2
      exact int_eq (by omega)
theorem implExprSize_ok (x : MExpr) (hsz : x.sz ≤ 4194304) : PCall Tryz.prog 210 [x.v] (.c (.d (.i .i64 x.cnt))) := implExprSize_all _ x (Nat.lt_succ_self _) hsz
end Go.Proofs.YtlmhknhlmicmeaaGreatDoor

namespace Go.Ab
mutual
def nodesT : MType → List MType
  | .mk k n a => .mk k n a :: nodesL a
def nodesL : List MType → List MType
  | [] => []
  | t :: ts => nodesT t ++ nodesL ts
end
mutual
theorem nodes_len : ∀ t : MType, (nodesT t).length = t.cnt
  | .mk k n a => by rw [nodesT, List.length_cons, MType.cnt, nodesL_len a]; omega
theorem nodesL_len : ∀ ts : List MType, (nodesL ts).length = MType.cnts ts
  | [] => rfl
  | t :: ts => by rw [nodesL, List.length_append, MType.cnts, nodes_len t, nodesL_len ts]
end
end Go.Ab

namespace Go.Proofs.YtlmhknhlmicmeaaGreatDoor
open Go Go.Ab
end Go.Proofs.YtlmhknhlmicmeaaGreatDoor

namespace Go.Proofs.YtlmhknhlmicmeaaGreatDoor
open Go Go.Ab
theorem indexFuncExpr_ok (g : Nat) (caps : List (Key × Nat)) (S : Store) (xs : List MExpr) (p : MExpr → Bool) (hl : xs.length ≤ 1073741824) (hp : ∀ x ∈ xs, FPure Tryz.prog g caps S [x.v] (.c (.d (.b (p x))))) :
    ACall Tryz.prog 329 [.c (.d (.sl (xs.map MExpr.enc))), .c (.fn g caps)] S (fun r S' => r = .c (.d (.i .i64 (indexP p xs))) ∧ S' = S) := by
  refine acall_cw (rs := [.tmp 4]) Tryz.checked.mixed Tryz.func329 Tryz.ntmps329 rfl rfl rfl rfl rfl ?_
  simp -implicitDefEqProofs (disch := omega) only [go_sem]
  refine loop_at (ι := Nat) Tryz.checked.mixed rfl [0, 1, 7, 8] (fun i => [.c (.d (.sl (xs.map MExpr.enc))), .c (.fn g (upCaps 1 caps)), .c (.d (.i .i64 xs.length)), .c (.d (.i .i64 i))]) (fun _ => [] :: S)
    (fun i => i ≤ xs.length ∧ ∀ j, ∀ hj : j < xs.length, j < i → p xs[j] = false) (fun i => xs.length - i) 0 rfl rfl ⟨Nat.zero_le _, fun j _ h => by omega⟩ ?_
  rintro i ⟨p1, p2⟩
  simp -implicitDefEqProofs (disch := omega) only [go_sem]
  with_reducible refine split2 (fun hb => ?_) (fun hb => ?_) <;> have h := hb <;> (try simp only [wf_preprocess] at h) <;> simp -implicitDefEqProofs (disch := omega) only [go_sem, hb] <;> (repeat (with_reducible refine And.intro ?_ ?_; focus first | omega | rfl | assumption | exact ⟨_, rfl, rfl⟩ | (simp; omega) | (simp; done)))
  · have hi : i < xs.length := by omega
    (repeat (with_reducible refine And.intro ?_ ?_; focus first | omega | rfl | assumption | exact ⟨_, rfl, rfl⟩ | (simp; omega) | (simp; done)))
    refine call_d rfl (hp xs[i] (List.getElem_mem hi) [_]) ?_
    simp -implicitDefEqProofs (disch := omega) only [go_sem]
    with_reducible refine split2 (fun hb => ?_) (fun hb => ?_) <;> have h := hb <;> (try simp only [wf_preprocess] at h) <;> simp -implicitDefEqProofs (disch := omega) only [go_sem, hb] <;> (repeat (with_reducible refine And.intro ?_ ?_; focus first | omega | rfl | assumption | exact ⟨_, rfl, rfl⟩ | (simp; omega) | (simp; done)))
    · rw [indexP_here hi p2 h]
    · refine inv_at (i + 1) (by omega) rfl rfl ⟨by omega, fun j hj hji => ?_⟩
      by_cases e : j = i
      · subst e; exact h
      · exact p2 j hj (by omega)
  · rw [indexP_no (fun j hj => p2 j hj (by omega))]
theorem containsFuncExpr_ok (g : Nat) (caps : List (Key × Nat)) (S : Store) (xs : List MExpr) (p : MExpr → Bool) (hl : xs.length ≤ 1073741824) (hp : ∀ x ∈ xs, FPure Tryz.prog g caps S [x.v] (.c (.d (.b (p x))))) :
    ACall Tryz.prog 283 [.c (.d (.sl (xs.map MExpr.enc))), .c (.fn g caps)] S (fun r S' => r = .c (.d (.b (xs.any p))) ∧ S' = S) := by
  refine acall_cw (rs := [.tmp 4]) Tryz.checked.mixed Tryz.func283 Tryz.ntmps283 rfl rfl rfl rfl rfl ?_
  simp -implicitDefEqProofs (disch := omega) only [go_sem]
  refine call_d rfl (indexFuncExpr_ok g (upCaps 1 caps) _ xs p hl fun x hx => (hp x hx).push _) ?_
  simp -implicitDefEqProofs (disch := omega) only [go_sem]
  exact bool_eq indexP_pos
theorem indexFuncArm_ok (g : Nat) (caps : List (Key × Nat)) (S : Store) (xs : List MArm) (p : MArm → Bool) (hl : xs.length ≤ 1073741824) (hp : ∀ x ∈ xs, FPure Tryz.prog g caps S [x.v] (.c (.d (.b (p x))))) :
    ACall Tryz.prog 330 [.c (.d (.sl (xs.map MArm.enc))), .c (.fn g caps)] S (fun r S' => r = .c (.d (.i .i64 (indexP p xs))) ∧ S' = S) := by
  refine acall_cw (rs := [.tmp 4]) Tryz.checked.mixed Tryz.func330 Tryz.ntmps330 rfl rfl rfl rfl rfl ?_
  simp -implicitDefEqProofs (disch := omega) only [go_sem]
  refine loop_at (ι := Nat) Tryz.checked.mixed rfl [0, 1, 7, 8] (fun i => [.c (.d (.sl (xs.map MArm.enc))), .c (.fn g (upCaps 1 caps)), .c (.d (.i .i64 xs.length)), .c (.d (.i .i64 i))]) (fun _ => [] :: S)
    (fun i => i ≤ xs.length ∧ ∀ j, ∀ hj : j < xs.length, j < i → p xs[j] = false) (fun i => xs.length - i) 0 rfl rfl ⟨Nat.zero_le _, fun j _ h => by omega⟩ ?_
  rintro i ⟨p1, p2⟩
  simp -implicitDefEqProofs (disch := omega) only [go_sem]
  with_reducible refine split2 (fun hb => ?_) (fun hb => ?_) <;> have h := hb <;> (try simp only [wf_preprocess] at h) <;> simp -implicitDefEqProofs (disch := omega) only [go_sem, hb] <;> (repeat (with_reducible refine And.intro ?_ ?_; focus first | omega | rfl | assumption | exact ⟨_, rfl, rfl⟩ | (simp; omega) | (simp; done)))
  · have hi : i < xs.length := by omega
    (repeat (with_reducible refine And.intro ?_ ?_; focus first | omega | rfl | assumption | exact ⟨_, rfl, rfl⟩ | (simp; omega) | (simp; done)))
    refine call_d rfl (hp xs[i] (List.getElem_mem hi) [_]) ?_
    simp -implicitDefEqProofs (disch := omega) only [go_sem]
    with_reducible refine split2 (fun hb => ?_) (fun hb => ?_) <;> have h := hb <;> (try simp only [wf_preprocess] at h) <;> simp -implicitDefEqProofs (disch := omega) only [go_sem, hb] <;> (repeat (with_reducible refine And.intro ?_ ?_; focus first | omega | rfl | assumption | exact ⟨_, rfl, rfl⟩ | (simp; omega) | (simp; done)))
    · rw [indexP_here hi p2 h]
    · refine inv_at (i + 1) (by omega) rfl rfl ⟨by omega, fun j hj hji => ?_⟩
      by_cases e : j = i
      · subst e; exact h
      · exact p2 j hj (by omega)
  · rw [indexP_no (fun j hj => p2 j hj (by omega))]
theorem containsFuncArm_ok (g : Nat) (caps : List (Key × Nat)) (S : Store) (xs : List MArm) (p : MArm → Bool) (hl : xs.length ≤ 1073741824) (hp : ∀ x ∈ xs, FPure Tryz.prog g caps S [x.v] (.c (.d (.b (p x))))) :
    ACall Tryz.prog 285 [.c (.d (.sl (xs.map MArm.enc))), .c (.fn g caps)] S (fun r S' => r = .c (.d (.b (xs.any p))) ∧ S' = S) := by
  refine acall_cw (rs := [.tmp 4]) Tryz.checked.mixed Tryz.func285 Tryz.ntmps285 rfl rfl rfl rfl rfl ?_
  simp -implicitDefEqProofs (disch := omega) only [go_sem]
  refine call_d rfl (indexFuncArm_ok g (upCaps 1 caps) _ xs p hl fun x hx => (hp x hx).push _) ?_
  simp -implicitDefEqProofs (disch := omega) only [go_sem]
  exact bool_eq indexP_pos
theorem indexFuncstring_ok (g : Nat) (caps : List (Key × Nat)) (S : Store) (xs : List (List UInt8)) (p : (List UInt8) → Bool) (hl : xs.length ≤ 1073741824) (hp : ∀ x ∈ xs, FPure Tryz.prog g caps S [.c (.d (.s x))] (.c (.d (.b (p x))))) :
    ACall Tryz.prog 317 [.c (.d (.sl (xs.map encS))), .c (.fn g caps)] S (fun r S' => r = .c (.d (.i .i64 (indexP p xs))) ∧ S' = S) := by
  refine acall_cw (rs := [.tmp 4]) Tryz.checked.mixed Tryz.func317 Tryz.ntmps317 rfl rfl rfl rfl rfl ?_
  simp -implicitDefEqProofs (disch := omega) only [go_sem, encS]
  refine loop_at (ι := Nat) Tryz.checked.mixed rfl [0, 1, 7, 8] (fun i => [.c (.d (.sl (xs.map encS))), .c (.fn g (upCaps 1 caps)), .c (.d (.i .i64 xs.length)), .c (.d (.i .i64 i))]) (fun _ => [] :: S)
    (fun i => i ≤ xs.length ∧ ∀ j, ∀ hj : j < xs.length, j < i → p xs[j] = false) (fun i => xs.length - i) 0 rfl rfl ⟨Nat.zero_le _, fun j _ h => by omega⟩ ?_
  rintro i ⟨p1, p2⟩
  simp -implicitDefEqProofs (disch := omega) only [go_sem, encS]
  with_reducible refine split2 (fun hb => ?_) (fun hb => ?_) <;> have h := hb <;> (try simp only [wf_preprocess] at h) <;> simp -implicitDefEqProofs (disch := omega) only [go_sem, hb, encS] <;> (repeat (with_reducible refine And.intro ?_ ?_; focus first | omega | rfl | assumption | exact ⟨_, rfl, rfl⟩ | (simp; omega) | (simp; done)))
  · have hi : i < xs.length := by omega
    (repeat (with_reducible refine And.intro ?_ ?_; focus first | omega | rfl | assumption | exact ⟨_, rfl, rfl⟩ | (simp; omega) | (simp; done)))
    refine call_d rfl (hp xs[i] (List.getElem_mem hi) [_]) ?_
    simp -implicitDefEqProofs (disch := omega) only [go_sem, encS]
    with_reducible refine split2 (fun hb => ?_) (fun hb => ?_) <;> have h := hb <;> (try simp only [wf_preprocess] at h) <;> simp -implicitDefEqProofs (disch := omega) only [go_sem, hb, encS] <;> (repeat (with_reducible refine And.intro ?_ ?_; focus first | omega | rfl | assumption | exact ⟨_, rfl, rfl⟩ | (simp; omega) | (simp; done)))
    · rw [indexP_here hi p2 h]
    · refine inv_at (i + 1) (by omega) rfl rfl ⟨by omega, fun j hj hji => ?_⟩
      by_cases e : j = i
      · subst e; exact h
      · exact p2 j hj (by omega)
  · rw [indexP_no (fun j hj => p2 j hj (by omega))]
theorem containsFuncstring_ok (g : Nat) (caps : List (Key × Nat)) (S : Store) (xs : List (List UInt8)) (p : (List UInt8) → Bool) (hl : xs.length ≤ 1073741824) (hp : ∀ x ∈ xs, FPure Tryz.prog g caps S [.c (.d (.s x))] (.c (.d (.b (p x))))) :
    ACall Tryz.prog 264 [.c (.d (.sl (xs.map encS))), .c (.fn g caps)] S (fun r S' => r = .c (.d (.b (xs.any p))) ∧ S' = S) := by
  refine acall_cw (rs := [.tmp 4]) Tryz.checked.mixed Tryz.func264 Tryz.ntmps264 rfl rfl rfl rfl rfl ?_
  simp -implicitDefEqProofs (disch := omega) only [go_sem, encS]
  refine call_d rfl (indexFuncstring_ok g (upCaps 1 caps) _ xs p hl fun x hx => (hp x hx).push _) ?_
  simp -implicitDefEqProofs (disch := omega) only [go_sem, encS]
  exact bool_eq indexP_pos
end Go.Proofs.YtlmhknhlmicmeaaGreatDoor

namespace Go.Ab
theorem strs_b {s : List UInt8} {xs : List (List UInt8)} (h : s ∈ xs) : s.length ≤ szRows (xs.map encS) := by
  have := szRows_mem (List.mem_map_of_mem (f := encS) h)
  simpa [encS, szRow, D.sz] using this
noncomputable def namesOk (xs : List (List UInt8)) : Bool := dec xs.Nodup && xs.all validName
theorem mem_addW {s l : List UInt8} {m : List (List UInt8)} : s ∈ addW l m ↔ s = l ∨ s ∈ m := by
  unfold addW
  split
  · rename_i h
    exact ⟨.inr, fun x => x.elim (fun e => e ▸ h) id⟩
  · rw [List.mem_append, List.mem_singleton]; exact Or.comm
theorem take_snoc {α : Type} {xs : List α} {i : Nat} (hi : i < xs.length) : xs.take (i + 1) = xs.take i ++ [xs[i]] := List.take_succ_eq_append_getElem hi
theorem nodup_snoc {α : Type} {xs : List α} {x : α} : (xs ++ [x]).Nodup ↔ xs.Nodup ∧ x ∉ xs := by
  rw [List.nodup_append]
  constructor
  · rintro ⟨h1, _, h3⟩
    exact ⟨h1, fun hx => h3 x hx x (by simp) rfl⟩
  · rintro ⟨h1, h2⟩
    exact ⟨h1, by simp, fun a ha b hb e => by simp at hb; subst hb; exact h2 (e ▸ ha)⟩
theorem not_nodup {α : Type} {xs : List α} {i : Nat} (hi : i < xs.length) (h : xs[i] ∈ xs.take i) : ¬ xs.Nodup := fun hn => by
  have h1 : (xs.take (i + 1)).Nodup := hn.sublist (List.take_sublist _ _)
  rw [take_snoc hi] at h1
  exact (nodup_snoc.1 h1).2 h
end Go.Ab
namespace Go.Proofs.YtlmhknhlmicmeaaGreatDoor
open Go Go.Ab
theorem implDistinct_ok (xs : List (List UInt8)) (hl : xs.length ≤ 1073741824) : PCall Tryz.prog 233 [.c (.d (.sl (xs.map encS)))] (.c (.d (.b (dec xs.Nodup)))) := fun S => by
  refine acall_cw (rs := [.tmp 2]) Tryz.checked.mixed Tryz.func233 Tryz.ntmps233 rfl rfl rfl rfl rfl ?_
  simp -implicitDefEqProofs (disch := omega) only [go_sem, encS]
  (repeat (with_reducible refine And.intro ?_ ?_; focus first | omega | rfl | assumption | exact ⟨_, rfl, rfl⟩ | (simp; omega) | (simp; done)))
  refine loop_at (ι := Nat × List (List UInt8)) Tryz.checked.mixed rfl [3, 7, 8, 9] (fun y => [.c (.mp (0, 0)), .c (.d (.sl (xs.map encS))), .c (.d (.i .i64 xs.length)), .c (.d (.i .i64 y.1))]) (fun y => [.mp y.2] :: S)
    (fun y => y.1 ≤ xs.length ∧ (∀ s, s ∈ y.2 ↔ s ∈ xs.take y.1) ∧ (xs.take y.1).Nodup) (fun y => xs.length - y.1) (0, []) rfl rfl ⟨Nat.zero_le _, fun s => by simp, by simp⟩ ?_
  rintro ⟨i, m⟩ ⟨p1, p2, p3⟩
  simp only at p1 p2 p3
  simp -implicitDefEqProofs (disch := omega) only [go_sem, encS]
  with_reducible refine split2 (fun hb => ?_) (fun hb => ?_) <;> have h := hb <;> (try simp only [wf_preprocess] at h) <;> simp -implicitDefEqProofs (disch := omega) only [go_sem, hb, encS] <;> (repeat (with_reducible refine And.intro ?_ ?_; focus first | omega | rfl | assumption | exact ⟨_, rfl, rfl⟩ | (simp; omega) | (simp; done)))
  · have hi : i < xs.length := by omega
    (repeat (with_reducible refine And.intro ?_ ?_; focus first | omega | rfl | assumption | exact ⟨_, rfl, rfl⟩ | (simp; omega) | (simp; done)))
    with_reducible refine split2 (fun hb => ?_) (fun hb => ?_) <;> have h := hb <;> (try simp only [wf_preprocess] at h) <;> simp -implicitDefEqProofs (disch := omega) only [go_sem, hb, encS] <;> (repeat (with_reducible refine And.intro ?_ ?_; focus first | omega | rfl | assumption | exact ⟨_, rfl, rfl⟩ | (simp; omega) | (simp; done)))
    · exact bool_eq (dec_false (not_nodup hi ((p2 _).1 h))).symm
    · refine inv_at (i + 1, addW xs[i] m) (by simp only; omega) rfl rfl ⟨by simp only; omega, fun s => ?_, ?_⟩
      · simp only
        rw [mem_addW, take_snoc hi, List.mem_append, List.mem_singleton, p2]
        exact Or.comm
      · simp only
        rw [take_snoc hi, nodup_snoc]
        exact ⟨p3, fun hx => h ((p2 _).2 hx)⟩
  · rw [List.take_of_length_le (by omega)] at p3
    exact bool_eq (dec_true p3).symm
theorem specDistinct_ok (xs : List (List UInt8)) (hl : xs.length ≤ 1073741824) : PCall Tryz.prog 154 [.c (.d (.sl (xs.map encS)))] (.c (.d (.b (dec xs.Nodup)))) := fun S => by
  refine acall_cw (rs := [.tmp 2]) Tryz.checked.mixed Tryz.func154 Tryz.ntmps154 rfl rfl rfl rfl rfl ?_
  simp -implicitDefEqProofs (disch := omega) only [go_sem, encS]
  refine loop_at (ι := Nat) Tryz.checked.mixed rfl [0, 3] (fun i => [.c (.d (.sl (xs.map encS))), .c (.d (.i .i64 i))]) (fun _ => [] :: S)
    (fun i => i ≤ xs.length ∧ (xs.take i).Nodup) (fun i => xs.length - i) 0 rfl rfl ⟨Nat.zero_le _, by simp⟩ ?_
  rintro i ⟨p1, p3⟩
  simp -implicitDefEqProofs (disch := omega) only [go_sem, encS]
  with_reducible refine split2 (fun hb => ?_) (fun hb => ?_) <;> have h := hb <;> (try simp only [wf_preprocess] at h) <;> simp -implicitDefEqProofs (disch := omega) only [go_sem, hb, encS] <;> (repeat (with_reducible refine And.intro ?_ ?_; focus first | omega | rfl | assumption | exact ⟨_, rfl, rfl⟩ | (simp; omega) | (simp; done)))
  · have hi : i < xs.length := by omega
    have hc : ∀ y ∈ xs.map encS, y.length = 1 := fun y hy => by
      obtain ⟨s, _, rfl⟩ := List.mem_map.1 hy
      rfl
    have e : (xs.map encS).take i = (xs.take i).map encS := List.map_take.symm
    refine And.intro ⟨by omega, by omega, hc⟩ ?_
    (repeat (with_reducible refine And.intro ?_ ?_; focus first | omega | rfl | assumption | exact ⟨_, rfl, rfl⟩ | (simp; omega) | (simp; done)))
    simp -implicitDefEqProofs (disch := omega) only [go_sem, Int.toNat_zero, e]
    refine call_w (l1Has_ok (xs.take i) xs[i] (by simp; omega)) ?_
    simp -implicitDefEqProofs (disch := omega) only [go_sem] <;> (repeat (with_reducible refine And.intro ?_ ?_; focus first | omega | rfl | assumption | exact ⟨_, rfl, rfl⟩ | (simp; omega) | (simp; done)))
    with_reducible refine split2 (fun hb => ?_) (fun hb => ?_) <;> have h := hb <;> (try simp only [wf_preprocess] at h) <;> simp -implicitDefEqProofs (disch := omega) only [go_sem, hb] <;> (repeat (with_reducible refine And.intro ?_ ?_; focus first | omega | rfl | assumption | exact ⟨_, rfl, rfl⟩ | (simp; omega) | (simp; done)))
    · exact bool_eq (dec_false (not_nodup hi h)).symm
    · refine inv_at (i + 1) (by omega) rfl rfl ⟨by omega, ?_⟩
      rw [take_snoc hi, nodup_snoc]
      exact ⟨p3, h⟩
  · rw [List.take_of_length_le (by omega)] at p3
    exact bool_eq (dec_true p3).symm
theorem l3Names_ok (xs : List (List UInt8)) (hl : xs.length ≤ 1073741824) (hs : ∀ s ∈ xs, s.length ≤ 4194304) : PCall Tryz.prog 247 [.c (.d (.sl (xs.map encS)))] (.c (.d (.b (xs.all validName)))) := fun S => by
  refine acall_cw (rs := [.tmp 2]) Tryz.checked.mixed Tryz.func247 Tryz.ntmps247 rfl rfl rfl rfl rfl ?_
  simp -implicitDefEqProofs (disch := omega) only [go_sem, encS]
  refine loop_at (ι := Nat) Tryz.checked.mixed rfl [0, 3] (fun i => [.c (.d (.sl (xs.map encS))), .c (.d (.i .i64 i))]) (fun _ => [] :: S)
    (fun i => i ≤ xs.length ∧ (xs.drop i).all validName = xs.all validName) (fun i => xs.length - i) 0 rfl rfl ⟨Nat.zero_le _, rfl⟩ ?_
  rintro i ⟨p1, p2⟩
  simp -implicitDefEqProofs (disch := omega) only [go_sem, encS]
  with_reducible refine split2 (fun hb => ?_) (fun hb => ?_) <;> have h := hb <;> (try simp only [wf_preprocess] at h) <;> simp -implicitDefEqProofs (disch := omega) only [go_sem, hb, encS] <;> (repeat (with_reducible refine And.intro ?_ ?_; focus first | omega | rfl | assumption | exact ⟨_, rfl, rfl⟩ | (simp; omega) | (simp; done)))
  · have hi : i < xs.length := by omega
    have hz := hs _ (List.getElem_mem hi)
    rw [List.drop_eq_getElem_cons hi, List.all_cons] at p2
    (repeat (with_reducible refine And.intro ?_ ?_; focus first | omega | rfl | assumption | exact ⟨_, rfl, rfl⟩ | (simp; omega) | (simp; done)))
    refine call_w (specValidName_ok xs[i] (by omega)) ?_
    simp -implicitDefEqProofs (disch := omega) only [go_sem] <;> (repeat (with_reducible refine And.intro ?_ ?_; focus first | omega | rfl | assumption | exact ⟨_, rfl, rfl⟩ | (simp; omega) | (simp; done)))
    with_reducible refine split2 (fun hb => ?_) (fun hb => ?_) <;> have h := hb <;> (try simp only [wf_preprocess] at h) <;> simp -implicitDefEqProofs (disch := omega) only [go_sem, hb] <;> (repeat (with_reducible refine And.intro ?_ ?_; focus first | omega | rfl | assumption | exact ⟨_, rfl, rfl⟩ | (simp; omega) | (simp; done)))
    · rw [← p2, h]; rfl
    · exact inv_at (i + 1) (by omega) rfl rfl ⟨by omega, by rw [← p2, h]; rfl⟩
  · rw [List.drop_of_length_le (by omega)] at p2
    rw [← p2]; rfl
theorem areNames_ok (xs : List (List UInt8)) (hl : xs.length ≤ 1073741824) (hs : ∀ s ∈ xs, s.length ≤ 4194304) : PCall Tryz.prog 169 [.c (.d (.sl (xs.map encS)))] (.c (.d (.b (namesOk xs)))) := fun S => by
  have hcl : ∀ s ∈ xs, PCall Tryz.prog 265 [.c (.d (.s s))] (.c (.d (.b (!validName s)))) := fun s hx S => by
    have := hs s hx
    refine acall_cw (rs := [.tmp 2]) Tryz.checked.mixed Tryz.func265 Tryz.ntmps265 rfl rfl rfl rfl rfl ?_
    simp -implicitDefEqProofs (disch := omega) only [go_sem]
    refine call_w (implValidName_ok s (by omega)) ?_
    simp -implicitDefEqProofs (disch := omega) only [go_sem] <;> (repeat (with_reducible refine And.intro ?_ ?_; focus first | omega | rfl | assumption | exact ⟨_, rfl, rfl⟩ | (simp; omega) | (simp; done)))
  have ha : (xs.any fun s => !validName s) = !xs.all validName := by rw [List.not_all_eq_any_not]
  refine acall_cw (rs := [.tmp 2]) Tryz.checked.mixed Tryz.func169 Tryz.ntmps169 rfl rfl rfl rfl rfl ?_
  simp -implicitDefEqProofs (disch := omega) only [go_sem]
  refine call_w (implDistinct_ok xs hl) ?_
  simp -implicitDefEqProofs (disch := omega) only [go_sem] <;> (repeat (with_reducible refine And.intro ?_ ?_; focus first | omega | rfl | assumption | exact ⟨_, rfl, rfl⟩ | (simp; omega) | (simp; done)))
  with_reducible refine split2 (fun hb => ?_) (fun hb => ?_) <;> have h := hb <;> (try simp only [wf_preprocess] at h) <;> simp -implicitDefEqProofs (disch := omega) only [go_sem, hb] <;> (repeat (with_reducible refine And.intro ?_ ?_; focus first | omega | rfl | assumption | exact ⟨_, rfl, rfl⟩ | (simp; omega) | (simp; done)))
  · refine call_d rfl (containsFuncstring_ok 265 [] _ xs (fun s => !validName s) hl fun s hx => FPure.of_pure (hcl s hx)) ?_
    simp -implicitDefEqProofs (disch := omega) only [go_sem]
    rw [ha]
    exact bool_eq (by unfold namesOk; rw [hb]; simp)
  · exact bool_eq (by unfold namesOk; rw [hb]; rfl)
end Go.Proofs.YtlmhknhlmicmeaaGreatDoor

namespace Go.Ab
def ops : List (List UInt8) := [[43], [45], [42], [60], [61]]
def zeroT (t : MType) : Prop := t.fKind = 0 ∧ t.fName = [] ∧ t.fArgs.length = 0
def fieldsP (e : MExpr) : Prop :=
  (1 ≤ e.fKind ∧ e.fKind ≤ 12) ∧
  (if e.fKind = 5 ∨ e.fKind = 11 then validName e.fTrait = true else e.fTrait = []) ∧
  (if e.fKind = 3 ∨ e.fKind = 4 ∨ e.fKind = 5 ∨ e.fKind = 6 ∨ e.fKind = 8 then validName e.fName = true else if e.fKind = 10 then e.fName ∈ ops else e.fName = []) ∧
  (if e.fKind = 1 then -999999 ≤ e.fN ∧ e.fN ≤ 999999 else if e.fKind = 2 then e.fN = 0 ∨ e.fN = 1 else e.fN = 0) ∧
  (if e.fKind = 12 then validType e.fType = true else zeroT e.fType) ∧
  (if e.fKind = 4 ∨ e.fKind = 6 then True else if e.fKind = 5 then 1 ≤ e.fArgs.length else if e.fKind = 7 ∨ e.fKind = 11 ∨ e.fKind = 12 then e.fArgs.length = 1 else if e.fKind = 8 ∨ e.fKind = 10 then e.fArgs.length = 2 else if e.fKind = 9 then e.fArgs.length = 3 else e.fArgs.length = 0) ∧
  (e.fKind = 7 ↔ 0 < e.fArms.length)
mutual
noncomputable def exprOk : MExpr → Bool
  | .mk k t n m ty a b => dec (fieldsP (.mk k t n m ty a b)) && (exprsOk a && armsOk b)
noncomputable def exprsOk : List MExpr → Bool
  | [] => true
  | x :: xs => exprOk x && exprsOk xs
noncomputable def armOk : MArm → Bool
  | .mk c v b => validName c && (namesOk v && exprOk b)
noncomputable def armsOk : List MArm → Bool
  | [] => true
  | x :: xs => armOk x && armsOk xs
end
theorem exprOk_eq (x : MExpr) : exprOk x = (dec (fieldsP x) && (exprsOk x.fArgs && armsOk x.fArms)) := by cases x; rw [exprOk]; rfl
theorem armOk_eq (x : MArm) : armOk x = (validName x.fConstructor && (namesOk x.fVars && exprOk x.fBody)) := by cases x; rw [armOk]; rfl
theorem exprsOk_drop {xs : List MExpr} {i : Nat} (hi : i < xs.length) : exprsOk (xs.drop i) = (exprOk xs[i] && exprsOk (xs.drop (i + 1))) := by rw [List.drop_eq_getElem_cons hi, exprsOk]
theorem armsOk_drop {xs : List MArm} {i : Nat} (hi : i < xs.length) : armsOk (xs.drop i) = (armOk xs[i] && armsOk (xs.drop (i + 1))) := by rw [List.drop_eq_getElem_cons hi, armsOk]
theorem exprsOk_any : ∀ {xs : List MExpr}, (xs.any fun t => !exprOk t) = !exprsOk xs
  | [] => rfl
  | t :: ts => by rw [List.any_cons, exprsOk_any (xs := ts), exprsOk]; simp
theorem armsOk_any : ∀ {xs : List MArm}, (xs.any fun t => !armOk t) = !armsOk xs
  | [] => rfl
  | t :: ts => by rw [List.any_cons, armsOk_any (xs := ts), armsOk]; simp
noncomputable def validExpr (e : MExpr) : Bool := dec (e.cnt ≤ 300) && exprOk e
def subE (l : Int) (c : Nat) : Int := if l < 0 then -1 else if c ≤ l then l - c else -1
theorem subE_add {l : Int} {a b : Nat} : subE (subE l a) b = subE l (a + b) := by unfold subE; split <;> split <;> (try split) <;> (try split) <;> omega
theorem subE_neg {l : Int} {a : Nat} (h : l < 0) : subE l a = -1 := if_pos h
theorem subE_zero {l : Int} (h : -1 ≤ l) : subE l 0 = l := by unfold subE; split <;> (try split) <;> omega
theorem subE_le {l : Int} {c : Nat} (h : 0 ≤ l) : -1 ≤ subE l c ∧ subE l c ≤ l := by unfold subE; split <;> (try split) <;> omega
theorem subE_pos {l : Int} {c : Nat} (h : 0 ≤ l) : decide (subE l c ≥ 0) = decide ((c : Int) ≤ l) := by unfold subE; rw [if_neg (by omega)]; split <;> simp <;> omega
theorem not_valid_nil : validName [] = false := dec_false fun h => by have := h.1.1; simp at this
theorem op_len {s : List UInt8} (h : s ∈ ops) : s.length = 1 := by simp [ops] at h; rcases h with h | h | h | h | h <;> rw [h] <;> rfl
theorem op_not_valid {s : List UInt8} (h : s ∈ ops) : validName s = false := dec_false fun x => by
  have h1 := x.2.2 0 (by have := x.1.1; omega)
  simp [ops] at h; rcases h with h | h | h | h | h <;> rw [h] at h1 <;> simp [lowerB, digitB] at h1
theorem zeroT_not_valid {t : MType} (h : zeroT t) : validType t = false := dec_false fun x => by
  have h1 := x.1
  rw [formed_eq, Bool.and_eq_true] at h1
  have h2 := of_dec h1.1
  rw [h.1] at h2
  omega
end Go.Ab
namespace Go.Ab
structure Hold (p : Prop) : Prop where
  out : p
theorem aw_canon {P : Program} {N : Nat} {c : Code} {Q : Exit → St → Prop} {tm : List (Nat × V)} {st st' : Store} (ts : List Nat) (vs : List V) (hv : ts.map (look tm) = vs) (hs : st = st')
    (h : AW P N c Q ⟨zipTm ts vs, st'⟩) : AW P N c Q ⟨tm, st⟩ := by
  subst hs
  refine aw_ghost h ?_
  rw [← hv]
  exact tm_ghost fun t => look_zip _ ts t
end Go.Ab

namespace Go.Ab
theorem ops_idx (b : UInt8) : decide (firstIdx ⟨[43, 45, 42, 60, 61].toArray⟩ b ≥ 0) = dec ([b] ∈ ops) := by
  have h : ∀ n : Nat, n < 256 → decide (firstIdx ⟨[43, 45, 42, 60, 61].toArray⟩ (UInt8.ofNat n) ≥ 0) = decide ([UInt8.ofNat n] ∈ ops) := by decide +kernel
  have h1 := h b.toNat (UInt8.toNat_lt b)
  rw [UInt8.ofNat_toNat] at h1
  rw [h1]
  by_cases h2 : [b] ∈ ops
  · rw [dec_true h2]; simp [h2]
  · rw [dec_false h2]; simp [h2]
def argLo (k : Int) : Int := if k = 5 ∨ k = 7 ∨ k = 11 ∨ k = 12 then 1 else if k = 8 ∨ k = 10 then 2 else if k = 9 then 3 else 0
def argHi (k : Int) : Int := if k = 4 ∨ k = 6 ∨ k = 5 then 300 else if k = 7 ∨ k = 11 ∨ k = 12 then 1 else if k = 8 ∨ k = 10 then 2 else if k = 9 then 3 else 0
end Go.Ab
namespace Go.Proofs.YtlmhknhlmicmeaaGreatDoor
open Go Go.Ab
theorem indexByteString_x (l : List UInt8) (b : UInt8) : XCall Tryz.prog 376 [.c (.d (.s l)), .c (.d (.i .u8 b.toNat))] (.c (.d (.i .i64 (firstIdx ⟨l.toArray⟩ b)))) := by
  refine ⟨_, Extern.BytealgIndexByte.indexByte, Tryz.func376, by kernel_rfl, by kernel_rfl, by kernel_rfl, by kernel_rfl, fun w σ S β vs hS hv => ?_⟩
  obtain ⟨hl, h⟩ := hv
  obtain ⟨v0, e0, h0, _⟩ := h 0 _ rfl
  obtain ⟨v1, e1, h1, _⟩ := h 1 _ rfl
  cases h0
  cases h1
  have hvs : vs = [.string ⟨l.toArray⟩, .int .u8 b.toNat] := by
    match vs, hl, e0, e1 with
    | [x, y], _, e0, e1 => simp at e0 e1; rw [e0, e1]
  subst hvs
  refine ⟨_, run_indexByte_string _ _ w, ?_, rfl⟩
  have hb : (b.toNat : Int).toNat.toUInt8 = b := by simp
  rw [hb]
  exact .i _ _
theorem indexByte_ok (l : List UInt8) (b : UInt8) : PCall Tryz.prog 362 [.c (.d (.s l)), .c (.d (.i .u8 b.toNat))] (.c (.d (.i .i64 (firstIdx ⟨l.toArray⟩ b)))) := fun S => by
  refine acall_cw (rs := [.tmp 4]) Tryz.checked.mixed Tryz.func362 Tryz.ntmps362 rfl rfl rfl rfl rfl ?_
  simp -implicitDefEqProofs (disch := omega) only [go_sem]
  refine call_x (indexByteString_x l b) ?_
  simp -implicitDefEqProofs (disch := omega) only [go_sem]
theorem slIndex1_ok (l : List UInt8) (b : UInt8) (hl : [b] ≠ l) : PCall Tryz.prog 380 [.c (.d (.s l)), .c (.d (.s [b]))] (.c (.d (.i .i64 (firstIdx ⟨l.toArray⟩ b)))) := fun S => by
  have c1 : decide (((1 : Nat) : Int) = 0) = false := rfl
  have c2 : decide (((1 : Nat) : Int) = 1) = true := rfl
  refine acall_cw (rs := [.tmp 4]) Tryz.checked.mixed Tryz.func380 Tryz.ntmps380 rfl rfl rfl rfl rfl ?_
  simp -implicitDefEqProofs (disch := omega) only [go_sem, c1, c2]
  with_reducible refine split2 (fun hb => ?_) (fun hb => ?_) <;> have h := hb <;> (try simp only [wf_preprocess] at h) <;> simp -implicitDefEqProofs (disch := omega) only [go_sem, hb, c1, c2] <;> (repeat (with_reducible refine And.intro ?_ ?_; focus first | omega | rfl | assumption | exact ⟨_, rfl, rfl⟩ | (simp; omega) | (simp; done)))
  · exact absurd h hl
  refine call_w (indexByte_ok l b) ?_
  simp -implicitDefEqProofs (disch := omega) only [go_sem] <;> (repeat (with_reducible refine And.intro ?_ ?_; focus first | omega | rfl | assumption | exact ⟨_, rfl, rfl⟩ | (simp; omega) | (simp; done)))
theorem index1_ok (l : List UInt8) (b : UInt8) (hl : [b] ≠ l) : PCall Tryz.prog 368 [.c (.d (.s l)), .c (.d (.s [b]))] (.c (.d (.i .i64 (firstIdx ⟨l.toArray⟩ b)))) := fun S => by
  refine acall_cw (rs := [.tmp 4]) Tryz.checked.mixed Tryz.func368 Tryz.ntmps368 rfl rfl rfl rfl rfl ?_
  simp -implicitDefEqProofs (disch := omega) only [go_sem]
  refine call_w (slIndex1_ok l b hl) ?_
  simp -implicitDefEqProofs (disch := omega) only [go_sem] <;> (repeat (with_reducible refine And.intro ?_ ?_; focus first | omega | rfl | assumption | exact ⟨_, rfl, rfl⟩ | (simp; omega) | (simp; done)))
theorem contains1_ok (l : List UInt8) (b : UInt8) (hl : [b] ≠ l) : PCall Tryz.prog 349 [.c (.d (.s l)), .c (.d (.s [b]))] (.c (.d (.b (decide (firstIdx ⟨l.toArray⟩ b ≥ 0))))) := fun S => by
  refine acall_cw (rs := [.tmp 4]) Tryz.checked.mixed Tryz.func349 Tryz.ntmps349 rfl rfl rfl rfl rfl ?_
  simp -implicitDefEqProofs (disch := omega) only [go_sem]
  refine call_w (index1_ok l b hl) ?_
  simp -implicitDefEqProofs (disch := omega) only [go_sem] <;> (repeat (with_reducible refine And.intro ?_ ?_; focus first | omega | rfl | assumption | exact ⟨_, rfl, rfl⟩ | (simp; omega) | (simp; done)))
theorem isOperator_ok (s : List UInt8) : PCall Tryz.prog 328 [.c (.d (.s s))] (.c (.d (.b (dec (s ∈ ops))))) := fun S => by
  refine acall_cw (rs := [.tmp 2]) Tryz.checked.mixed Tryz.func328 Tryz.ntmps328 rfl rfl rfl rfl rfl ?_
  simp -implicitDefEqProofs (disch := omega) only [go_sem]
  with_reducible refine split2 (fun hb => ?_) (fun hb => ?_) <;> have h := hb <;> (try simp only [wf_preprocess] at h) <;> simp -implicitDefEqProofs (disch := omega) only [go_sem, hb] <;> (repeat (with_reducible refine And.intro ?_ ?_; focus first | omega | rfl | assumption | exact ⟨_, rfl, rfl⟩ | (simp; omega) | (simp; done)))
  · obtain ⟨b, rfl⟩ := List.length_eq_one_iff.1 (show s.length = 1 by omega)
    refine call_w (contains1_ok [43, 45, 42, 60, 61] b (by intro x; cases x)) ?_
    simp -implicitDefEqProofs (disch := omega) only [go_sem] <;> (repeat (with_reducible refine And.intro ?_ ?_; focus first | omega | rfl | assumption | exact ⟨_, rfl, rfl⟩ | (simp; omega) | (simp; done)))
    exact bool_eq (ops_idx b)
  · exact bool_eq (dec_false fun x => h (by rw [op_len x]; rfl)).symm
theorem isZeroType_ok (t : MType) : PCall Tryz.prog 238 [t.v] (.c (.d (.b (dec (zeroT t))))) := fun S => by
  refine acall_cw (rs := [.tmp 2]) Tryz.checked.mixed Tryz.func238 Tryz.ntmps238 rfl rfl rfl rfl rfl ?_
  simp -implicitDefEqProofs (disch := omega) only [go_sem]
  repeat' (first
    | with_reducible refine split2 (fun hb => ?_) (fun hb => ?_) <;> have h := hb <;> (try simp only [wf_preprocess] at h) <;> simp -implicitDefEqProofs (disch := omega) only [go_sem, hb] <;> (repeat (with_reducible refine And.intro ?_ ?_; focus first | omega | rfl | assumption | exact ⟨_, rfl, rfl⟩ | (simp; omega) | (simp; done)))
    | (refine bool_eq ?_; unfold zeroT; grind [dec_true, dec_false, of_dec, of_dec_false]))
theorem argCount_ok (k : Int) : PCall Tryz.prog 327 [.c (.d (.i .i64 k))] (.tup [(false, [.d (.i .i64 (argLo k))]), (false, [.d (.i .i64 (argHi k))])]) := fun S => by
  refine acall_cw (rs := [.tmp 2, .tmp 3]) Tryz.checked.mixed Tryz.func327 Tryz.ntmps327 rfl rfl rfl rfl rfl ?_
  simp -implicitDefEqProofs (disch := omega) only [go_sem]
  repeat' (first
    | with_reducible refine split2 (fun hb => ?_) (fun hb => ?_) <;> have h := hb <;> (try simp only [wf_preprocess] at h) <;> simp -implicitDefEqProofs (disch := omega) only [go_sem, hb] <;> (repeat (with_reducible refine And.intro ?_ ?_; focus first | omega | rfl | assumption | exact ⟨_, rfl, rfl⟩ | (simp; omega) | (simp; done)))
    | (unfold argLo argHi; grind))
end Go.Proofs.YtlmhknhlmicmeaaGreatDoor

namespace Go.Ab
theorem atoms_idx (b : UInt8) : decide (firstIdx ⟨[39, 45, 43, 42, 60, 61, 46].toArray⟩ b ≥ 0) = decide (b ∈ ([39, 45, 43, 42, 60, 61, 46] : List UInt8)) := by
  have h : ∀ n : Nat, n < 256 → decide (firstIdx ⟨[39, 45, 43, 42, 60, 61, 46].toArray⟩ (UInt8.ofNat n) ≥ 0) = decide (UInt8.ofNat n ∈ ([39, 45, 43, 42, 60, 61, 46] : List UInt8)) := by decide +kernel
  have h1 := h b.toNat (UInt8.toNat_lt b)
  rwa [UInt8.ofNat_toNat] at h1
theorem atom_mem (b : UInt8) : b ∈ ([39, 45, 43, 42, 60, 61, 46] : List UInt8) ↔ (b.toNat = 39 ∨ b.toNat = 45 ∨ b.toNat = 43 ∨ b.toNat = 42 ∨ b.toNat = 60 ∨ b.toNat = 61 ∨ b.toNat = 46) := by
  have h : ∀ n : Nat, n < 256 → (UInt8.ofNat n ∈ ([39, 45, 43, 42, 60, 61, 46] : List UInt8) ↔ (n = 39 ∨ n = 45 ∨ n = 43 ∨ n = 42 ∨ n = 60 ∨ n = 61 ∨ n = 46)) := by decide +kernel
  have h1 := h b.toNat (UInt8.toNat_lt b)
  rwa [UInt8.ofNat_toNat] at h1
theorem atomByte_iff (b : UInt8) : atomByte b = true ↔ (97 ≤ b.toNat ∧ b.toNat ≤ 122) ∨ (48 ≤ b.toNat ∧ b.toNat ≤ 57) ∨ b.toNat = 39 ∨ b.toNat = 45 ∨ b.toNat = 43 ∨ b.toNat = 42 ∨ b.toNat = 60 ∨ b.toNat = 61 ∨ b.toNat = 46 := by
  unfold atomByte
  rw [Bool.or_eq_true, Bool.or_eq_true, decide_eq_true_eq, decide_eq_true_eq, decide_eq_true_eq, atom_mem, or_assoc]
theorem all_false {s : List UInt8} {i : Nat} (hi : i < s.length) (h : atomByte s[i] = false) : s.all atomByte = false := by
  rw [List.all_eq_false]
  exact ⟨s[i], List.getElem_mem hi, by simp [h]⟩
theorem all_true {s : List UInt8} (h : ∀ j (hj : j < s.length), atomByte s[j] = true) : s.all atomByte = true := by
  rw [List.all_eq_true]
  intro b hb
  obtain ⟨j, hj, e⟩ := List.getElem_of_mem hb
  rw [← e]; exact h j hj
theorem arg_szX {x : MSExpr} {i : Nat} (hi : i < x.fList.length) (h : x.sz ≤ 67108864) : x.fList[i].sz ≤ 67108864 ∧ x.fList.length ≤ 67108864 ∧ x.fAtom.length ≤ 67108864 := by
  have := szX_mem (List.getElem_mem hi)
  rw [sx_sz, szX_rows] at h
  omega
theorem sx_szX {x : MSExpr} (h : x.sz ≤ 67108864) : x.fList.length ≤ 67108864 ∧ x.fAtom.length ≤ 67108864 := by
  rw [sx_sz, szX_rows] at h
  omega
theorem formXs_drop {l : List MSExpr} {i : Nat} (hi : i < l.length) : formXs (l.drop i) = (formX l[i] && formXs (l.drop (i + 1))) := by rw [List.drop_eq_getElem_cons hi, formXs]
theorem depthXs_drop {l : List MSExpr} {i : Nat} (hi : i < l.length) : depthXs (l.drop i) = max (depthX l[i]) (depthXs (l.drop (i + 1))) := by rw [List.drop_eq_getElem_cons hi, depthXs]
theorem nodeXs_drop {l : List MSExpr} {i : Nat} (hi : i < l.length) : nodeXs (l.drop i) = nodeX l[i] + nodeXs (l.drop (i + 1)) := by rw [List.drop_eq_getElem_cons hi, nodeXs]
theorem node_lim {x : MSExpr} (h : x.sz ≤ 67108864) : nodeX x ≤ 67108865 := by have := nodeX_sz x; omega
theorem MSExpr.lt_fl {x : MSExpr} {i : Nat} (hi : i < x.fList.length) : SizeOf.sizeOf x.fList[i] < SizeOf.sizeOf x := by
  have := List.sizeOf_lt_of_mem (List.getElem_mem hi)
  have := MSExpr.lt_List x
  omega
end Go.Ab
namespace Go.Proofs.YtlmhknhlmicmeaaGreatDoor
open Go Go.Ab
theorem strIndexByte_ok (l : List UInt8) (b : UInt8) : PCall Tryz.prog 344 [.c (.d (.s l)), .c (.d (.i .u8 b.toNat))] (.c (.d (.i .i64 (firstIdx ⟨l.toArray⟩ b)))) := fun S => by
  refine acall_cw (rs := [.tmp 4]) Tryz.checked.mixed Tryz.func344 Tryz.ntmps344 rfl rfl rfl rfl rfl ?_
  simp -implicitDefEqProofs (disch := omega) only [go_sem]
  refine call_w (indexByte_ok l b) ?_
  simp -implicitDefEqProofs (disch := omega) only [go_sem] <;> (repeat (with_reducible refine And.intro ?_ ?_; focus first | omega | rfl | assumption | exact ⟨_, rfl, rfl⟩ | (simp; omega) | (simp; done)))
theorem isAtomByte_ok (b : UInt8) : PCall Tryz.prog 318 [.c (.d (.i .u8 b.toNat))] (.c (.d (.b (atomByte b)))) := fun S => by
  refine acall_cw (rs := [.tmp 2]) Tryz.checked.mixed Tryz.func318 Tryz.ntmps318 rfl rfl rfl rfl rfl ?_
  simp -implicitDefEqProofs (disch := omega) only [go_sem]
  refine call_w (isLower_ok b) ?_
  simp -implicitDefEqProofs (disch := omega) only [go_sem] <;> (repeat (with_reducible refine And.intro ?_ ?_; focus first | omega | rfl | assumption | exact ⟨_, rfl, rfl⟩ | (simp; omega) | (simp; done)))
  with_reducible refine split2 (fun hb => ?_) (fun hb => ?_) <;> have h := hb <;> (try simp only [wf_preprocess] at h) <;> simp -implicitDefEqProofs (disch := omega) only [go_sem, hb] <;> (repeat (with_reducible refine And.intro ?_ ?_; focus first | omega | rfl | assumption | exact ⟨_, rfl, rfl⟩ | (simp; omega) | (simp; done)))
  · exact bool_eq ((atomByte_iff b).2 (.inl h)).symm
  have h1 := h
  refine call_w (isDigit_ok b) ?_
  simp -implicitDefEqProofs (disch := omega) only [go_sem] <;> (repeat (with_reducible refine And.intro ?_ ?_; focus first | omega | rfl | assumption | exact ⟨_, rfl, rfl⟩ | (simp; omega) | (simp; done)))
  with_reducible refine split2 (fun hb => ?_) (fun hb => ?_) <;> have h := hb <;> (try simp only [wf_preprocess] at h) <;> simp -implicitDefEqProofs (disch := omega) only [go_sem, hb] <;> (repeat (with_reducible refine And.intro ?_ ?_; focus first | omega | rfl | assumption | exact ⟨_, rfl, rfl⟩ | (simp; omega) | (simp; done)))
  · exact bool_eq ((atomByte_iff b).2 (.inr (.inl h))).symm
  have h2 := h
  refine call_w (strIndexByte_ok [39, 45, 43, 42, 60, 61, 46] b) ?_
  simp -implicitDefEqProofs (disch := omega) only [go_sem] <;> (repeat (with_reducible refine And.intro ?_ ?_; focus first | omega | rfl | assumption | exact ⟨_, rfl, rfl⟩ | (simp; omega) | (simp; done)))
  refine bool_eq ?_
  rw [atoms_idx]
  unfold atomByte
  unfold lowerB at h1
  unfold digitB at h2
  simp [h1, h2]
theorem implAtomOk (s : List UInt8) (hs : s.length ≤ 1073741824) : PCall Tryz.prog 268 [.c (.d (.s s))] (.c (.d (.b (validAtom s)))) := fun S => by
  refine acall_cw (rs := [.tmp 2]) Tryz.checked.mixed Tryz.func268 Tryz.ntmps268 rfl rfl rfl rfl rfl ?_
  simp -implicitDefEqProofs (disch := omega) only [go_sem]
  refine loop_at (ι := Nat) Tryz.checked.mixed rfl [0, 5, 6] (fun i => [.c (.d (.s s)), .c (.d (.i .i64 s.length)), .c (.d (.i .i64 i))]) (fun _ => [] :: S)
    (fun i => i ≤ s.length ∧ ∀ j, ∀ hj : j < s.length, j < i → atomByte s[j] = true) (fun i => s.length - i) 0 rfl rfl ⟨Nat.zero_le _, fun j _ h => by omega⟩ ?_
  rintro i ⟨p1, p2⟩
  simp -implicitDefEqProofs (disch := omega) only [go_sem]
  with_reducible refine split2 (fun hb => ?_) (fun hb => ?_) <;> have h := hb <;> (try simp only [wf_preprocess] at h) <;> simp -implicitDefEqProofs (disch := omega) only [go_sem, hb] <;> (repeat (with_reducible refine And.intro ?_ ?_; focus first | omega | rfl | assumption | exact ⟨_, rfl, rfl⟩ | (simp; omega) | (simp; done)))
  · have hi : i < s.length := by omega
    have e : s.getD i 0 = s[i] := by simp [List.getD, hi]
    (repeat (with_reducible refine And.intro ?_ ?_; focus first | omega | rfl | assumption | exact ⟨_, rfl, rfl⟩ | (simp; omega) | (simp; done)))
    rw [e]
    refine call_w (isAtomByte_ok s[i]) ?_
    simp -implicitDefEqProofs (disch := omega) only [go_sem] <;> (repeat (with_reducible refine And.intro ?_ ?_; focus first | omega | rfl | assumption | exact ⟨_, rfl, rfl⟩ | (simp; omega) | (simp; done)))
    with_reducible refine split2 (fun hb => ?_) (fun hb => ?_) <;> have h := hb <;> (try simp only [wf_preprocess] at h) <;> simp -implicitDefEqProofs (disch := omega) only [go_sem, hb] <;> (repeat (with_reducible refine And.intro ?_ ?_; focus first | omega | rfl | assumption | exact ⟨_, rfl, rfl⟩ | (simp; omega) | (simp; done)))
    · exact bool_eq (by unfold validAtom; rw [all_false hi h]; rfl)
    · refine inv_at (i + 1) (by omega) rfl rfl ⟨by omega, fun j hj hji => ?_⟩
      by_cases e' : j = i
      · subst e'; exact h
      · exact p2 j hj (by omega)
  · have ha := all_true (s := s) (fun j hj => p2 j hj (by omega))
    with_reducible refine split2 (fun hb => ?_) (fun hb => ?_) <;> have h := hb <;> (try simp only [wf_preprocess] at h) <;> simp -implicitDefEqProofs (disch := omega) only [go_sem, hb] <;> (repeat (with_reducible refine And.intro ?_ ?_; focus first | omega | rfl | assumption | exact ⟨_, rfl, rfl⟩ | (simp; omega) | (simp; done)))
    · refine bool_eq ?_
      unfold validAtom
      rw [ha, Bool.true_and]
      exact decide_eq_decide.2 (by omega)
    · refine bool_eq ?_
      unfold validAtom
      rw [ha, Bool.true_and]
      exact (decide_eq_false (by omega)).symm
theorem l2Byte_ok (b : UInt8) : PCall Tryz.prog 322 [.c (.d (.i .u8 b.toNat))] (.c (.d (.b (atomByte b)))) := fun S => by
  have yes : ((97 ≤ b.toNat ∧ b.toNat ≤ 122) ∨ (48 ≤ b.toNat ∧ b.toNat ≤ 57) ∨ b.toNat = 39 ∨ b.toNat = 45 ∨ b.toNat = 43 ∨ b.toNat = 42 ∨ b.toNat = 60 ∨ b.toNat = 61 ∨ b.toNat = 46) → atomByte b = true := (atomByte_iff b).2
  have no : ¬ ((97 ≤ b.toNat ∧ b.toNat ≤ 122) ∨ (48 ≤ b.toNat ∧ b.toNat ≤ 57) ∨ b.toNat = 39 ∨ b.toNat = 45 ∨ b.toNat = 43 ∨ b.toNat = 42 ∨ b.toNat = 60 ∨ b.toNat = 61 ∨ b.toNat = 46) → atomByte b = false := fun h => by
    cases hb : atomByte b with
    | false => rfl
    | true => exact absurd ((atomByte_iff b).1 hb) h
  refine acall_cw (rs := [.tmp 2]) Tryz.checked.mixed Tryz.func322 Tryz.ntmps322 rfl rfl rfl rfl rfl ?_
  simp -implicitDefEqProofs (disch := omega) only [go_sem]
  repeat' (first | (with_reducible refine split2 (fun hb => ?_) (fun hb => ?_) <;> have h := hb <;> (try simp only [wf_preprocess] at h) <;> simp -implicitDefEqProofs (disch := omega) only [go_sem, hb] <;> (repeat (with_reducible refine And.intro ?_ ?_; focus first | omega | rfl | assumption | exact ⟨_, rfl, rfl⟩ | (simp; omega) | (simp; done)))))
  all_goals first
    | exact bool_eq (yes (by omega)).symm
    | exact bool_eq (no (by omega)).symm
    | (refine bool_eq ?_; cases hb : atomByte b <;> simp only [decide_eq_true_eq, decide_eq_false_iff_not] <;> (first | (have := (atomByte_iff b).1 hb; omega) | (intro q; have := yes (by omega); rw [hb] at this; cases this)))
theorem specAtomOk (s : List UInt8) (hs : s.length ≤ 1073741824) : PCall Tryz.prog 275 [.c (.d (.s s))] (.c (.d (.b (validAtom s)))) := fun S => by
  refine acall_cw (rs := [.tmp 2]) Tryz.checked.mixed Tryz.func275 Tryz.ntmps275 rfl rfl rfl rfl rfl ?_
  simp -implicitDefEqProofs (disch := omega) only [go_sem]
  refine loop_at (ι := Nat) Tryz.checked.mixed rfl [0, 3] (fun i => [.c (.d (.s s)), .c (.d (.i .i64 i))]) (fun _ => [] :: S)
    (fun i => i ≤ s.length ∧ ∀ j, ∀ hj : j < s.length, j < i → atomByte s[j] = true) (fun i => s.length - i) 0 rfl rfl ⟨Nat.zero_le _, fun j _ h => by omega⟩ ?_
  rintro i ⟨p1, p2⟩
  simp -implicitDefEqProofs (disch := omega) only [go_sem]
  with_reducible refine split2 (fun hb => ?_) (fun hb => ?_) <;> have h := hb <;> (try simp only [wf_preprocess] at h) <;> simp -implicitDefEqProofs (disch := omega) only [go_sem, hb] <;> (repeat (with_reducible refine And.intro ?_ ?_; focus first | omega | rfl | assumption | exact ⟨_, rfl, rfl⟩ | (simp; omega) | (simp; done)))
  · have hi : i < s.length := by omega
    have e : s.getD i 0 = s[i] := by simp [List.getD, hi]
    (repeat (with_reducible refine And.intro ?_ ?_; focus first | omega | rfl | assumption | exact ⟨_, rfl, rfl⟩ | (simp; omega) | (simp; done)))
    rw [e]
    refine call_w (l2Byte_ok s[i]) ?_
    simp -implicitDefEqProofs (disch := omega) only [go_sem] <;> (repeat (with_reducible refine And.intro ?_ ?_; focus first | omega | rfl | assumption | exact ⟨_, rfl, rfl⟩ | (simp; omega) | (simp; done)))
    with_reducible refine split2 (fun hb => ?_) (fun hb => ?_) <;> have h := hb <;> (try simp only [wf_preprocess] at h) <;> simp -implicitDefEqProofs (disch := omega) only [go_sem, hb] <;> (repeat (with_reducible refine And.intro ?_ ?_; focus first | omega | rfl | assumption | exact ⟨_, rfl, rfl⟩ | (simp; omega) | (simp; done)))
    · exact bool_eq (by unfold validAtom; rw [all_false hi h]; rfl)
    · refine inv_at (i + 1) (by omega) rfl rfl ⟨by omega, fun j hj hji => ?_⟩
      by_cases e' : j = i
      · subst e'; exact h
      · exact p2 j hj (by omega)
  · have ha := all_true (s := s) (fun j hj => p2 j hj (by omega))
    refine call_w (l1In_ok s.length 1 12) ?_
    simp -implicitDefEqProofs (disch := omega) only [go_sem] <;> (repeat (with_reducible refine And.intro ?_ ?_; focus first | omega | rfl | assumption | exact ⟨_, rfl, rfl⟩ | (simp; omega) | (simp; done)))
    refine bool_eq ?_
    unfold validAtom
    rw [ha, Bool.true_and, ← decide_dec]
    exact decide_eq_decide.2 (by omega)
theorem areAtoms_all : ∀ n : Nat, (∀ x : MSExpr, SizeOf.sizeOf x < n → x.sz ≤ 67108864 → PCall Tryz.prog 177 [x.v] (.c (.d (.b (formX x))))) ∧
    (∀ xs : List MSExpr, SizeOf.sizeOf xs < n → xs.length ≤ 67108864 → (∀ t ∈ xs, t.sz ≤ 67108864) → PCall Tryz.prog 269 [.c (.d (.sl (xs.map MSExpr.enc))), .c (.fn 270 [])] (.c (.d (.b (!formXs xs)))))
  | 0 => ⟨fun x h => by omega, fun x h => by omega⟩
  | n + 1 => by
    obtain ⟨ih, ihS⟩ := areAtoms_all n
    refine ⟨fun x hn hsz S => ?_, fun xs hn hlen hsz S => ?_⟩
    · have lArgs := MSExpr.lt_List x
      have hts := sx_szX hsz
      have hall : ∀ t ∈ x.fList, t.sz ≤ 67108864 := fun t ht => by
        obtain ⟨i, hi, e⟩ := List.getElem_of_mem ht
        rw [← e]; exact (arg_szX hi hsz).1
      have tail := ihS x.fList (by omega) hts.1 hall
      have hf := formX_eq x
      refine acall_cw (rs := [.tmp 2]) Tryz.checked.mixed Tryz.func177 Tryz.ntmps177 rfl rfl rfl rfl rfl ?_
      simp -implicitDefEqProofs (disch := omega) only [go_sem]
      with_reducible refine split2 (fun hb => ?_) (fun hb => ?_) <;> have h := hb <;> (try simp only [wf_preprocess] at h) <;> simp -implicitDefEqProofs (disch := omega) only [go_sem, hb] <;> (repeat (with_reducible refine And.intro ?_ ?_; focus first | omega | rfl | assumption | exact ⟨_, rfl, rfl⟩ | (simp; omega) | (simp; done)))
      · rw [if_neg h] at hf
        refine call_w (implAtomOk x.fAtom (by omega)) ?_
        simp -implicitDefEqProofs (disch := omega) only [go_sem] <;> (repeat (with_reducible refine And.intro ?_ ?_; focus first | omega | rfl | assumption | exact ⟨_, rfl, rfl⟩ | (simp; omega) | (simp; done)))
        with_reducible refine split2 (fun hb => ?_) (fun hb => ?_) <;> have h := hb <;> (try simp only [wf_preprocess] at h) <;> simp -implicitDefEqProofs (disch := omega) only [go_sem, hb] <;> (repeat (with_reducible refine And.intro ?_ ?_; focus first | omega | rfl | assumption | exact ⟨_, rfl, rfl⟩ | (simp; omega) | (simp; done)))
        · rw [hf, h, Bool.true_and]
          exact bool_eq (decide_eq_decide.2 (by omega))
        · rw [hf, h, Bool.false_and]
      · rw [if_pos h] at hf
        refine call_w tail ?_
        simp -implicitDefEqProofs (disch := omega) only [go_sem]
        rw [hf, Bool.not_not]
    · have hcl : ∀ y ∈ xs, PCall Tryz.prog 270 [y.v] (.c (.d (.b (!formX y)))) := fun y hy S => by
        have hys := List.sizeOf_lt_of_mem hy
        refine acall_cw (rs := [.tmp 2]) Tryz.checked.mixed Tryz.func270 Tryz.ntmps270 rfl rfl rfl rfl rfl ?_
        simp -implicitDefEqProofs (disch := omega) only [go_sem]
        refine call_w (ih y (by omega) (hsz y hy)) ?_
        simp -implicitDefEqProofs (disch := omega) only [go_sem] <;> (repeat (with_reducible refine And.intro ?_ ?_; focus first | omega | rfl | assumption | exact ⟨_, rfl, rfl⟩ | (simp; omega) | (simp; done)))
      have hidx : PCall Tryz.prog 319 [.c (.d (.sl (xs.map MSExpr.enc))), .c (.fn 270 [])] (.c (.d (.i .i64 (indexP (fun y => !formX y) xs)))) := fun S => by
        refine acall_cw (rs := [.tmp 4]) Tryz.checked.mixed Tryz.func319 Tryz.ntmps319 rfl rfl rfl rfl rfl ?_
        simp -implicitDefEqProofs (disch := omega) only [go_sem]
        refine loop_at (ι := Nat) Tryz.checked.mixed rfl [0, 1, 7, 8] (fun i => [.c (.d (.sl (xs.map MSExpr.enc))), .c (.fn 270 []), .c (.d (.i .i64 xs.length)), .c (.d (.i .i64 i))]) (fun _ => [] :: S)
          (fun i => i ≤ xs.length ∧ ∀ j, ∀ hj : j < xs.length, j < i → formX xs[j] = true) (fun i => xs.length - i) 0 rfl rfl ⟨Nat.zero_le _, fun j _ h => by omega⟩ ?_
        rintro i ⟨p1, p2⟩
        simp -implicitDefEqProofs (disch := omega) only [go_sem]
        with_reducible refine split2 (fun hb => ?_) (fun hb => ?_) <;> have h := hb <;> (try simp only [wf_preprocess] at h) <;> simp -implicitDefEqProofs (disch := omega) only [go_sem, hb] <;> (repeat (with_reducible refine And.intro ?_ ?_; focus first | omega | rfl | assumption | exact ⟨_, rfl, rfl⟩ | (simp; omega) | (simp; done)))
        · have hi : i < xs.length := by omega
          (repeat (with_reducible refine And.intro ?_ ?_; focus first | omega | rfl | assumption | exact ⟨_, rfl, rfl⟩ | (simp; omega) | (simp; done)))
          refine call_w (hcl xs[i] (List.getElem_mem hi)) ?_
          simp -implicitDefEqProofs (disch := omega) only [go_sem] <;> (repeat (with_reducible refine And.intro ?_ ?_; focus first | omega | rfl | assumption | exact ⟨_, rfl, rfl⟩ | (simp; omega) | (simp; done)))
          with_reducible refine split2 (fun hb => ?_) (fun hb => ?_) <;> have h := hb <;> (try simp only [wf_preprocess] at h) <;> simp -implicitDefEqProofs (disch := omega) only [go_sem, hb] <;> (repeat (with_reducible refine And.intro ?_ ?_; focus first | omega | rfl | assumption | exact ⟨_, rfl, rfl⟩ | (simp; omega) | (simp; done)))
          · rw [indexP_here hi (fun j hj hji => by rw [p2 j hj hji]; rfl) (by rw [h]; rfl)]
          · refine inv_at (i + 1) (by omega) rfl rfl ⟨by omega, fun j hj hji => ?_⟩
            by_cases e : j = i
            · subst e; exact h
            · exact p2 j hj (by omega)
        · rw [indexP_no (fun j hj => by rw [p2 j hj (by omega)]; rfl)]
      refine acall_cw (rs := [.tmp 4]) Tryz.checked.mixed Tryz.func269 Tryz.ntmps269 rfl rfl rfl rfl rfl ?_
      simp -implicitDefEqProofs (disch := omega) only [go_sem]
      refine call_w (hidx) ?_
      simp -implicitDefEqProofs (disch := omega) only [go_sem] <;> (repeat (with_reducible refine And.intro ?_ ?_; focus first | omega | rfl | assumption | exact ⟨_, rfl, rfl⟩ | (simp; omega) | (simp; done)))
      rw [← formXs_any]
      exact bool_eq indexP_pos
theorem areAtoms_ok (x : MSExpr) (hsz : x.sz ≤ 67108864) : PCall Tryz.prog 177 [x.v] (.c (.d (.b (formX x)))) := (areAtoms_all _).1 x (Nat.lt_succ_self _) hsz
theorem implDepthX_all : ∀ n : Nat, ∀ x : MSExpr, SizeOf.sizeOf x < n → x.sz ≤ 67108864 → PCall Tryz.prog 178 [x.v] (.c (.d (.i .i64 (depthX x))))
  | 0 => fun x h => by omega
  | n + 1 => by
    have ih := implDepthX_all n
    intro x hn hsz S
    have hts := sx_szX hsz
    have hd := depthX_eq x
    have hd1 := depthX_node x
    have hd2 := node_lim hsz
    refine acall_cw (rs := [.tmp 2]) Tryz.checked.mixed Tryz.func178 Tryz.ntmps178 rfl rfl rfl rfl rfl ?_
    simp -implicitDefEqProofs (disch := omega) only [go_sem]
    with_reducible refine split2 (fun hb => ?_) (fun hb => ?_) <;> have h := hb <;> (try simp only [wf_preprocess] at h) <;> simp -implicitDefEqProofs (disch := omega) only [go_sem, hb] <;> (repeat (with_reducible refine And.intro ?_ ?_; focus first | omega | rfl | assumption | exact ⟨_, rfl, rfl⟩ | (simp; omega) | (simp; done)))
    · rw [if_neg h] at hd
      rw [hd]; rfl
    rw [if_pos h] at hd
    refine loop_at (ι := Nat × Nat) Tryz.checked.mixed rfl [3, 10, 11, 12] (fun y => [.c (.d (.i .i64 y.2)), .c (.d (.sl (x.fList.map MSExpr.enc))), .c (.d (.i .i64 x.fList.length)), .c (.d (.i .i64 y.1))]) (fun y => [.box [.d (.s x.fAtom), .d (.sl (x.fList.map MSExpr.enc))]] :: S)
      (fun y => y.1 ≤ x.fList.length ∧ depthX x = max y.2 (depthXs (x.fList.drop y.1)) + 1) (fun y => x.fList.length - y.1) (0, 0) rfl rfl ⟨Nat.zero_le _, by simp [hd]⟩ ?_
    rintro ⟨i, c⟩ ⟨p1, p2⟩
    simp only at p1 p2
    simp -implicitDefEqProofs (disch := omega) only [go_sem]
    with_reducible refine split2 (fun hb => ?_) (fun hb => ?_) <;> have h := hb <;> (try simp only [wf_preprocess] at h) <;> simp -implicitDefEqProofs (disch := omega) only [go_sem, hb] <;> (repeat (with_reducible refine And.intro ?_ ?_; focus first | omega | rfl | assumption | exact ⟨_, rfl, rfl⟩ | (simp; omega) | (simp; done)))
    · have hi : i < x.fList.length := by omega
      have hsz' := arg_szX hi hsz
      rw [depthXs_drop hi] at p2
      (repeat (with_reducible refine And.intro ?_ ?_; focus first | omega | rfl | assumption | exact ⟨_, rfl, rfl⟩ | (simp; omega) | (simp; done)))
      refine call_w (ih x.fList[i] (by have := MSExpr.lt_fl hi; omega) (by omega)) ?_
      simp -implicitDefEqProofs (disch := omega) only [go_sem] <;> (repeat (with_reducible refine And.intro ?_ ?_; focus first | omega | rfl | assumption | exact ⟨_, rfl, rfl⟩ | (simp; omega) | (simp; done)))
      rw [show max (c : Int) ((depthX x.fList[i] : Int)) = ((max c (depthX x.fList[i]) : Nat) : Int) by omega]
      exact inv_drop 1 (by decide) (i + 1, max c (depthX x.fList[i])) (by simp only; omega) rfl rfl rfl rfl ⟨by simp only; omega, by simp only; omega⟩
    · have hi : i = x.fList.length := by omega
      rw [hi, List.drop_length, depthXs] at p2
      (repeat (with_reducible refine And.intro ?_ ?_; focus first | omega | rfl | assumption | exact ⟨_, rfl, rfl⟩ | (simp; omega) | (simp; done)))
      exact int_eq (by omega)
theorem implDepthX_ok (x : MSExpr) (hsz : x.sz ≤ 67108864) : PCall Tryz.prog 178 [x.v] (.c (.d (.i .i64 (depthX x)))) := implDepthX_all _ x (Nat.lt_succ_self _) hsz
theorem implNodeX_all : ∀ n : Nat, ∀ x : MSExpr, SizeOf.sizeOf x < n → x.sz ≤ 67108864 → PCall Tryz.prog 179 [x.v] (.c (.d (.i .i64 (nodeX x))))
  | 0 => fun x h => by omega
  | n + 1 => by
    have ih := implNodeX_all n
    intro x hn hsz S
    have hts := sx_szX hsz
    have hd2 := node_lim hsz
    refine acall_cw (rs := [.tmp 2]) Tryz.checked.mixed Tryz.func179 Tryz.ntmps179 rfl rfl rfl rfl rfl ?_
    simp -implicitDefEqProofs (disch := omega) only [go_sem]
    refine loop_at (ι := Nat × Nat) Tryz.checked.mixed rfl [3, 7, 8, 9] (fun y => [.c (.d (.i .i64 y.2)), .c (.d (.sl (x.fList.map MSExpr.enc))), .c (.d (.i .i64 x.fList.length)), .c (.d (.i .i64 y.1))]) (fun y => [.box [.d (.s x.fAtom), .d (.sl (x.fList.map MSExpr.enc))]] :: S)
      (fun y => y.1 ≤ x.fList.length ∧ nodeX x = y.2 + nodeXs (x.fList.drop y.1)) (fun y => x.fList.length - y.1) (0, 1) rfl rfl ⟨Nat.zero_le _, by simp [nodeX_eq]; omega⟩ ?_
    rintro ⟨i, c⟩ ⟨p1, p2⟩
    simp only at p1 p2
    simp -implicitDefEqProofs (disch := omega) only [go_sem]
    with_reducible refine split2 (fun hb => ?_) (fun hb => ?_) <;> have h := hb <;> (try simp only [wf_preprocess] at h) <;> simp -implicitDefEqProofs (disch := omega) only [go_sem, hb] <;> (repeat (with_reducible refine And.intro ?_ ?_; focus first | omega | rfl | assumption | exact ⟨_, rfl, rfl⟩ | (simp; omega) | (simp; done)))
    · have hi : i < x.fList.length := by omega
      have hsz' := arg_szX hi hsz
      rw [nodeXs_drop hi] at p2
      (repeat (with_reducible refine And.intro ?_ ?_; focus first | omega | rfl | assumption | exact ⟨_, rfl, rfl⟩ | (simp; omega) | (simp; done)))
      refine call_w (ih x.fList[i] (by have := MSExpr.lt_fl hi; omega) (by omega)) ?_
      simp -implicitDefEqProofs (disch := omega) only [go_sem] <;> (repeat (with_reducible refine And.intro ?_ ?_; focus first | omega | rfl | assumption | exact ⟨_, rfl, rfl⟩ | (simp; omega) | (simp; done)))
      rw [show (c : Int) + (nodeX x.fList[i] : Int) = ((c + nodeX x.fList[i] : Nat) : Int) by omega]
      exact inv_drop 1 (by decide) (i + 1, c + nodeX x.fList[i]) (by simp only; omega) rfl rfl rfl rfl ⟨by simp only; omega, by simp only; omega⟩
    · have hi : i = x.fList.length := by omega
      rw [hi, List.drop_length, nodeXs] at p2
      exact int_eq (by omega)
theorem implNodeX_ok (x : MSExpr) (hsz : x.sz ≤ 67108864) : PCall Tryz.prog 179 [x.v] (.c (.d (.i .i64 (nodeX x)))) := implNodeX_all _ x (Nat.lt_succ_self _) hsz
theorem implValidX_ok (x : MSExpr) (hsz : x.sz ≤ 67108864) : PCall Tryz.prog 73 [x.v] (.c (.d (.b (validX x)))) := fun S => by
  refine acall_cw (rs := [.tmp 2]) Tryz.checked.mixed Tryz.func73 Tryz.ntmps73 rfl rfl rfl rfl rfl ?_
  simp -implicitDefEqProofs (disch := omega) only [go_sem]
  refine call_w (areAtoms_ok x hsz) ?_
  simp -implicitDefEqProofs (disch := omega) only [go_sem] <;> (repeat (with_reducible refine And.intro ?_ ?_; focus first | omega | rfl | assumption | exact ⟨_, rfl, rfl⟩ | (simp; omega) | (simp; done)))
  with_reducible refine split2 (fun hb => ?_) (fun hb => ?_) <;> have h := hb <;> (try simp only [wf_preprocess] at h) <;> simp -implicitDefEqProofs (disch := omega) only [go_sem, hb] <;> (repeat (with_reducible refine And.intro ?_ ?_; focus first | omega | rfl | assumption | exact ⟨_, rfl, rfl⟩ | (simp; omega) | (simp; done)))
  · have hf := h
    refine call_w (implDepthX_ok x hsz) ?_
    simp -implicitDefEqProofs (disch := omega) only [go_sem] <;> (repeat (with_reducible refine And.intro ?_ ?_; focus first | omega | rfl | assumption | exact ⟨_, rfl, rfl⟩ | (simp; omega) | (simp; done)))
    with_reducible refine split2 (fun hb => ?_) (fun hb => ?_) <;> have h := hb <;> (try simp only [wf_preprocess] at h) <;> simp -implicitDefEqProofs (disch := omega) only [go_sem, hb] <;> (repeat (with_reducible refine And.intro ?_ ?_; focus first | omega | rfl | assumption | exact ⟨_, rfl, rfl⟩ | (simp; omega) | (simp; done)))
    · refine call_w (implNodeX_ok x hsz) ?_
      simp -implicitDefEqProofs (disch := omega) only [go_sem] <;> (repeat (with_reducible refine And.intro ?_ ?_; focus first | omega | rfl | assumption | exact ⟨_, rfl, rfl⟩ | (simp; omega) | (simp; done)))
      refine bool_eq ?_
      unfold validX
      rw [hf, Bool.true_and]
      exact decide_eq_decide.2 (by omega)
    · refine bool_eq ?_
      unfold validX
      rw [hf, Bool.true_and]
      exact (decide_eq_false (by omega)).symm
  · refine bool_eq ?_
    unfold validX
    rw [h, Bool.false_and]
theorem l2Left_all : ∀ n : Nat, ∀ x : MSExpr, SizeOf.sizeOf x < n → ∀ l : Int, 0 ≤ l → l ≤ 1073741824 → x.sz ≤ 67108864 → PCall Tryz.prog 194 [x.v, .c (.d (.i .i64 l))] (.c (.d (.i .i64 (sub1 l (nodeX x)))))
  | 0 => fun x h => by omega
  | n + 1 => by
    have ih := l2Left_all n
    intro x hn l h0 h1 hsz S
    have hts := sx_szX hsz
    have hcn := nodeX_eq x
    refine acall_cw (rs := [.tmp 4]) Tryz.checked.mixed Tryz.func194 Tryz.ntmps194 rfl rfl rfl rfl rfl ?_
    simp -implicitDefEqProofs (disch := omega) only [go_sem]
    refine loop_at (ι := Nat × Int) Tryz.checked.mixed rfl [1, 2, 5] (fun y => [.c (.d (.i .i64 y.2)), .c (.ptr (0, 0) 0), .c (.d (.i .i64 y.1))]) (fun y => [.box [.d (.s x.fAtom), .d (.sl (x.fList.map MSExpr.enc))]] :: S)
      (fun y => y.1 ≤ x.fList.length ∧ -1 ≤ y.2 ∧ y.2 ≤ 1073741824 ∧ (0 ≤ y.2 → sub1 l (nodeX x) = sub1 y.2 (nodeXs (x.fList.drop y.1))) ∧ (y.2 < 0 → sub1 l (nodeX x) = -1)) (fun y => x.fList.length - y.1) (0, l - 1) rfl rfl ⟨Nat.zero_le _, by simp only; omega, by simp only; omega, fun h => ?_, fun h => ?_⟩ ?_
    · simp only [List.drop_zero] at h ⊢
      unfold sub1
      rw [hcn]
      split <;> split <;> omega
    · simp only at h
      exact sub1_no (by omega)
    rintro ⟨i, c⟩ ⟨p1, p2, p3, p4, p5⟩
    simp only at p1 p2 p3 p4 p5
    simp -implicitDefEqProofs (disch := omega) only [go_sem]
    with_reducible refine split2 (fun hb => ?_) (fun hb => ?_) <;> have h := hb <;> (try simp only [wf_preprocess] at h) <;> simp -implicitDefEqProofs (disch := omega) only [go_sem, hb] <;> (repeat (with_reducible refine And.intro ?_ ?_; focus first | omega | rfl | assumption | exact ⟨_, rfl, rfl⟩ | (simp; omega) | (simp; done)))
    · have hi : i < x.fList.length := by omega
      with_reducible refine split2 (fun hb => ?_) (fun hb => ?_) <;> have h := hb <;> (try simp only [wf_preprocess] at h) <;> simp -implicitDefEqProofs (disch := omega) only [go_sem, hb] <;> (repeat (with_reducible refine And.intro ?_ ?_; focus first | omega | rfl | assumption | exact ⟨_, rfl, rfl⟩ | (simp; omega) | (simp; done)))
      · have hsz' := arg_szX hi hsz
        have p6 := p4 h
        rw [nodeXs_drop hi] at p6
        (repeat (with_reducible refine And.intro ?_ ?_; focus first | omega | rfl | assumption | exact ⟨_, rfl, rfl⟩ | (simp; omega) | (simp; done)))
        refine call_w (ih x.fList[i] (by have := MSExpr.lt_fl hi; omega) c (by omega) (by omega) (by omega)) ?_
        simp -implicitDefEqProofs (disch := omega) only [go_sem] <;> (repeat (with_reducible refine And.intro ?_ ?_; focus first | omega | rfl | assumption | exact ⟨_, rfl, rfl⟩ | (simp; omega) | (simp; done)))
        refine inv_at (i + 1, sub1 c _) (by simp only; omega) rfl rfl ⟨by simp only; omega, ?_, ?_, fun h => ?_, fun h => ?_⟩
        · simp only; unfold sub1; split <;> omega
        · simp only; unfold sub1; split <;> omega
        · simp only at h ⊢
          rw [p6]
          have := sub1_nn (l := c) (a := nodeX x.fList[i]) (by omega)
          rw [this.1]
          unfold sub1
          split <;> split <;> omega
        · simp only at h ⊢
          rw [p6]
          have := sub1_neg h
          exact sub1_no (by omega)
      · have hc : c = -1 := by omega
        rw [p5 (by omega), hc]
    · have hi : i = x.fList.length := by omega
      by_cases hc : 0 ≤ c
      · rw [p4 hc, hi, List.drop_length, nodeXs, sub1_yes (by omega)]
        exact int_eq (by simp)
      · rw [p5 (by omega)]
        exact int_eq (by omega)
theorem l2Left_ok (x : MSExpr) (l : Int) (h0 : 0 ≤ l) (h1 : l ≤ 1073741824) (hsz : x.sz ≤ 67108864) : PCall Tryz.prog 194 [x.v, .c (.d (.i .i64 l))] (.c (.d (.i .i64 (sub1 l (nodeX x))))) := l2Left_all _ x (Nat.lt_succ_self _) l h0 h1 hsz
theorem l2Form_all : ∀ n : Nat, ∀ x : MSExpr, SizeOf.sizeOf x < n → x.sz ≤ 67108864 → PCall Tryz.prog 195 [x.v] (.c (.d (.b (formX x))))
  | 0 => fun x h => by omega
  | n + 1 => by
    have ih := l2Form_all n
    intro x hn hsz S
    have hts := sx_szX hsz
    have hf := formX_eq x
    refine acall_cw (rs := [.tmp 2]) Tryz.checked.mixed Tryz.func195 Tryz.ntmps195 rfl rfl rfl rfl rfl ?_
    simp -implicitDefEqProofs (disch := omega) only [go_sem]
    with_reducible refine split2 (fun hb => ?_) (fun hb => ?_) <;> have h := hb <;> (try simp only [wf_preprocess] at h) <;> simp -implicitDefEqProofs (disch := omega) only [go_sem, hb] <;> (repeat (with_reducible refine And.intro ?_ ?_; focus first | omega | rfl | assumption | exact ⟨_, rfl, rfl⟩ | (simp; omega) | (simp; done)))
    · rw [if_neg h] at hf
      refine call_w (specAtomOk x.fAtom (by omega)) ?_
      simp -implicitDefEqProofs (disch := omega) only [go_sem] <;> (repeat (with_reducible refine And.intro ?_ ?_; focus first | omega | rfl | assumption | exact ⟨_, rfl, rfl⟩ | (simp; omega) | (simp; done)))
      with_reducible refine split2 (fun hb => ?_) (fun hb => ?_) <;> have h := hb <;> (try simp only [wf_preprocess] at h) <;> simp -implicitDefEqProofs (disch := omega) only [go_sem, hb] <;> (repeat (with_reducible refine And.intro ?_ ?_; focus first | omega | rfl | assumption | exact ⟨_, rfl, rfl⟩ | (simp; omega) | (simp; done)))
      · rw [hf, h, Bool.true_and]
        exact bool_eq (decide_eq_decide.2 (by omega))
      · rw [hf, h, Bool.false_and]
    rw [if_pos h] at hf
    refine loop_at (ι := Nat) Tryz.checked.mixed rfl [1, 3] (fun y => [.c (.ptr (0, 0) 0), .c (.d (.i .i64 y))]) (fun y => [.box [.d (.s x.fAtom), .d (.sl (x.fList.map MSExpr.enc))]] :: S)
      (fun y => y ≤ x.fList.length ∧ formX x = formXs (x.fList.drop y)) (fun y => x.fList.length - y) 0 rfl rfl ⟨Nat.zero_le _, hf⟩ ?_
    rintro i ⟨p1, p2⟩
    simp -implicitDefEqProofs (disch := omega) only [go_sem]
    with_reducible refine split2 (fun hb => ?_) (fun hb => ?_) <;> have h := hb <;> (try simp only [wf_preprocess] at h) <;> simp -implicitDefEqProofs (disch := omega) only [go_sem, hb] <;> (repeat (with_reducible refine And.intro ?_ ?_; focus first | omega | rfl | assumption | exact ⟨_, rfl, rfl⟩ | (simp; omega) | (simp; done)))
    · have hi : i < x.fList.length := by omega
      have hsz' := arg_szX hi hsz
      rw [formXs_drop hi] at p2
      (repeat (with_reducible refine And.intro ?_ ?_; focus first | omega | rfl | assumption | exact ⟨_, rfl, rfl⟩ | (simp; omega) | (simp; done)))
      refine call_w (ih x.fList[i] (by have := MSExpr.lt_fl hi; omega) (by omega)) ?_
      simp -implicitDefEqProofs (disch := omega) only [go_sem] <;> (repeat (with_reducible refine And.intro ?_ ?_; focus first | omega | rfl | assumption | exact ⟨_, rfl, rfl⟩ | (simp; omega) | (simp; done)))
      with_reducible refine split2 (fun hb => ?_) (fun hb => ?_) <;> have h := hb <;> (try simp only [wf_preprocess] at h) <;> simp -implicitDefEqProofs (disch := omega) only [go_sem, hb] <;> (repeat (with_reducible refine And.intro ?_ ?_; focus first | omega | rfl | assumption | exact ⟨_, rfl, rfl⟩ | (simp; omega) | (simp; done)))
      · rw [p2, h, Bool.false_and]
      · exact inv_at (i + 1) (by omega) rfl rfl ⟨by omega, by rw [p2, h, Bool.true_and]⟩
    · have hi : i = x.fList.length := by omega
      rw [hi, List.drop_length, formXs] at p2
      rw [p2]
theorem l2Form_ok (x : MSExpr) (hsz : x.sz ≤ 67108864) : PCall Tryz.prog 195 [x.v] (.c (.d (.b (formX x)))) := l2Form_all _ x (Nat.lt_succ_self _) hsz
theorem specDepthX_all : ∀ n : Nat, ∀ x : MSExpr, SizeOf.sizeOf x < n → x.sz ≤ 67108864 → PCall Tryz.prog 196 [x.v] (.c (.d (.i .i64 (depthX x))))
  | 0 => fun x h => by omega
  | n + 1 => by
    have ih := specDepthX_all n
    intro x hn hsz S
    have hts := sx_szX hsz
    have hd := depthX_eq x
    have hd1 := depthX_node x
    have hd2 := node_lim hsz
    refine acall_cw (rs := [.tmp 2]) Tryz.checked.mixed Tryz.func196 Tryz.ntmps196 rfl rfl rfl rfl rfl ?_
    simp -implicitDefEqProofs (disch := omega) only [go_sem]
    with_reducible refine split2 (fun hb => ?_) (fun hb => ?_) <;> have h := hb <;> (try simp only [wf_preprocess] at h) <;> simp -implicitDefEqProofs (disch := omega) only [go_sem, hb] <;> (repeat (with_reducible refine And.intro ?_ ?_; focus first | omega | rfl | assumption | exact ⟨_, rfl, rfl⟩ | (simp; omega) | (simp; done)))
    · rw [if_neg h] at hd
      rw [hd]; rfl
    rw [if_pos h] at hd
    refine loop_at (ι := Nat × Nat) Tryz.checked.mixed rfl [1, 3, 4] (fun y => [.c (.ptr (0, 0) 0), .c (.d (.i .i64 y.2)), .c (.d (.i .i64 y.1))]) (fun y => [.box [.d (.s x.fAtom), .d (.sl (x.fList.map MSExpr.enc))]] :: S)
      (fun y => y.1 ≤ x.fList.length ∧ depthX x = max y.2 (depthXs (x.fList.drop y.1)) + 1) (fun y => x.fList.length - y.1) (0, 0) rfl rfl ⟨Nat.zero_le _, by simp [hd]⟩ ?_
    rintro ⟨i, c⟩ ⟨p1, p2⟩
    simp only at p1 p2
    simp -implicitDefEqProofs (disch := omega) only [go_sem]
    with_reducible refine split2 (fun hb => ?_) (fun hb => ?_) <;> have h := hb <;> (try simp only [wf_preprocess] at h) <;> simp -implicitDefEqProofs (disch := omega) only [go_sem, hb] <;> (repeat (with_reducible refine And.intro ?_ ?_; focus first | omega | rfl | assumption | exact ⟨_, rfl, rfl⟩ | (simp; omega) | (simp; done)))
    · have hi : i < x.fList.length := by omega
      have hsz' := arg_szX hi hsz
      rw [depthXs_drop hi] at p2
      (repeat (with_reducible refine And.intro ?_ ?_; focus first | omega | rfl | assumption | exact ⟨_, rfl, rfl⟩ | (simp; omega) | (simp; done)))
      refine call_w (ih x.fList[i] (by have := MSExpr.lt_fl hi; omega) (by omega)) ?_
      simp -implicitDefEqProofs (disch := omega) only [go_sem] <;> (repeat (with_reducible refine And.intro ?_ ?_; focus first | omega | rfl | assumption | exact ⟨_, rfl, rfl⟩ | (simp; omega) | (simp; done)))
      refine call_w (l1Max_ok _ _) ?_
      simp -implicitDefEqProofs (disch := omega) only [go_sem] <;> (repeat (with_reducible refine And.intro ?_ ?_; focus first | omega | rfl | assumption | exact ⟨_, rfl, rfl⟩ | (simp; omega) | (simp; done)))
      rw [show max (c : Int) ((depthX x.fList[i] : Int)) = ((max c (depthX x.fList[i]) : Nat) : Int) by omega]
      exact inv_at (i + 1, max c (depthX x.fList[i])) (by simp only; omega) rfl rfl ⟨by simp only; omega, by simp only; omega⟩
    · have hi : i = x.fList.length := by omega
      rw [hi, List.drop_length, depthXs] at p2
      (repeat (with_reducible refine And.intro ?_ ?_; focus first | omega | rfl | assumption | exact ⟨_, rfl, rfl⟩ | (simp; omega) | (simp; done)))
      exact int_eq (by omega)
theorem specDepthX_ok (x : MSExpr) (hsz : x.sz ≤ 67108864) : PCall Tryz.prog 196 [x.v] (.c (.d (.i .i64 (depthX x)))) := specDepthX_all _ x (Nat.lt_succ_self _) hsz
theorem specValidX_ok (x : MSExpr) (hsz : x.sz ≤ 67108864) : PCall Tryz.prog 104 [x.v] (.c (.d (.b (validX x)))) := fun S => by
  refine acall_cw (rs := [.tmp 2]) Tryz.checked.mixed Tryz.func104 Tryz.ntmps104 rfl rfl rfl rfl rfl ?_
  simp -implicitDefEqProofs (disch := omega) only [go_sem]
  refine call_w (l2Left_ok x 900 (by omega) (by omega) hsz) ?_
  simp -implicitDefEqProofs (disch := omega) only [go_sem] <;> (repeat (with_reducible refine And.intro ?_ ?_; focus first | omega | rfl | assumption | exact ⟨_, rfl, rfl⟩ | (simp; omega) | (simp; done)))
  with_reducible refine split2 (fun hb => ?_) (fun hb => ?_) <;> have h := hb <;> (try simp only [wf_preprocess] at h) <;> simp -implicitDefEqProofs (disch := omega) only [go_sem, hb] <;> (repeat (with_reducible refine And.intro ?_ ?_; focus first | omega | rfl | assumption | exact ⟨_, rfl, rfl⟩ | (simp; omega) | (simp; done)))
  · have h1 := (sub1_nn (l := 900) (a := nodeX x) (by omega)).2
    refine call_w (l2Form_ok x hsz) ?_
    simp -implicitDefEqProofs (disch := omega) only [go_sem] <;> (repeat (with_reducible refine And.intro ?_ ?_; focus first | omega | rfl | assumption | exact ⟨_, rfl, rfl⟩ | (simp; omega) | (simp; done)))
    with_reducible refine split2 (fun hb => ?_) (fun hb => ?_) <;> have h := hb <;> (try simp only [wf_preprocess] at h) <;> simp -implicitDefEqProofs (disch := omega) only [go_sem, hb] <;> (repeat (with_reducible refine And.intro ?_ ?_; focus first | omega | rfl | assumption | exact ⟨_, rfl, rfl⟩ | (simp; omega) | (simp; done)))
    · have hf := h
      refine call_w (specDepthX_ok x hsz) ?_
      simp -implicitDefEqProofs (disch := omega) only [go_sem] <;> (repeat (with_reducible refine And.intro ?_ ?_; focus first | omega | rfl | assumption | exact ⟨_, rfl, rfl⟩ | (simp; omega) | (simp; done)))
      refine bool_eq ?_
      unfold validX
      rw [hf, Bool.true_and]
      exact decide_eq_decide.2 (by omega)
    · refine bool_eq ?_
      unfold validX
      rw [h, Bool.false_and]
  · have h1 := sub1_neg (l := 900) (a := nodeX x) (by omega)
    refine bool_eq ?_
    unfold validX
    rw [decide_eq_false (by omega), Bool.and_false]
end Go.Proofs.YtlmhknhlmicmeaaGreatDoor

namespace Go.Ab
def lx (l : List MSExpr) (n : Nat) : List (List D) := labRs (l.map MSExpr.enc) n
def cntX (x : MSExpr) : Nat := cntR x.enc
def cntXs (l : List MSExpr) : Nat := cntRs (l.map MSExpr.enc)
theorem labX_eq (x : MSExpr) (n : Nat) : labR x.enc n = [.s x.fAtom, .ol n (lx x.fList (n + 1))] := by
  rw [MSExpr.enc_eq]; simp only [labR, labD, cntD, Nat.add_zero, lx]
theorem labX_atom (s : List UInt8) (n : Nat) : labR (atomX s).enc n = [.s s, .ol n []] := by rw [labX_eq]; rfl
theorem cntX_eq (x : MSExpr) : cntX x = cntXs x.fList + 1 := by
  unfold cntX cntXs
  rw [MSExpr.enc_eq]; simp only [cntR, cntD]; omega
theorem cntX_atom (s : List UInt8) : cntX (atomX s) = 1 := by rw [cntX_eq]; rfl
theorem lx_nil (n : Nat) : lx [] n = [] := rfl
theorem lx_cons (x : MSExpr) (l : List MSExpr) (n : Nat) : lx (x :: l) n = labR x.enc n :: lx l (n + cntX x) := rfl
theorem lx_append (a b : List MSExpr) (n : Nat) : lx (a ++ b) n = lx a n ++ lx b (n + cntXs a) := by unfold lx cntXs; rw [List.map_append, labRs_append]
theorem cntXs_nil : cntXs [] = 0 := rfl
theorem cntXs_cons (x : MSExpr) (l : List MSExpr) : cntXs (x :: l) = cntX x + cntXs l := rfl
theorem lx_length (l : List MSExpr) (n : Nat) : (lx l n).length = l.length := by unfold lx; rw [labRs_length, List.length_map]
theorem lx_rows {l : List MSExpr} {n : Nat} : ∀ r ∈ lx l n, r.length = 2 := labRs_rows fun r hr => by
  obtain ⟨z, _, rfl⟩ := List.mem_map.1 hr
  exact z.enc_length
theorem lx_snoc {l : List MSExpr} {i : Nat} (hi : i < l.length) (n : Nat) : lx (l.take i) n ++ [labR l[i].enc (n + cntXs (l.take i))] = lx (l.take (i + 1)) n := by
  rw [List.take_succ_eq_append_getElem hi, lx_append]; rfl
theorem lx_snoc' {l : List MSExpr} {i : Nat} (hi : i < l.length) (n : Nat) : lx (l.take i) n ++ [[.s l[i].fAtom, .ol (n + cntXs (l.take i)) (lx l[i].fList (n + cntXs (l.take i) + 1))]] = lx (l.take (i + 1)) n := by
  rw [← lx_snoc hi, labX_eq]
theorem lx_snocB {base l : List MSExpr} {i : Nat} (hi : i < l.length) (q : Nat) : lx (base ++ l.take i) q ++ [[.s l[i].fAtom, .ol (q + cntXs (base ++ l.take i)) (lx l[i].fList (q + cntXs (base ++ l.take i) + 1))]] = lx (base ++ l.take (i + 1)) q := by
  rw [List.take_succ_eq_append_getElem hi, ← List.append_assoc, lx_append (base ++ l.take i), lx_cons, lx_nil, labX_eq]
theorem enc_rows {l : List MSExpr} : ∀ r ∈ l.map MSExpr.enc, r.length = 2 := fun r hr => by
  obtain ⟨z, _, rfl⟩ := List.mem_map.1 hr
  exact z.enc_length
theorem cells_less' {cs cs' : List C} (hl : cs'.length = cs.length) (h : ∀ (j : Nat) (x y : C), cs[j]? = some x → cs'[j]? = some y → ∀ w σ S β v, RepC w σ S β x v → RepC w σ S β y v) : Less (.agg cs) (.agg cs') := by
  rintro w σ S β v ⟨a, ha, hc⟩
  refine ⟨a, ha, hl.trans hc.1, fun j y hy => ?_⟩
  have hj : j < cs.length := by rw [← hl]; exact (List.getElem?_eq_some_iff.1 hy).1
  obtain ⟨v, h1, h2, h3⟩ := hc.2 j _ (List.getElem?_eq_getElem hj)
  exact ⟨v, h1, h j _ y (List.getElem?_eq_getElem hj) hy w σ S β v h2, h3⟩
theorem fsl_ol {w : World} {σ : Nat → Nat} {S : Store} {β : Hs} {v : Value} (n : Nat) (h : RepC w σ S β (.fsl []) v) : RepC w σ S β (.d (.ol n [])) v := by
  obtain ⟨hd, ad, m, hval⟩ := h
  have hm : m = 0 := by rw [hval] at hd; cases hd <;> rfl
  subst hm
  rw [hval]
  exact .onil _ _ _
theorem less_x0 (s : List UInt8) (n : Nat) : Less (.agg [.d (.s s), .fsl []]) (.agg [.d (.s s), .d (.ol n [])]) := cells_less' rfl fun j x y hx hy w σ S β v hv => by
  match j, hx, hy with
  | 0, hx, hy => cases hx; cases hy; exact hv
  | 1, hx, hy => cases hx; cases hy; exact fsl_ol _ hv
  | j + 2, hx, hy => simp at hx
theorem less_xl (s : List UInt8) (n : Nat) (es : List (List D)) : Less (.agg [.d (.s s), .lfl n es]) (.agg [.d (.s s), .d (.ol n es)]) := cells_less' rfl fun j x y hx hy w σ S β v hv => by
  match j, hx, hy with
  | 0, hx, hy => cases hx; cases hy; exact hv
  | 1, hx, hy => cases hx; cases hy; exact hv.1
  | j + 2, hx, hy => simp at hx
end Go.Ab
namespace Go.Proofs.YtlmhknhlmicmeaaGreatDoor
open Go Go.Ab
theorem implAtom_ok (s : List UInt8) : PCall Tryz.prog 67 [.c (.d (.s s))] (.agg [.d (.s s), .fsl []]) := fun S => by
  refine acall_cw (rs := [.cell 2 32]) Tryz.checked.mixed Tryz.func67 Tryz.ntmps67 rfl rfl rfl rfl rfl ?_
  simp -implicitDefEqProofs (disch := omega) only [go_sem]
theorem implAtom_lab (s : List UInt8) (n : Nat) : PCall Tryz.prog 67 [.c (.d (.s s))] (.agg [.d (.s s), .d (.ol n [])]) := PCall.less (implAtom_ok s) (less_x0 s n)
theorem implList_d (d : D) : PCall Tryz.prog 75 [.c (.d d)] (.agg [.d (.s []), .d d]) := fun S => by
  refine acall_cw (rs := [.cell 2 32]) Tryz.checked.mixed Tryz.func75 Tryz.ntmps75 rfl rfl rfl rfl rfl ?_
  simp -implicitDefEqProofs (disch := omega) only [go_sem]
theorem implList_l0 (n : Nat) (es : List (List D)) : PCall Tryz.prog 75 [.c (.lfl n es)] (.agg [.d (.s []), .lfl n es]) := fun S => by
  refine acall_cw (rs := [.cell 2 32]) Tryz.checked.mixed Tryz.func75 Tryz.ntmps75 rfl rfl rfl rfl rfl ?_
  simp -implicitDefEqProofs (disch := omega) only [go_sem]
theorem implList_l (n : Nat) (es : List (List D)) : PCall Tryz.prog 75 [.c (.lfl n es)] (.agg [.d (.s []), .d (.ol n es)]) := PCall.less (implList_l0 n es) (less_xl [] n es)
theorem implList_t (l j : Nat) (es : List (List D)) (S : Store) : ACall Tryz.prog 75 [.c (.tsl (l, j) es)] S (fun r S' => r = .agg [.d (.s []), .tsl (l, j) es] ∧ S' = S) := by
  refine acall_cw (rs := [.cell 2 32]) Tryz.checked.mixed Tryz.func75 Tryz.ntmps75 rfl rfl rfl rfl rfl ?_
  simp -implicitDefEqProofs (disch := omega) only [go_sem]
theorem implAtoms_lab (xs : List (List UInt8)) (hx : xs.length ≤ 1073741824) (n q : Nat) : PCall Tryz.prog 173 [.c (.d (.sl (xs.map encS)))] (.c (.d (.ol n (lx (wordsX xs) q)))) := fun S => by
  refine acall_cwL (n) (rs := [.tmp 2]) Tryz.checked.mixed Tryz.func173 Tryz.ntmps173 rfl rfl rfl rfl rfl ?_
  simp -implicitDefEqProofs (disch := omega) only [go_sem]
  (repeat (with_reducible refine And.intro ?_ ?_; focus first | omega | rfl | assumption | exact ⟨_, rfl, rfl⟩ | (simp; omega) | (simp; done)))
  refine aw_ltok n 3 2 [] (.inl rfl) (by simp) ?_
  refine loop_at (ι := Nat) Tryz.checked.mixed rfl [3, 7, 8, 9] (fun i => [.c (.tsl (0, 1) (lx ((wordsX xs).take i) q)), .c (.d (.sl (xs.map encS))), .c (.d (.i .i64 xs.length)), .c (.d (.i .i64 i))]) (fun i => [.seed n, .ltok n 2 (lx ((wordsX xs).take i) q)] :: S)
    (fun i => i ≤ xs.length) (fun i => xs.length - i) 0 rfl rfl (Nat.zero_le _) ?_
  intro i hi
  simp -implicitDefEqProofs (disch := omega) only [go_sem]
  with_reducible refine split2 (fun hb => ?_) (fun hb => ?_) <;> have h := hb <;> (try simp only [wf_preprocess] at h) <;> simp -implicitDefEqProofs (disch := omega) only [go_sem, hb] <;> (repeat (with_reducible refine And.intro ?_ ?_; focus first | omega | rfl | assumption | exact ⟨_, rfl, rfl⟩ | (simp; omega) | (simp; done)))
  · have hi' : i < xs.length := by omega
    have hw : i < (wordsX xs).length := by rw [words_len]; exact hi'
    have hg : (wordsX xs)[i] = atomX xs[i] := by simp [wordsX]
    have hl : (lx ((wordsX xs).take i) q).length ≤ i := by rw [lx_length]; exact List.length_take_le _ _
    (repeat (with_reducible refine And.intro ?_ ?_; focus first | omega | rfl | assumption | exact ⟨_, rfl, rfl⟩ | (simp; omega) | (simp; done)))
    refine call_w (implAtom_lab xs[i] (q + cntXs ((wordsX xs).take i))) ?_
    simp -implicitDefEqProofs (disch := omega) only [go_sem]
    (repeat (with_reducible refine And.intro ?_ ?_; focus first | omega | rfl | assumption | exact ⟨_, rfl, rfl⟩ | (simp; omega) | (simp; done)))
    have hs := lx_snoc hw q
    rw [hg, labX_atom] at hs
    rw [hs]
    exact inv_at (i + 1) (by omega) rfl rfl (by omega)
  · have hi' : i = (wordsX xs).length := by rw [words_len]; omega
    rw [hi', List.take_length]
theorem implTy_all : ∀ N : Nat, (∀ x : MType, SizeOf.sizeOf x < N → ∀ n : Nat, formed x = true → x.sz ≤ 4194304 → PCall Tryz.prog 175 [x.v] (.agg [.d (.s (sxT x).fAtom), .d (.ol n (lx (sxT x).fList (n + 1)))])) ∧
    (∀ xs : List MType, SizeOf.sizeOf xs < N → ∀ n q : Nat, formeds xs = true → xs.length ≤ 4194304 → (∀ t ∈ xs, t.sz ≤ 4194304) → PCall Tryz.prog 174 [.c (.d (.sl (xs.map MType.enc)))] (.c (.d (.ol n (lx (xs.map sxT) q)))))
  | 0 => ⟨fun x h => by omega, fun x h => by omega⟩
  | N + 1 => by
    obtain ⟨ih, ihS⟩ := implTy_all N
    refine ⟨fun x hn n hf hsz => ?_, fun xs hn n q hf hlen hsz => ?_⟩
    · have lArgs := MType.lt_Args x
      have hts := ty_sz hsz
      have hx := sxT_eq x
      rw [formed_eq, Bool.and_eq_true] at hf
      have hfi := of_dec hf.1
      have hall : ∀ t ∈ x.fArgs, t.sz ≤ 4194304 := fun t ht => by
        obtain ⟨i, hi, e⟩ := List.getElem_of_mem ht
        rw [← e]; exact (arg_sz hi hsz).1
      intro S
      refine acall_cwLs (n) 1 (rs := [.cell 2 32]) Tryz.checked.mixed Tryz.func175 Tryz.ntmps175 rfl rfl rfl rfl rfl ?_
      simp -implicitDefEqProofs (disch := omega) only [go_sem]
      with_reducible refine split2 (fun hb => ?_) (fun hb => ?_) <;> have h := hb <;> (try simp only [wf_preprocess] at h) <;> simp -implicitDefEqProofs (disch := omega) only [go_sem, hb] <;> (repeat (with_reducible refine And.intro ?_ ?_; focus first | omega | rfl | assumption | exact ⟨_, rfl, rfl⟩ | (simp; omega) | (simp; done)))
      · rw [if_pos h] at hx
        rw [hx]
        (repeat (with_reducible refine And.intro ?_ ?_; focus first | omega | rfl | assumption | exact ⟨_, rfl, rfl⟩ | (simp; omega) | (simp; done)))
        refine call_w (implAtom_lab _ n) ?_
        simp -implicitDefEqProofs (disch := omega) only [go_sem]
        rfl
      have k1 := h
      rw [if_neg h] at hx
      with_reducible refine split2 (fun hb => ?_) (fun hb => ?_) <;> have h := hb <;> (try simp only [wf_preprocess] at h) <;> simp -implicitDefEqProofs (disch := omega) only [go_sem, hb] <;> (repeat (with_reducible refine And.intro ?_ ?_; focus first | omega | rfl | assumption | exact ⟨_, rfl, rfl⟩ | (simp; omega) | (simp; done)))
      · rw [if_pos h] at hx
        rw [hx]
        refine call_w (implAtom_lab _ (n + 1)) ?_
        simp -implicitDefEqProofs (disch := omega) only [go_sem]
        refine call_w (implAtom_lab _ (n + 1 + 1)) ?_
        simp -implicitDefEqProofs (disch := omega) only [go_sem]
        refine call_w (implList_l _ _) ?_
        simp -implicitDefEqProofs (disch := omega) only [go_sem]
        rfl
      have k4 := h
      rw [if_neg h] at hx
      with_reducible refine split2 (fun hb => ?_) (fun hb => ?_) <;> have h := hb <;> (try simp only [wf_preprocess] at h) <;> simp -implicitDefEqProofs (disch := omega) only [go_sem, hb] <;> (repeat (with_reducible refine And.intro ?_ ?_; focus first | omega | rfl | assumption | exact ⟨_, rfl, rfl⟩ | (simp; omega) | (simp; done)))
      · have hlen : x.fArgs.length = 1 := by omega
        obtain ⟨a, ha⟩ := List.length_eq_one_iff.1 hlen
        have ha0 : x.fArgs[0]'(by omega) = a := by simp [ha]
        rw [if_neg (by omega), if_pos h, ha] at hx
        have hfa : formed a = true := formeds_iff.1 hf.2 a (by rw [ha]; simp)
        have hsa : a.sz ≤ 4194304 := hall a (by rw [ha]; simp)
        have hla : SizeOf.sizeOf a < N := by
          have := List.sizeOf_lt_of_mem (show a ∈ x.fArgs by rw [ha]; simp)
          omega
        rw [hx]
        refine call_w (implAtom_lab _ (n + 1)) ?_
        simp -implicitDefEqProofs (disch := omega) only [go_sem]
        refine call_w (implAtom_lab _ (n + 1 + 1)) ?_
        simp -implicitDefEqProofs (disch := omega) only [go_sem, ha, List.getD_cons_zero]
        (repeat (with_reducible refine And.intro ?_ ?_; focus first | omega | rfl | assumption | exact ⟨_, rfl, rfl⟩ | (simp; omega) | (simp; done)))
        refine call_w (ih a hla (n + 1 + 1 + 1) hfa hsa) ?_
        simp -implicitDefEqProofs (disch := omega) only [go_sem]
        refine call_w (implList_l _ _) ?_
        simp -implicitDefEqProofs (disch := omega) only [go_sem]
        simp only [fAtom_list, fList_list, List.cons_append, List.nil_append, List.map_cons, List.map_nil, lx_cons, lx_nil, labX_atom, cntX_atom, labX_eq, fAtom_atom, fList_atom, wAssoc]
      have k3 := h
      with_reducible refine split2 (fun hb => ?_) (fun hb => ?_) <;> have h := hb <;> (try simp only [wf_preprocess] at h) <;> simp -implicitDefEqProofs (disch := omega) only [go_sem, hb] <;> (repeat (with_reducible refine And.intro ?_ ?_; focus first | omega | rfl | assumption | exact ⟨_, rfl, rfl⟩ | (simp; omega) | (simp; done)))
      · rw [if_pos ⟨by omega, by omega⟩] at hx
        rw [hx]
        refine call_w (implAtom_lab _ n) ?_
        simp -implicitDefEqProofs (disch := omega) only [go_sem]
        rfl
      rw [if_neg (by omega), if_neg k3] at hx
      rw [hx]
      refine call_w (implAtom_lab _ (n + 1)) ?_
      simp -implicitDefEqProofs (disch := omega) only [go_sem]
      refine call_w (ihS x.fArgs (by omega) 0 (n + 1 + 1) hf.2 hts.1 hall) ?_
      simp -implicitDefEqProofs (disch := omega) only [go_sem]
      have hl : (lx (x.fArgs.map sxT) (n + 1 + 1)).length = x.fArgs.length := by rw [lx_length, List.length_map]
      have hr := lx_rows (l := x.fArgs.map sxT) (n := n + 1 + 1)
      (repeat (with_reducible refine And.intro ?_ ?_; focus first | omega | rfl | assumption | exact ⟨_, rfl, rfl⟩ | (simp; omega) | (simp; done)))
      refine call_w (implList_d _) ?_
      simp -implicitDefEqProofs (disch := omega) only [go_sem]
      simp only [fAtom_list, fList_list, List.cons_append, List.nil_append, lx_cons, lx_nil, labX_atom, cntX_atom]
    · have hsnoc := fun (i : Nat) (hi : i < xs.length) => lx_snoc' (l := xs.map sxT) (i := i) (by rw [List.length_map]; exact hi) q
      intro S
      refine acall_cwL (n) (rs := [.tmp 2]) Tryz.checked.mixed Tryz.func174 Tryz.ntmps174 rfl rfl rfl rfl rfl ?_
      simp -implicitDefEqProofs (disch := omega) only [go_sem]
      (repeat (with_reducible refine And.intro ?_ ?_; focus first | omega | rfl | assumption | exact ⟨_, rfl, rfl⟩ | (simp; omega) | (simp; done)))
      refine aw_ltok n 3 2 [] (.inl rfl) (by simp) ?_
      refine loop_at (ι := Nat) Tryz.checked.mixed rfl [3, 7, 8, 9] (fun i => [.c (.tsl (0, 1) (lx ((xs.map sxT).take i) q)), .c (.d (.sl (xs.map MType.enc))), .c (.d (.i .i64 xs.length)), .c (.d (.i .i64 i))]) (fun i => [.seed n, .ltok n 2 (lx ((xs.map sxT).take i) q)] :: S)
        (fun i => i ≤ xs.length) (fun i => xs.length - i) 0 rfl rfl (Nat.zero_le _) ?_
      intro i hi
      simp -implicitDefEqProofs (disch := omega) only [go_sem]
      with_reducible refine split2 (fun hb => ?_) (fun hb => ?_) <;> have h := hb <;> (try simp only [wf_preprocess] at h) <;> simp -implicitDefEqProofs (disch := omega) only [go_sem, hb] <;> (repeat (with_reducible refine And.intro ?_ ?_; focus first | omega | rfl | assumption | exact ⟨_, rfl, rfl⟩ | (simp; omega) | (simp; done)))
      · have hi' : i < xs.length := by omega
        have hs := hsnoc i hi'
        rw [List.getElem_map] at hs
        have hl : (lx ((xs.map sxT).take i) q).length ≤ i := by rw [lx_length]; exact List.length_take_le _ _
        (repeat (with_reducible refine And.intro ?_ ?_; focus first | omega | rfl | assumption | exact ⟨_, rfl, rfl⟩ | (simp; omega) | (simp; done)))
        refine call_w (ih xs[i] (by have := List.sizeOf_lt_of_mem (List.getElem_mem hi'); omega) (q + cntXs ((xs.map sxT).take i)) (formeds_iff.1 hf _ (List.getElem_mem hi')) (hsz _ (List.getElem_mem hi'))) ?_
        simp -implicitDefEqProofs (disch := omega) only [go_sem]
        (repeat (with_reducible refine And.intro ?_ ?_; focus first | omega | rfl | assumption | exact ⟨_, rfl, rfl⟩ | (simp; omega) | (simp; done)))
        rw [hs]
        exact inv_drop 2 (by decide) (i + 1) (by omega) rfl rfl rfl rfl (by omega)
      · have hi' : i = (xs.map sxT).length := by rw [List.length_map]; omega
        rw [hi', List.take_length]
theorem implTy_lab (x : MType) (n : Nat) (hf : formed x = true) (hsz : x.sz ≤ 4194304) : PCall Tryz.prog 175 [x.v] (.agg [.d (.s (sxT x).fAtom), .d (.ol n (lx (sxT x).fList (n + 1)))]) := (implTy_all _).1 x (Nat.lt_succ_self _) n hf hsz
end Go.Proofs.YtlmhknhlmicmeaaGreatDoor

namespace Go.Ab
theorem enc_atom (s : List UInt8) : (atomX s).enc = [.s s, .sl []] := by rw [MSExpr.enc_eq]; rfl
theorem encX_snoc {base l : List MSExpr} {i : Nat} (hi : i < l.length) : (base ++ l.take i).map MSExpr.enc ++ [[.s l[i].fAtom, .sl (l[i].fList.map MSExpr.enc)]] = (base ++ l.take (i + 1)).map MSExpr.enc := by
  rw [List.take_succ_eq_append_getElem hi, ← List.append_assoc, List.map_append (l₂ := [l[i]]), List.map_cons, List.map_nil, MSExpr.enc_eq]
theorem less_xf (s : List UInt8) (es : List (List D)) : Less (.agg [.d (.s s), .fsl es]) (.agg [.d (.s s), .d (.sl es)]) := cells_less' rfl fun j x y hx hy w σ S β v hv => by
  match j, hx, hy with
  | 0, hx, hy => cases hx; cases hy; exact hv
  | 1, hx, hy => cases hx; cases hy; exact hv.1
  | j + 2, hx, hy => simp at hx
theorem less_lx (x : MSExpr) (n : Nat) : Less (.agg [.d (.s x.fAtom), .d (.ol n (lx x.fList (n + 1)))]) x.v := by
  have h := less_lab (r := x.enc) (n := n)
  rw [labX_eq, MSExpr.v_eq] at h
  exact h
end Go.Ab
namespace Go.Proofs.YtlmhknhlmicmeaaGreatDoor
open Go Go.Ab
theorem specAtom0_ok (s : List UInt8) : PCall Tryz.prog 54 [.c (.d (.s s))] (.agg [.d (.s s), .fsl []]) := fun S => by
  refine acall_cw (rs := [.cell 2 32]) Tryz.checked.mixed Tryz.func54 Tryz.ntmps54 rfl rfl rfl rfl rfl ?_
  simp -implicitDefEqProofs (disch := omega) only [go_sem]
theorem specAtom_ok (s : List UInt8) : PCall Tryz.prog 54 [.c (.d (.s s))] (.agg [.d (.s s), .d (.sl [])]) := PCall.less (specAtom0_ok s) (less_xf s [])
theorem specList_ok (es : List (List D)) (hes : ∀ e ∈ es, e.length = 2) (hl : es.length ≤ 1073741824) : PCall Tryz.prog 53 [.c (.d (.sl es))] (.agg [.d (.s []), .d (.sl es)]) := fun S => by
  refine acall_cw (rs := [.cell 2 32]) Tryz.checked.mixed Tryz.func53 Tryz.ntmps53 rfl rfl rfl rfl rfl ?_
  simp -implicitDefEqProofs (disch := omega) only [go_sem]
  exact ⟨hes, ⟨_, rfl, rfl⟩, (fun y hy => by cases hy), hl⟩
theorem specWords_ok (xs : List (List UInt8)) (hx : xs.length ≤ 1073741824) : PCall Tryz.prog 156 [.c (.d (.sl (xs.map encS)))] (.c (.d (.sl ((wordsX xs).map MSExpr.enc)))) := fun S => by
  refine acall_cw (rs := [.tmp 2]) Tryz.checked.mixed Tryz.func156 Tryz.ntmps156 rfl rfl rfl rfl rfl ?_
  simp -implicitDefEqProofs (disch := omega) only [go_sem]
  (repeat (with_reducible refine And.intro ?_ ?_; focus first | omega | rfl | assumption | exact ⟨_, rfl, rfl⟩ | (simp; omega) | (simp; done)))
  refine aw_tok 3 2 [] rfl (by simp) ?_
  refine loop_at (ι := Nat) Tryz.checked.mixed rfl [0, 3, 4] (fun i => [.c (.d (.sl (xs.map encS))), .c (.tsl (0, 0) (((wordsX xs).take i).map MSExpr.enc)), .c (.d (.i .i64 i))]) (fun i => [.tok 2 (((wordsX xs).take i).map MSExpr.enc)] :: S)
    (fun i => i ≤ xs.length) (fun i => xs.length - i) 0 rfl rfl (Nat.zero_le _) ?_
  intro i hi
  have hl : (((wordsX xs).take i).map MSExpr.enc).length ≤ i := by rw [List.length_map]; exact List.length_take_le _ _
  simp -implicitDefEqProofs (disch := omega) only [go_sem]
  with_reducible refine split2 (fun hb => ?_) (fun hb => ?_) <;> have h := hb <;> (try simp only [wf_preprocess] at h) <;> simp -implicitDefEqProofs (disch := omega) only [go_sem, hb] <;> (repeat (with_reducible refine And.intro ?_ ?_; focus first | omega | rfl | assumption | exact ⟨_, rfl, rfl⟩ | (simp; omega) | (simp; done)))
  · have hi' : i < xs.length := by omega
    have hs := encX_snoc (base := []) (l := wordsX xs) (i := i) (by rw [words_len]; exact hi')
    have hg : (wordsX xs)[i]'(by rw [words_len]; exact hi') = atomX xs[i] := by simp [wordsX]
    rw [hg] at hs
    simp only [List.nil_append, fAtom_atom, fList_atom, List.map_nil] at hs
    (repeat (with_reducible refine And.intro ?_ ?_; focus first | omega | rfl | assumption | exact ⟨_, rfl, rfl⟩ | (simp; omega) | (simp; done)))
    refine call_w (specAtom_ok xs[i]) ?_
    simp -implicitDefEqProofs (disch := omega) only [go_sem]
    (repeat (with_reducible refine And.intro ?_ ?_; focus first | omega | rfl | assumption | exact ⟨_, rfl, rfl⟩ | (simp; omega) | (simp; done)))
    rw [hs]
    exact inv_at (i + 1) (by omega) rfl rfl (by omega)
  · have hi' : i = (wordsX xs).length := by rw [words_len]; omega
    rw [hi', List.take_length]
theorem specTy_all : ∀ N : Nat, (∀ x : MType, SizeOf.sizeOf x < N → x.sz ≤ 4194304 → PCall Tryz.prog 159 [x.v] (.agg [.d (.s (sxT x).fAtom), .d (.sl ((sxT x).fList.map MSExpr.enc))]))
  | 0 => fun x h => by omega
  | N + 1 => by
    have ih := specTy_all N
    intro x hn hsz
    have lArgs := MType.lt_Args x
    have hts := ty_sz hsz
    have hx := sxT_eq x
    have hall : ∀ t ∈ x.fArgs, t.sz ≤ 4194304 := fun t ht => by
      obtain ⟨i, hi, e⟩ := List.getElem_of_mem ht
      rw [← e]; exact (arg_sz hi hsz).1
    intro S
    refine acall_cw (rs := [.cell 2 32]) Tryz.checked.mixed Tryz.func159 Tryz.ntmps159 rfl rfl rfl rfl rfl ?_
    simp -implicitDefEqProofs (disch := omega) only [go_sem]
    with_reducible refine split2 (fun hb => ?_) (fun hb => ?_) <;> have h := hb <;> (try simp only [wf_preprocess] at h) <;> simp -implicitDefEqProofs (disch := omega) only [go_sem, hb] <;> (repeat (with_reducible refine And.intro ?_ ?_; focus first | omega | rfl | assumption | exact ⟨_, rfl, rfl⟩ | (simp; omega) | (simp; done)))
    · rw [if_pos h] at hx
      rw [hx]
      (repeat (with_reducible refine And.intro ?_ ?_; focus first | omega | rfl | assumption | exact ⟨_, rfl, rfl⟩ | (simp; omega) | (simp; done)))
      refine call_w (specAtom_ok _) ?_
      simp -implicitDefEqProofs (disch := omega) only [go_sem]
      rfl
    rw [if_neg h] at hx
    with_reducible refine split2 (fun hb => ?_) (fun hb => ?_) <;> have h := hb <;> (try simp only [wf_preprocess] at h) <;> simp -implicitDefEqProofs (disch := omega) only [go_sem, hb] <;> (repeat (with_reducible refine And.intro ?_ ?_; focus first | omega | rfl | assumption | exact ⟨_, rfl, rfl⟩ | (simp; omega) | (simp; done)))
    · rw [if_pos h] at hx
      rw [hx]
      refine call_w (specAtom_ok _) ?_
      simp -implicitDefEqProofs (disch := omega) only [go_sem]
      refine call_w (specAtom_ok _) ?_
      simp -implicitDefEqProofs (disch := omega) only [go_sem]
      refine call_w (specList_ok _ (by simp) (by simp)) ?_
      simp -implicitDefEqProofs (disch := omega) only [go_sem]
      simp only [fAtom_list, fList_list, List.map_cons, List.map_nil, enc_atom, wDyn]
    rw [if_neg h] at hx
    have fin1 : x.fKind = 2 → x.fArgs.length = 0 → sxT x = atomX x.fName := fun a b => by rw [hx, if_pos ⟨a, b⟩]
    have fin2 : ¬ (x.fKind = 2 ∧ x.fArgs.length = 0) → sxT x = listX ((if x.fKind = 3 then [atomX wAssoc] else []) ++ [atomX x.fName] ++ x.fArgs.map sxT) := fun a => by rw [hx, if_neg a]
    clear hx
    repeat' (first | (with_reducible refine split2 (fun hb => ?_) (fun hb => ?_) <;> have h := hb <;> (try simp only [wf_preprocess] at h) <;> simp -implicitDefEqProofs (disch := omega) only [go_sem, hb] <;> (repeat (with_reducible refine And.intro ?_ ?_; focus first | omega | rfl | assumption | exact ⟨_, rfl, rfl⟩ | (simp; omega) | (simp; done)))))
    · rw [fin1 (by omega) (by omega)]
      refine call_w (specAtom_ok _) ?_
      simp -implicitDefEqProofs (disch := omega) only [go_sem]
      rfl
    · exfalso; omega
    · have hx := fin2 (by omega)
      rw [if_neg h, List.nil_append] at hx
      refine call_w (specAtom_ok _) ?_
      simp -implicitDefEqProofs (disch := omega) only [go_sem]
      (repeat (with_reducible refine And.intro ?_ ?_; focus first | omega | rfl | assumption | exact ⟨_, rfl, rfl⟩ | (simp; omega) | (simp; done)))
      refine loop_at (ι := Nat) Tryz.checked.mixed rfl [1, 2, 3, 4] (fun i => [.c (.ptr (0, 0) 0), .c (.ptr (0, 1) 0), .c (.ptr (0, 2) 0), .c (.d (.i .i64 i))])
        (fun i => [.box [.d (.i .i64 x.fKind), .d (.s x.fName), .d (.sl (x.fArgs.map MType.enc))], .box [.d (.s []), .fsl []], .box [.d (.s []), .tsl (0, 3) (([atomX x.fName] ++ (x.fArgs.map sxT).take i).map MSExpr.enc)], .tok 2 (([atomX x.fName] ++ (x.fArgs.map sxT).take i).map MSExpr.enc)] :: S)
        (fun i => i ≤ x.fArgs.length) (fun i => x.fArgs.length - i) 0 rfl ?_ (Nat.zero_le _) ?_
      · simp only [List.take_zero, List.append_nil, List.map_cons, List.map_nil, List.cons_append, List.nil_append, enc_atom] <;> (try rfl)
      intro i hi
      have hl : (([atomX x.fName] ++ (x.fArgs.map sxT).take i).map MSExpr.enc).length ≤ i + 2 := by
        rw [List.length_map, List.length_append]
        have := List.length_take_le i (x.fArgs.map sxT)
        simp only [List.length_cons, List.length_nil]; omega
      have hs := fun hi => encX_snoc (base := [atomX x.fName]) (l := x.fArgs.map sxT) (i := i) hi
      have hrw := enc_rows (l := [atomX x.fName] ++ (x.fArgs.map sxT).take i)
      generalize hR : ([atomX x.fName] ++ (x.fArgs.map sxT).take i).map MSExpr.enc = R at hl hs hrw
      simp -implicitDefEqProofs (disch := omega) only [go_sem]
      with_reducible refine split2 (fun hb => ?_) (fun hb => ?_) <;> have h := hb <;> (try simp only [wf_preprocess] at h) <;> simp -implicitDefEqProofs (disch := omega) only [go_sem, hb] <;> (repeat (with_reducible refine And.intro ?_ ?_; focus first | omega | rfl | assumption | exact ⟨_, rfl, rfl⟩ | (simp; omega) | (simp; done)))
      · have hi' : i < x.fArgs.length := by omega
        have hs' := hs (by rw [List.length_map]; exact hi')
        rw [List.getElem_map] at hs'
        (repeat (with_reducible refine And.intro ?_ ?_; focus first | omega | rfl | assumption | exact ⟨_, rfl, rfl⟩ | (simp; omega) | (simp; done)))
        refine call_w (ih x.fArgs[i] (by have := List.sizeOf_lt_of_mem (List.getElem_mem hi'); omega) (hall _ (List.getElem_mem hi'))) ?_
        simp -implicitDefEqProofs (disch := omega) only [go_sem]
        (repeat (with_reducible refine And.intro ?_ ?_; focus first | omega | rfl | assumption | exact ⟨_, rfl, rfl⟩ | (simp; omega) | (simp; done)))
        rw [hs']
        exact inv_at (i + 1) (by omega) rfl rfl (by omega)
      · have hi' : i = (x.fArgs.map sxT).length := by rw [List.length_map]; omega
        rw [hx, ← hR, hi', List.take_length]
        simp only [fAtom_list, fList_list, List.cons_append, List.nil_append]
    · have hx := fin2 (by omega)
      rw [if_pos h] at hx
      refine call_w (specAtom_ok _) ?_
      simp -implicitDefEqProofs (disch := omega) only [go_sem]
      (repeat (with_reducible refine And.intro ?_ ?_; focus first | omega | rfl | assumption | exact ⟨_, rfl, rfl⟩ | (simp; omega) | (simp; done)))
      refine call_w (specAtom_ok _) ?_
      simp -implicitDefEqProofs (disch := omega) only [go_sem]
      (repeat (with_reducible refine And.intro ?_ ?_; focus first | omega | rfl | assumption | exact ⟨_, rfl, rfl⟩ | (simp; omega) | (simp; done)))
      refine loop_at (ι := Nat) Tryz.checked.mixed rfl [1, 2, 3, 4] (fun i => [.c (.ptr (0, 0) 0), .c (.ptr (0, 1) 0), .c (.ptr (0, 2) 0), .c (.d (.i .i64 i))])
        (fun i => [.box [.d (.i .i64 x.fKind), .d (.s x.fName), .d (.sl (x.fArgs.map MType.enc))], .box [.d (.s []), .fsl []], .box [.d (.s []), .tsl (0, 3) (([atomX wAssoc, atomX x.fName] ++ (x.fArgs.map sxT).take i).map MSExpr.enc)], .tok 2 (([atomX wAssoc, atomX x.fName] ++ (x.fArgs.map sxT).take i).map MSExpr.enc)] :: S)
        (fun i => i ≤ x.fArgs.length) (fun i => x.fArgs.length - i) 0 rfl ?_ (Nat.zero_le _) ?_
      · simp only [List.take_zero, List.append_nil, List.map_cons, List.map_nil, List.cons_append, List.nil_append, enc_atom] <;> (try rfl)
      intro i hi
      have hl : (([atomX wAssoc, atomX x.fName] ++ (x.fArgs.map sxT).take i).map MSExpr.enc).length ≤ i + 2 := by
        rw [List.length_map, List.length_append]
        have := List.length_take_le i (x.fArgs.map sxT)
        simp only [List.length_cons, List.length_nil]; omega
      have hs := fun hi => encX_snoc (base := [atomX wAssoc, atomX x.fName]) (l := x.fArgs.map sxT) (i := i) hi
      have hrw := enc_rows (l := [atomX wAssoc, atomX x.fName] ++ (x.fArgs.map sxT).take i)
      generalize hR : ([atomX wAssoc, atomX x.fName] ++ (x.fArgs.map sxT).take i).map MSExpr.enc = R at hl hs hrw
      simp -implicitDefEqProofs (disch := omega) only [go_sem]
      with_reducible refine split2 (fun hb => ?_) (fun hb => ?_) <;> have h := hb <;> (try simp only [wf_preprocess] at h) <;> simp -implicitDefEqProofs (disch := omega) only [go_sem, hb] <;> (repeat (with_reducible refine And.intro ?_ ?_; focus first | omega | rfl | assumption | exact ⟨_, rfl, rfl⟩ | (simp; omega) | (simp; done)))
      · have hi' : i < x.fArgs.length := by omega
        have hs' := hs (by rw [List.length_map]; exact hi')
        rw [List.getElem_map] at hs'
        (repeat (with_reducible refine And.intro ?_ ?_; focus first | omega | rfl | assumption | exact ⟨_, rfl, rfl⟩ | (simp; omega) | (simp; done)))
        refine call_w (ih x.fArgs[i] (by have := List.sizeOf_lt_of_mem (List.getElem_mem hi'); omega) (hall _ (List.getElem_mem hi'))) ?_
        simp -implicitDefEqProofs (disch := omega) only [go_sem]
        (repeat (with_reducible refine And.intro ?_ ?_; focus first | omega | rfl | assumption | exact ⟨_, rfl, rfl⟩ | (simp; omega) | (simp; done)))
        rw [hs']
        exact inv_at (i + 1) (by omega) rfl rfl (by omega)
      · have hi' : i = (x.fArgs.map sxT).length := by rw [List.length_map]; omega
        rw [hx, ← hR, hi', List.take_length]
        simp only [fAtom_list, fList_list, List.cons_append, List.nil_append]
    · have hx := fin2 (by omega)
      rw [if_neg h, List.nil_append] at hx
      refine call_w (specAtom_ok _) ?_
      simp -implicitDefEqProofs (disch := omega) only [go_sem]
      (repeat (with_reducible refine And.intro ?_ ?_; focus first | omega | rfl | assumption | exact ⟨_, rfl, rfl⟩ | (simp; omega) | (simp; done)))
      refine loop_at (ι := Nat) Tryz.checked.mixed rfl [1, 2, 3, 4] (fun i => [.c (.ptr (0, 0) 0), .c (.ptr (0, 1) 0), .c (.ptr (0, 2) 0), .c (.d (.i .i64 i))])
        (fun i => [.box [.d (.i .i64 x.fKind), .d (.s x.fName), .d (.sl (x.fArgs.map MType.enc))], .box [.d (.s []), .fsl []], .box [.d (.s []), .tsl (0, 3) (([atomX x.fName] ++ (x.fArgs.map sxT).take i).map MSExpr.enc)], .tok 2 (([atomX x.fName] ++ (x.fArgs.map sxT).take i).map MSExpr.enc)] :: S)
        (fun i => i ≤ x.fArgs.length) (fun i => x.fArgs.length - i) 0 rfl ?_ (Nat.zero_le _) ?_
      · simp only [List.take_zero, List.append_nil, List.map_cons, List.map_nil, List.cons_append, List.nil_append, enc_atom] <;> (try rfl)
      intro i hi
      have hl : (([atomX x.fName] ++ (x.fArgs.map sxT).take i).map MSExpr.enc).length ≤ i + 2 := by
        rw [List.length_map, List.length_append]
        have := List.length_take_le i (x.fArgs.map sxT)
        simp only [List.length_cons, List.length_nil]; omega
      have hs := fun hi => encX_snoc (base := [atomX x.fName]) (l := x.fArgs.map sxT) (i := i) hi
      have hrw := enc_rows (l := [atomX x.fName] ++ (x.fArgs.map sxT).take i)
      generalize hR : ([atomX x.fName] ++ (x.fArgs.map sxT).take i).map MSExpr.enc = R at hl hs hrw
      simp -implicitDefEqProofs (disch := omega) only [go_sem]
      with_reducible refine split2 (fun hb => ?_) (fun hb => ?_) <;> have h := hb <;> (try simp only [wf_preprocess] at h) <;> simp -implicitDefEqProofs (disch := omega) only [go_sem, hb] <;> (repeat (with_reducible refine And.intro ?_ ?_; focus first | omega | rfl | assumption | exact ⟨_, rfl, rfl⟩ | (simp; omega) | (simp; done)))
      · have hi' : i < x.fArgs.length := by omega
        have hs' := hs (by rw [List.length_map]; exact hi')
        rw [List.getElem_map] at hs'
        (repeat (with_reducible refine And.intro ?_ ?_; focus first | omega | rfl | assumption | exact ⟨_, rfl, rfl⟩ | (simp; omega) | (simp; done)))
        refine call_w (ih x.fArgs[i] (by have := List.sizeOf_lt_of_mem (List.getElem_mem hi'); omega) (hall _ (List.getElem_mem hi'))) ?_
        simp -implicitDefEqProofs (disch := omega) only [go_sem]
        (repeat (with_reducible refine And.intro ?_ ?_; focus first | omega | rfl | assumption | exact ⟨_, rfl, rfl⟩ | (simp; omega) | (simp; done)))
        rw [hs']
        exact inv_at (i + 1) (by omega) rfl rfl (by omega)
      · have hi' : i = (x.fArgs.map sxT).length := by rw [List.length_map]; omega
        rw [hx, ← hR, hi', List.take_length]
        simp only [fAtom_list, fList_list, List.cons_append, List.nil_append]
theorem specTy_ok (x : MType) (hsz : x.sz ≤ 4194304) : PCall Tryz.prog 159 [x.v] (.agg [.d (.s (sxT x).fAtom), .d (.sl ((sxT x).fList.map MSExpr.enc))]) := specTy_all _ x (Nat.lt_succ_self _) hsz
end Go.Proofs.YtlmhknhlmicmeaaGreatDoor

namespace Go.Ab
theorem MDataType.bounds {x : MDataType} (h : x.sz ≤ 4194304) : x.fName.length ≤ 4194304 ∧ x.fVars.length ≤ 4194304 ∧ x.fConstructors.length ≤ 4194304 ∧ ∀ s ∈ x.fVars, s.length ≤ 4194304 := by
  simp only [MDataType.sz, MDataType.enc_eq, szRow, szRow_append, D.sz, List.length_map] at h
  refine ⟨by omega, by omega, by omega, fun s hs => ?_⟩
  have := strs_b hs
  omega
theorem MConstructor.bounds {x : MConstructor} (h : x.sz ≤ 4194304) : x.fName.length ≤ 4194304 ∧ x.fFields.length ≤ 4194304 ∧ ∀ t ∈ x.fFields, t.sz ≤ 4194304 := by
  simp only [MConstructor.sz, MConstructor.enc_eq, szRow, szRow_append, D.sz, List.length_map] at h
  refine ⟨by omega, by omega, fun t ht => ?_⟩
  have hx : t.sz ≤ szRows (x.fFields.map MType.enc) := szRows_mem (List.mem_map_of_mem ht)
  omega
end Go.Ab
namespace Go.Proofs.YtlmhknhlmicmeaaGreatDoor
open Go Go.Ab
end Go.Proofs.YtlmhknhlmicmeaaGreatDoor

namespace Go.Ab
end Go.Ab
namespace Go.Proofs.YtlmhknhlmicmeaaGreatDoor
open Go Go.Ab
end Go.Proofs.YtlmhknhlmicmeaaGreatDoor

namespace Go.Ab
def atA (l : List MSExpr) (i : Nat) : List UInt8 := (l.getD i zeroX).fAtom
theorem atA_get {l : List MSExpr} {i : Nat} (h : i < l.length) : atA l i = l[i].fAtom := by simp [atA, List.getD, h]
theorem atA_no {l : List MSExpr} {i : Nat} (h : l.length ≤ i) : atA l i = [] := by simp [atA, List.getD, h]; rfl
def namesX (l : List MSExpr) : List (List UInt8) := if l.all (fun x => decide (x.fAtom ≠ [])) = true then l.map MSExpr.fAtom else []
theorem namesX_words : ∀ {vs : List (List UInt8)}, (∀ v ∈ vs, v ≠ []) → namesX (wordsX vs) = vs := fun {vs} h => by
  unfold namesX wordsX
  rw [if_pos (List.all_eq_true.2 fun x hx => ?_), List.map_map]
  · conv => rhs; rw [← List.map_id vs]
    rfl
  · obtain ⟨v, hv, rfl⟩ := List.mem_map.1 hx
    exact decide_eq_true (h v hv)
theorem atoms_sz : ∀ l : List MSExpr, ((l.map MSExpr.fAtom).map List.length).sum ≤ szX l
  | [] => by simp [szX]
  | x :: l => by
    have := atoms_sz l
    rw [List.map_cons, List.map_cons, List.sum_cons, szX, sx_sz]; omega
theorem namesX_sz (l : List MSExpr) : (namesX l).length ≤ l.length ∧ ((namesX l).map List.length).sum ≤ szX l := by
  unfold namesX
  split
  · refine ⟨by simp, ?_⟩
    exact atoms_sz l
  · simp
mutual
def decT (b : Bool) : MSExpr → MType
  | .mk a l => if a = [] then
      if l.length < 2 then .mk 0 [] []
      else if atA l 0 = wDyn ∧ (b = true ∨ l.length = 2 ∧ atA l 1 ≠ []) then .mk 4 (atA l 1) []
      else if atA l 0 = wAssoc ∧ (b = true ∨ l.length = 3 ∧ atA l 1 ≠ []) then .mk 3 (atA l 1) ((decTs b l).drop 2)
      else .mk 2 (atA l 0) ((decTs b l).drop 1)
    else if a.head? = some 39 then .mk 1 a.tail [] else .mk 2 a []
def decTs (b : Bool) : List MSExpr → List MType
  | [] => []
  | x :: xs => decT b x :: decTs b xs
end
theorem decTs_map (b : Bool) : ∀ l, decTs b l = l.map (decT b)
  | [] => rfl
  | t :: ts => by rw [decTs, List.map_cons, decTs_map b ts]
theorem decT_eq (b : Bool) (x : MSExpr) : decT b x = if x.fAtom = [] then
      if x.fList.length < 2 then .mk 0 [] []
      else if atA x.fList 0 = wDyn ∧ (b = true ∨ x.fList.length = 2 ∧ atA x.fList 1 ≠ []) then .mk 4 (atA x.fList 1) []
      else if atA x.fList 0 = wAssoc ∧ (b = true ∨ x.fList.length = 3 ∧ atA x.fList 1 ≠ []) then .mk 3 (atA x.fList 1) ((x.fList.map (decT b)).drop 2)
      else .mk 2 (atA x.fList 0) ((x.fList.map (decT b)).drop 1)
    else if x.fAtom.head? = some 39 then .mk 1 x.fAtom.tail [] else .mk 2 x.fAtom [] := by
  cases x; rw [decT, decTs_map]; rfl
theorem szT_append : ∀ a b, szT (a ++ b) = szT a + szT b
  | [], b => by simp [szT]
  | x :: a, b => by rw [List.cons_append, szT, szT, szT_append a b]; omega
theorem szT_drop (l : List MType) (i : Nat) : szT (l.drop i) ≤ szT l := by
  have := szT_append (l.take i) (l.drop i)
  rw [List.take_append_drop] at this
  omega
theorem atA_sz (l : List MSExpr) (i : Nat) : (atA l i).length ≤ szX l := by
  by_cases h : i < l.length
  · rw [atA_get h]
    have h1 := szX_mem (List.getElem_mem h)
    rw [sx_sz] at h1; omega
  · rw [atA_no (by omega)]; simp
mutual
theorem decT_sz (b : Bool) : ∀ x : MSExpr, (decT b x).sz ≤ x.sz
  | .mk a l => by
    have h1 := decTs_sz b l
    have h2 := szT_drop (decTs b l) 2
    have h3 := szT_drop (decTs b l) 1
    have h4 := atA_sz l 0
    have h5 := atA_sz l 1
    have h6 : (decTs b l).length = l.length := by rw [decTs_map, List.length_map]
    rw [sx_sz, szX_rows]; simp only [MSExpr.fAtom, MSExpr.fList]
    rw [decT]
    split
    · split
      · rw [ty_sz_eq]; simp [MType.fName, MType.fArgs, szT]
      · split
        · rw [ty_sz_eq]; simp [MType.fName, MType.fArgs, szT]; omega
        · have g0 := decTs_cut b l 0
          have g1 := decTs_cut b l 1
          simp only [Nat.zero_add, Nat.reduceAdd] at g0 g1
          split
          · rw [ty_sz_eq]; simp only [MType.fName, MType.fArgs, List.length_drop, h6]; omega
          · rw [ty_sz_eq]; simp only [MType.fName, MType.fArgs, List.length_drop, h6]; omega
    · split
      · rw [ty_sz_eq]; simp [MType.fName, MType.fArgs, szT]; omega
      · rw [ty_sz_eq]; simp [MType.fName, MType.fArgs, szT]
theorem decTs_sz (b : Bool) : ∀ l : List MSExpr, szT (decTs b l) ≤ szX l
  | [] => by simp [decTs, szT]
  | x :: xs => by
    have h1 := decT_sz b x
    have h2 := decTs_sz b xs
    rw [decTs, szT, szX]; omega
theorem decTs_cut (b : Bool) : ∀ (l : List MSExpr) (i : Nat), szT ((decTs b l).drop (i + 1)) + (atA l i).length ≤ szX l
  | [], i => by simp [decTs, szT, atA_no]
  | x :: xs, 0 => by
    have h2 := decTs_sz b xs
    rw [decTs, List.drop_succ_cons, List.drop_zero, szX, show atA (x :: xs) 0 = x.fAtom from rfl, sx_sz]; omega
  | x :: xs, i + 1 => by
    have h2 := decTs_cut b xs i
    rw [decTs, List.drop_succ_cons, szX, show atA (x :: xs) (i + 1) = atA xs i from rfl]; omega
end
theorem name_ne {s : List UInt8} (h : validName s = true) : s ≠ [] := fun e => by rw [e] at h; have := of_dec h; simp at this
theorem name_head {s : List UInt8} (h : validName s = true) : s.head? ≠ some 39 := fun e => by
  have h1 := of_dec h
  have h2 := h1.2.2 0 (by omega)
  cases s with
  | nil => cases e
  | cons c s =>
    simp only [List.head?_cons, Option.some.injEq] at e
    subst e
    simp [lowerB, digitB] at h2
theorem name_dyn {s : List UInt8} (h : validName s = true) : s ≠ wDyn ∧ s ≠ wAssoc := by
  have h1 := (of_dec h).2.1
  refine ⟨fun e => h1 (by rw [e]; simp [reserved, wDyn]), fun e => h1 (by rw [e]; simp [reserved, wAssoc])⟩
mutual
theorem decT_sx (b : Bool) : ∀ t : MType, formed t = true → decT b (sxT t) = t
  | .mk k n zs => fun hf => by
    rw [formed, Bool.and_eq_true] at hf
    have hfi := of_dec hf.1
    have hzs := decTs_sx b zs hf.2
    rw [sxT]
    by_cases h1 : k = 1
    · have hz : zs = [] := by
        have : zs.length = 0 := by omega
        exact List.eq_nil_of_length_eq_zero this
      rw [if_pos h1, atomX, decT, if_neg (by simp), if_pos (by simp), hz, h1]; rfl
    rw [if_neg h1]
    by_cases h4 : k = 4
    · have hz : zs = [] := by
        have : zs.length = 0 := by omega
        exact List.eq_nil_of_length_eq_zero this
      have hn : validName n = true := by
        rcases hfi with h | h | h
        · exact h.2.1
        · exact h.2.1
        · omega
      rw [if_pos h4, listX, decT, if_pos rfl, if_neg (by simp), if_pos ⟨rfl, .inr ⟨rfl, name_ne hn⟩⟩, hz, h4]; rfl
    rw [if_neg h4]
    by_cases h2 : k = 2 ∧ zs.length = 0
    · have hz : zs = [] := List.eq_nil_of_length_eq_zero h2.2
      have hn : n ≠ [] ∧ n.head? ≠ some 39 := by
        rcases hfi with h | h | h
        · omega
        · omega
        · rcases h.2 with g | g
          · exact ⟨name_ne g.1, name_head g.1⟩
          · rcases of_dec g.1 with e | e <;> rw [e] <;> simp
      rw [if_pos h2, atomX, decT, if_neg hn.1, if_neg hn.2, hz, h2.1]
    rw [if_neg h2]
    by_cases h3 : k = 3
    · have hz : zs.length = 1 ∧ validName n = true := by
        rcases hfi with h | h | h
        · omega
        · exact ⟨h.2.2, h.2.1⟩
        · omega
      rw [if_pos h3, listX, decT, if_pos rfl, if_neg (by simp), if_neg (fun h => by have := h.1; simp [atA, atomX, MSExpr.fAtom, wDyn, wAssoc] at this), if_pos ⟨rfl, .inr ⟨by rw [sxTs_map]; simp [hz.1], name_ne hz.2⟩⟩]
      show MType.mk 3 n (decTs b (sxTs zs)) = _
      rw [hzs, h3]
    · have hn : validName n = true ∧ zs ≠ [] := by
        rcases hfi with h | h | h
        · omega
        · omega
        · rcases h.2 with g | g
          · exact ⟨g.1, fun e => h2 ⟨h.1, by rw [e]; rfl⟩⟩
          · exact (h2 ⟨h.1, g.2⟩).elim
      have hk : k = 2 := by
        rcases hfi with h | h | h
        · omega
        · omega
        · exact h.1
      have hd := name_dyn hn.1
      rw [if_neg h3, listX, decT, if_pos rfl, if_neg (by rw [sxTs_map]; cases zs with | nil => exact (hn.2 rfl).elim | cons z zs => simp), if_neg (fun h => hd.1 h.1), if_neg (fun h => hd.2 h.1)]
      show MType.mk 2 n (decTs b (sxTs zs)) = _
      rw [hzs, hk]
theorem decTs_sx (b : Bool) : ∀ ts : List MType, formeds ts = true → decTs b (sxTs ts) = ts
  | [], _ => rfl
  | t :: ts, h => by
    rw [formeds, Bool.and_eq_true] at h
    rw [sxTs, decTs, decT_sx b t h.1, decTs_sx b ts h.2]
end
theorem namesNe {vs : List (List UInt8)} (h : namesOk vs = true) : ∀ v ∈ vs, v ≠ [] := fun v hv => by
  unfold namesOk at h
  rw [Bool.and_eq_true] at h
  exact name_ne (List.all_eq_true.1 h.2 v hv)
theorem zeroX_sz : zeroX.sz = 0 := by rw [sx_sz]; simp [zeroX, MSExpr.fAtom, MSExpr.fList, szRows]
end Go.Ab

namespace Go.Ab
def wTrue : List UInt8 := [116, 114, 117, 101]
def wFalse : List UInt8 := [102, 97, 108, 115, 101]
def wCall : List UInt8 := [99, 97, 108, 108]
def wMethod : List UInt8 := [109, 101, 116, 104, 111, 100]
def wNew : List UInt8 := [110, 101, 119]
def wCase : List UInt8 := [99, 97, 115, 101]
def wLet : List UInt8 := [108, 101, 116]
def wIf : List UInt8 := [105, 102]
def wPack : List UInt8 := [112, 97, 99, 107]
def wThe : List UInt8 := [116, 104, 101]
def headE (k : Int) (tr nm : List UInt8) (ty : MType) : List MSExpr :=
  if k = 4 then wordsX [wCall, nm] else if k = 5 then wordsX [wMethod, tr, nm] else if k = 6 then wordsX [wNew, nm] else if k = 8 then wordsX [wLet, nm] else
  if k = 9 then wordsX [wIf] else if k = 10 then wordsX [nm] else if k = 11 then wordsX [wPack, tr] else if k = 12 then [atomX wThe, sxT ty] else wordsX [wCase]
mutual
def sxE : MExpr → MSExpr
  | .mk k tr nm n ty zs ms => if k = 1 then atomX (Lib.itoa n) else if k = 2 then atomX (if n = 1 then wTrue else wFalse) else if k = 3 then atomX nm else
    listX (headE k tr nm ty ++ sxEs zs ++ (if k = 4 ∨ k = 5 ∨ k = 6 ∨ k = 8 ∨ k = 9 ∨ k = 10 ∨ k = 11 ∨ k = 12 then [] else sxMs ms))
def sxEs : List MExpr → List MSExpr
  | [] => []
  | t :: ts => sxE t :: sxEs ts
def sxM : MArm → MSExpr
  | .mk c vs b => listX ([atomX c] ++ wordsX vs ++ [sxE b])
def sxMs : List MArm → List MSExpr
  | [] => []
  | t :: ts => sxM t :: sxMs ts
end
theorem sxEs_map : ∀ l, sxEs l = l.map sxE
  | [] => rfl
  | t :: ts => by rw [sxEs, List.map_cons, sxEs_map ts]
theorem sxMs_map : ∀ l, sxMs l = l.map sxM
  | [] => rfl
  | t :: ts => by rw [sxMs, List.map_cons, sxMs_map ts]
theorem sxE_eq (x : MExpr) : sxE x = if x.fKind = 1 then atomX (Lib.itoa x.fN) else if x.fKind = 2 then atomX (if x.fN = 1 then wTrue else wFalse) else if x.fKind = 3 then atomX x.fName else
    listX (headE x.fKind x.fTrait x.fName x.fType ++ x.fArgs.map sxE ++ (if x.fKind = 4 ∨ x.fKind = 5 ∨ x.fKind = 6 ∨ x.fKind = 8 ∨ x.fKind = 9 ∨ x.fKind = 10 ∨ x.fKind = 11 ∨ x.fKind = 12 then [] else x.fArms.map sxM)) := by
  cases x; rw [sxE, sxEs_map, sxMs_map]; rfl
theorem sxM_eq (x : MArm) : sxM x = listX ([atomX x.fConstructor] ++ wordsX x.fVars ++ [sxE x.fBody]) := by cases x; rw [sxM]; rfl
def szE : List MExpr → Nat
  | [] => 0
  | x :: xs => x.sz + szE xs
theorem szE_rows : ∀ l, szRows (l.map MExpr.enc) = szE l
  | [] => rfl
  | x :: xs => by rw [List.map_cons, szRows, szE, szE_rows xs]; rfl
def szM : List MArm → Nat
  | [] => 0
  | x :: xs => x.sz + szM xs
theorem szM_rows : ∀ l, szRows (l.map MArm.enc) = szM l
  | [] => rfl
  | x :: xs => by rw [List.map_cons, szRows, szM, szM_rows xs]; rfl
theorem ex_sz_eq (x : MExpr) : x.sz = x.fTrait.length + x.fName.length + x.fType.sz + (x.fArgs.length + szE x.fArgs) + (x.fArms.length + szM x.fArms) := by
  rw [← szE_rows, ← szM_rows]; simp only [MExpr.sz, MExpr.enc_eq, szRow, szRow_append, D.sz, List.length_map, MType.sz_def]; omega
theorem arm_sz_eq (x : MArm) : x.sz = x.fConstructor.length + (x.fVars.length + (x.fVars.map List.length).sum) + x.fBody.sz := by
  rw [← szRows_encS]; simp only [MArm.sz, MArm.enc_eq, szRow, szRow_append, D.sz, List.length_map, MExpr.sz_def]; omega
theorem dec_len : ∀ (k n : Nat), n < 10 ^ (k + 1) → (Lib.decDigits n).length ≤ k + 1
  | 0, n, h => by rw [Lib.decDigits, dif_pos (by simpa using h)]; simp
  | k + 1, n, h => by
    rw [Lib.decDigits]
    split
    · simp
    · rw [List.length_append]
      have := dec_len k (n / 10) (by rw [Nat.pow_succ] at h; omega)
      simp; omega
theorem itoa_len {n : Int} (h : -999999 ≤ n ∧ n ≤ 999999) : (Lib.itoa n).length ≤ 7 := by
  unfold Lib.itoa
  split
  · have := dec_len 5 n.natAbs (by omega)
    simp; omega
  · have := dec_len 5 n.toNat (by omega)
    omega
theorem headE_len (k : Int) (tr nm : List UInt8) (ty : MType) : (headE k tr nm ty).length ≤ 3 ∧ szX (headE k tr nm ty) ≤ 18 + tr.length + nm.length + 16 * ty.sz := by
  have h := sxT_le ty
  unfold headE
  repeat' (first | (split; · refine ⟨by simp [wordsX], ?_⟩; simp [szX, wordsX, sz_atom, wCall, wMethod, wNew, wLet, wIf, wPack, wThe, wCase]; omega) )
  refine ⟨by simp [wordsX], ?_⟩; simp [szX, wordsX, sz_atom, wCase]; omega
mutual
theorem sxE_le : ∀ x : MExpr, exprOk x = true → (sxE x).sz ≤ 24 + 32 * x.sz
  | .mk k tr nm n ty zs ms => fun hok => by
    rw [exprOk, Bool.and_eq_true, Bool.and_eq_true] at hok
    have hf := of_dec hok.1
    have h1 := sxEs_le zs hok.2.1
    have h2 := sxMs_le ms hok.2.2
    have h3 := headE_len k tr nm ty
    rw [ex_sz_eq]
    simp only [MExpr.fName, MExpr.fArgs, MExpr.fTrait, MExpr.fType, MExpr.fArms]
    rw [sxE]
    split
    · rename_i hk
      have h4 := hf.2.2.2.1
      simp only [MExpr.fKind, MExpr.fN, hk, if_true] at h4
      have := itoa_len h4
      rw [sz_atom]; omega
    · split
      · rw [sz_atom]; split <;> simp [wTrue, wFalse] <;> omega
      · split
        · rw [sz_atom]; omega
        · rw [sz_list, szX_append, szX_append, List.length_append, List.length_append, sxEs_map, List.length_map, ← sxEs_map]
          split
          · simp [szX]; omega
          · rw [sxMs_map, List.length_map, ← sxMs_map]; omega
theorem sxEs_le : ∀ xs : List MExpr, exprsOk xs = true → szX (sxEs xs) ≤ 24 * xs.length + 32 * szE xs
  | [], _ => by simp [sxEs, szX]
  | x :: xs, h => by
    rw [exprsOk, Bool.and_eq_true] at h
    have h1 := sxE_le x h.1
    have h2 := sxEs_le xs h.2
    rw [sxEs, szX, szE, List.length_cons]; omega
theorem sxM_le : ∀ x : MArm, armOk x = true → (sxM x).sz ≤ 26 + 32 * x.sz
  | .mk c vs b => fun hok => by
    rw [armOk, Bool.and_eq_true, Bool.and_eq_true] at hok
    have h1 := sxE_le b hok.2.2
    rw [arm_sz_eq]
    simp only [MArm.fConstructor, MArm.fVars, MArm.fBody]
    rw [sxM, sz_list, szX_append, szX_append, List.length_append, List.length_append, words_len, szX_words]
    simp [szX, sz_atom]; omega
theorem sxMs_le : ∀ xs : List MArm, armsOk xs = true → szX (sxMs xs) ≤ 26 * xs.length + 32 * szM xs
  | [], _ => by simp [sxMs, szX]
  | x :: xs, h => by
    rw [armsOk, Bool.and_eq_true] at h
    have h1 := sxM_le x h.1
    have h2 := sxMs_le xs h.2
    rw [sxMs, szX, szM, List.length_cons]; omega
end
end Go.Ab

namespace Go.Ab
theorem digitVal_of (d : Nat) (h : d < 10) : Lib.digitVal (UInt8.ofNat (48 + d)) = some d := by
  have : (UInt8.ofNat (48 + d)).toNat = 48 + d := by rw [UInt8.toNat_ofNat']; omega
  unfold Lib.digitVal
  rw [this, if_pos (by omega)]
  congr 1; omega
theorem decFrom_snoc : ∀ (l : List UInt8) (acc : Nat) (b : UInt8), Lib.decFrom acc (l ++ [b]) = (Lib.decFrom acc l).bind fun m => (Lib.digitVal b).map fun d => m * 10 + d
  | [], acc, b => by
    rw [List.nil_append, Lib.decFrom, Lib.decFrom]
    cases Lib.digitVal b <;> rfl
  | a :: l, acc, b => by
    rw [List.cons_append, Lib.decFrom, Lib.decFrom]
    cases Lib.digitVal a with
    | none => rfl
    | some e => exact decFrom_snoc l _ b
theorem decFrom_digits (n : Nat) : Lib.decFrom 0 (Lib.decDigits n) = some n := by
  induction n using Nat.strongRecOn with
  | _ n ih =>
    rw [Lib.decDigits]
    split
    · rename_i h
      rw [Lib.decFrom, digitVal_of n h]
      simp [Lib.decFrom]
    · rename_i h
      rw [decFrom_snoc, ih (n / 10) (by omega), digitVal_of _ (Nat.mod_lt _ (by decide))]
      simp only [Option.bind_some, Option.map_some, Option.some.injEq]
      omega
theorem decDigits_head (n : Nat) : ∃ b r, Lib.decDigits n = b :: r ∧ 48 ≤ b.toNat ∧ b.toNat ≤ 57 := by
  induction n using Nat.strongRecOn with
  | _ n ih =>
    rw [Lib.decDigits]
    split
    · rename_i h
      exact ⟨_, _, rfl, by rw [UInt8.toNat_ofNat']; omega, by rw [UInt8.toNat_ofNat']; omega⟩
    · rename_i h
      obtain ⟨b, r, e, h1, h2⟩ := ih (n / 10) (by omega)
      rw [e]
      exact ⟨b, r ++ _, rfl, h1, h2⟩
theorem decNat_digits (n : Nat) : Lib.decNat (Lib.decDigits n) = some n := by
  obtain ⟨b, r, e, _⟩ := decDigits_head n
  unfold Lib.decNat
  rw [show (Lib.decDigits n).isEmpty = false from by rw [e]; rfl]
  exact decFrom_digits n
theorem atoi_cons (b : UInt8) (r : List UInt8) : Lib.atoi (b :: r) = if b == 45 then (Lib.decNat r).map fun (m : Nat) => -(m : Int) else if b == 43 then (Lib.decNat r).map fun (m : Nat) => (m : Int) else (Lib.decNat (b :: r)).map fun (m : Nat) => (m : Int) := rfl
theorem atoi_itoa (n : Int) : Lib.atoi (Lib.itoa n) = some n := by
  unfold Lib.itoa
  split
  · rename_i h
    show Lib.atoi (45 :: Lib.decDigits n.natAbs) = _
    rw [atoi_cons, if_pos (by decide), decNat_digits]
    simp only [Option.map_some, Option.some.injEq]
    omega
  · rename_i h
    obtain ⟨b, r, e, h1, h2⟩ := decDigits_head n.toNat
    have hd := decNat_digits n.toNat
    rw [e] at hd ⊢
    rw [atoi_cons, if_neg (by simp only [beq_iff_eq]; intro h; rw [h] at h1; revert h1; decide), if_neg (by simp only [beq_iff_eq]; intro h; rw [h] at h1; revert h1; decide), hd]
    simp only [Option.map_some, Option.some.injEq]
    omega
theorem itoa_ne (n : Int) : Lib.itoa n ≠ [] := fun e => by
  have := atoi_itoa n
  rw [e] at this
  cases this
def readI (s : List UInt8) : Option Int := match Lib.atoi s with
  | some n => if (-999999999999 ≤ n ∧ n ≤ 999999999999) ∧ Lib.itoa n = s then some n else none
  | none => none
theorem readI_itoa {n : Int} (h : -999999999999 ≤ n ∧ n ≤ 999999999999) : readI (Lib.itoa n) = some n := by
  unfold readI
  rw [atoi_itoa]
  exact if_pos ⟨h, rfl⟩
theorem readI_some {s : List UInt8} {n : Int} (h : readI s = some n) : (-999999999999 ≤ n ∧ n ≤ 999999999999) ∧ Lib.itoa n = s := by
  unfold readI at h
  split at h
  · split at h
    · cases h; assumption
    · cases h
  · cases h
theorem readI_letter {b : UInt8} {r : List UInt8} (h : lowerB b) : readI (b :: r) = none := by
  have h1 : (b == 45) = false := by simp only [beq_eq_false_iff_ne]; intro e; rw [e] at h; revert h; simp [lowerB]
  have h2 : (b == 43) = false := by simp only [beq_eq_false_iff_ne]; intro e; rw [e] at h; revert h; simp [lowerB]
  have h3 : Lib.digitVal b = none := if_neg (fun x => by unfold lowerB at h; omega)
  unfold readI
  rw [atoi_cons, h1, h2]
  simp [Lib.decNat, Lib.decFrom, h3]
theorem readI_name {s : List UInt8} (h : validName s = true) : readI s = none := by
  have h1 := of_dec h
  have h2 := h1.2.2 0 (by omega)
  cases s with
  | nil => simp at h1
  | cons b r =>
    rcases h2 with h2 | h2
    · exact readI_letter h2
    · exact (h2.1 rfl).elim
def tyZ : MType := .mk 0 [] []
def zeroEx : MExpr := .mk 0 [] [] 0 tyZ [] []
mutual
def decE (b : Bool) : MSExpr → MExpr
  | .mk a l => if a = [] then
      if b = true ∧ (l.length < 2 ∨ atA l 0 = wMethod ∧ l.length < 3) then zeroEx
      else if atA l 0 = wCall then .mk 4 [] (atA l 1) 0 tyZ ((decEs b l).drop 2) []
      else if atA l 0 = wNew then .mk 6 [] (atA l 1) 0 tyZ ((decEs b l).drop 2) []
      else if atA l 0 = wLet then .mk 8 [] (atA l 1) 0 tyZ ((decEs b l).drop 2) []
      else if atA l 0 = wPack then .mk 11 (atA l 1) [] 0 tyZ ((decEs b l).drop 2) []
      else if atA l 0 = wMethod then .mk 5 (atA l 1) (atA l 2) 0 tyZ ((decEs b l).drop 3) []
      else if atA l 0 = wIf then .mk 9 [] [] 0 tyZ ((decEs b l).drop 1) []
      else if atA l 0 = wThe then .mk 12 [] [] 0 (decT b (l.getD 1 zeroX)) ((decEs b l).drop 2) []
      else if atA l 0 = wCase then .mk 7 [] [] 0 tyZ (((decEs b l).drop 1).take 1) ((decMs b l).drop 2)
      else .mk 10 [] (atA l 0) 0 tyZ ((decEs b l).drop 1) []
    else match readI a with
      | some n => .mk 1 [] [] n tyZ [] []
      | none => if a = wTrue then .mk 2 [] [] 1 tyZ [] [] else if a = wFalse then .mk 2 [] [] 0 tyZ [] [] else .mk 3 [] a 0 tyZ [] []
def decEs (b : Bool) : List MSExpr → List MExpr
  | [] => []
  | x :: xs => decE b x :: decEs b xs
def decM (b : Bool) : MSExpr → MArm
  | .mk a l => if l.length < 2 then .mk [] [] zeroEx else .mk (atA l 0) (namesX ((l.drop 1).dropLast)) ((decEs b l).getLastD zeroEx)
def decMs (b : Bool) : List MSExpr → List MArm
  | [] => []
  | x :: xs => decM b x :: decMs b xs
end
theorem decEs_map (b : Bool) : ∀ l, decEs b l = l.map (decE b)
  | [] => rfl
  | t :: ts => by rw [decEs, List.map_cons, decEs_map b ts]
theorem decMs_map (b : Bool) : ∀ l, decMs b l = l.map (decM b)
  | [] => rfl
  | t :: ts => by rw [decMs, List.map_cons, decMs_map b ts]
theorem decEs_append (b : Bool) (l m : List MSExpr) : decEs b (l ++ m) = decEs b l ++ decEs b m := by simp only [decEs_map, List.map_append]
theorem decMs_append (b : Bool) (l m : List MSExpr) : decMs b (l ++ m) = decMs b l ++ decMs b m := by simp only [decMs_map, List.map_append]
theorem ty_zero {t : MType} (h : zeroT t) : t = tyZ := MType.ext h.1 h.2.1 (List.eq_nil_of_length_eq_zero h.2.2)
theorem op_not_word {s : List UInt8} (h : s ∈ ops) : s ≠ [] ∧ ∀ w ∈ [wCall, wNew, wLet, wPack, wMethod, wIf, wThe, wCase], s ≠ w := by
  have := op_len h
  refine ⟨fun e => by rw [e] at this; simp at this, fun w hw e => ?_⟩
  rw [e] at this
  simp only [List.mem_cons, List.not_mem_nil, or_false] at hw
  rcases hw with g | g | g | g | g | g | g | g <;> rw [g] at this <;> revert this <;> decide
set_option maxHeartbeats 2000000 in
mutual
theorem decE_sx (b : Bool) : ∀ e : MExpr, exprOk e = true → decE b (sxE e) = e
  | .mk k tr nm n ty zs ms => fun hok => by
    rw [exprOk, Bool.and_eq_true, Bool.and_eq_true] at hok
    have hf := of_dec hok.1
    have h1 := decEs_sx b zs hok.2.1
    have h2 := decMs_sx b ms hok.2.2
    obtain ⟨p0, p1, p2, p3, p4, p5, p6⟩ := hf
    simp only [MExpr.fKind, MExpr.fTrait, MExpr.fName, MExpr.fN, MExpr.fType, MExpr.fArgs, MExpr.fArms] at p0 p1 p2 p3 p4 p5 p6
    have nz : ∀ {l : List MExpr}, l.length = 0 → l = [] := fun h => List.eq_nil_of_length_eq_zero h
    have nm0 : k ≠ 7 → ms = [] := fun h => List.eq_nil_of_length_eq_zero (by
      have : ¬ 0 < ms.length := fun x => h (p6.2 x)
      omega)
    have hk : k = 1 ∨ k = 2 ∨ k = 3 ∨ k = 4 ∨ k = 5 ∨ k = 6 ∨ k = 7 ∨ k = 8 ∨ k = 9 ∨ k = 10 ∨ k = 11 ∨ k = 12 := by omega
    rcases hk with rfl | rfl | rfl | rfl | rfl | rfl | rfl | rfl | rfl | rfl | rfl | rfl
    all_goals simp only [if_true, if_false, true_or, or_true, false_or, or_false, or_self, (by decide : (1:Int) = 5 ↔ False), Int.reduceEq] at p1 p2 p3 p4 p5
    · have e1 := ty_zero p4; have e2 := nz p5; have e3 := nm0 (by decide)
      subst e1 e2 e3 p1 p2
      rw [sxE, if_pos rfl, atomX, decE, if_neg (itoa_ne n), readI_itoa (by omega)]
    · have e1 := ty_zero p4; have e2 := nz p5; have e3 := nm0 (by decide)
      subst e1 e2 e3 p1 p2
      rw [sxE, if_neg (by decide), if_pos rfl, atomX, decE]
      rcases p3 with rfl | rfl
      · rw [if_neg (by decide : ¬ (0 : Int) = 1), if_neg (by decide), show readI wFalse = none from readI_letter (by simp [lowerB]), if_neg (by decide), if_pos rfl]
      · rw [if_pos rfl, if_neg (by decide), show readI wTrue = none from readI_letter (by simp [lowerB]), if_pos rfl]
    · have e1 := ty_zero p4; have e2 := nz p5; have e3 := nm0 (by decide)
      subst e1 e2 e3 p1 p3
      have hr := (of_dec p2).2.1
      rw [sxE, if_neg (by decide), if_neg (by decide), if_pos rfl, atomX, decE, if_neg (name_ne p2), readI_name p2, if_neg (fun e => hr (by rw [e]; simp [reserved, wTrue])), if_neg (fun e => hr (by rw [e]; simp [reserved, wFalse]))]
    all_goals have hz : (sxEs zs).length = zs.length := by rw [sxEs_map, List.length_map]
    · have e1 := ty_zero p4; have e3 := nm0 (by decide)
      subst e1 e3 p1 p3
      simp [sxE, headE, listX, wordsX, decE, decEs, decEs_append, decMs, decMs_append, atA, atomX, MSExpr.fAtom, wCall, wMethod, wNew, wCase, wLet, wIf, wPack, wThe, h1, hz, h2]
      all_goals (intros; omega)
    · have e1 := ty_zero p4; have e3 := nm0 (by decide)
      subst e1 e3 p3
      simp [sxE, headE, listX, wordsX, decE, decEs, decEs_append, decMs, decMs_append, atA, atomX, MSExpr.fAtom, wCall, wMethod, wNew, wCase, wLet, wIf, wPack, wThe, h1, hz, h2]
      all_goals (intros; omega)
    · have e1 := ty_zero p4; have e3 := nm0 (by decide)
      subst e1 e3 p1 p3
      simp [sxE, headE, listX, wordsX, decE, decEs, decEs_append, decMs, decMs_append, atA, atomX, MSExpr.fAtom, wCall, wMethod, wNew, wCase, wLet, wIf, wPack, wThe, h1, hz, h2]
      all_goals (intros; omega)
    · have e1 := ty_zero p4
      subst e1 p1 p2 p3
      have hm : 0 < ms.length := p6.1 rfl
      obtain ⟨z, rfl⟩ : ∃ z, zs = [z] := by
        cases zs with
        | nil => simp at p5
        | cons z t => cases t with
          | nil => exact ⟨z, rfl⟩
          | cons _ _ => simp at p5
      simp only [sxEs, decEs, List.cons.injEq, and_true] at h1
      simp [sxE, headE, listX, wordsX, decE, decEs, decEs_append, decMs, decMs_append, sxEs, atA, atomX, MSExpr.fAtom, wCall, wMethod, wNew, wCase, wLet, wIf, wPack, wThe, h1, h2]
      all_goals (intros; omega)
    · have e1 := ty_zero p4; have e3 := nm0 (by decide)
      subst e1 e3 p1 p3
      simp [sxE, headE, listX, wordsX, decE, decEs, decEs_append, decMs, decMs_append, atA, atomX, MSExpr.fAtom, wCall, wMethod, wNew, wCase, wLet, wIf, wPack, wThe, h1, hz, h2]
      all_goals (intros; omega)
    · have e1 := ty_zero p4; have e3 := nm0 (by decide)
      subst e1 e3 p1 p2 p3
      simp [sxE, headE, listX, wordsX, decE, decEs, decEs_append, decMs, decMs_append, atA, atomX, MSExpr.fAtom, wCall, wMethod, wNew, wCase, wLet, wIf, wPack, wThe, h1, hz, h2]
      all_goals (intros; omega)
    · have e1 := ty_zero p4; have e3 := nm0 (by decide)
      subst e1 e3 p1 p3
      have ho := op_not_word p2
      simp only [List.mem_cons, List.not_mem_nil, or_false, ne_eq, forall_eq_or_imp, forall_eq] at ho
      obtain ⟨_, o1, o2, o3, o4, o5, o6, o7, o8⟩ := ho
      simp [sxE, headE, listX, wordsX, decE, decEs, decEs_append, atA, atomX, MSExpr.fAtom, h1, hz, o1, o2, o3, o4, o5, o6, o7, o8]
      all_goals (intros; omega)
    · have e1 := ty_zero p4; have e3 := nm0 (by decide)
      subst e1 e3 p2 p3
      simp [sxE, headE, listX, wordsX, decE, decEs, decEs_append, decMs, decMs_append, atA, atomX, MSExpr.fAtom, wCall, wMethod, wNew, wCase, wLet, wIf, wPack, wThe, h1, hz, h2]
      all_goals (intros; omega)
    · have e3 := nm0 (by decide)
      subst e3 p1 p2 p3
      have ht := decT_sx b ty (valid_formed p4)
      simp [sxE, headE, listX, wordsX, decE, decEs, decEs_append, atA, atomX, MSExpr.fAtom, wCall, wMethod, wNew, wCase, wLet, wIf, wPack, wThe, h1, hz, ht]
      all_goals (intros; omega)
theorem decEs_sx (b : Bool) : ∀ es : List MExpr, exprsOk es = true → decEs b (sxEs es) = es
  | [], _ => rfl
  | t :: ts, h => by
    rw [exprsOk, Bool.and_eq_true] at h
    rw [sxEs, decEs, decE_sx b t h.1, decEs_sx b ts h.2]
theorem decM_sx (b : Bool) : ∀ m : MArm, armOk m = true → decM b (sxM m) = m
  | .mk c vs e => fun h => by
    rw [armOk, Bool.and_eq_true, Bool.and_eq_true] at h
    have he := decE_sx b e h.2.2
    rw [sxM, listX, decM, if_neg (by simp), decEs_append]
    have e1 : atA ([atomX c] ++ wordsX vs ++ [sxE e]) 0 = c := rfl
    have e2 : (([atomX c] ++ wordsX vs ++ [sxE e]).drop 1).dropLast = wordsX vs := by
      rw [List.append_assoc, List.singleton_append, List.drop_succ_cons, List.drop_zero, List.dropLast_concat]
    rw [e1, e2, namesX_words (namesNe h.2.1)]
    congr 1
    rw [decEs, he, List.getLastD_eq_getLast?, List.getLast?_append]
    simp [decEs]
theorem decMs_sx (b : Bool) : ∀ ms : List MArm, armsOk ms = true → decMs b (sxMs ms) = ms
  | [], _ => rfl
  | t :: ts, h => by
    rw [armsOk, Bool.and_eq_true] at h
    rw [sxMs, decMs, decM_sx b t h.1, decMs_sx b ts h.2]
end
theorem tyZ_sz : tyZ.sz = 0 := by rw [ty_sz_eq]; rfl
theorem zeroEx_sz : zeroEx.sz = 0 := by rw [ex_sz_eq]; simp [zeroEx, MExpr.fTrait, MExpr.fName, MExpr.fType, MExpr.fArgs, MExpr.fArms, tyZ_sz, szE, szM]
theorem names_last (l : List MSExpr) : ((namesX ((l.drop 1).dropLast)).length + ((namesX ((l.drop 1).dropLast)).map List.length).sum) ≤ (l.drop 1).dropLast.length + szX ((l.drop 1).dropLast) := by
  have := namesX_sz ((l.drop 1).dropLast)
  omega
theorem szX_cut (x : MSExpr) (m : List MSExpr) (y : MSExpr) : szX (x :: (m ++ [y])) = x.sz + (szX m + y.sz) := by rw [szX, szX_append]; simp [szX]
mutual
theorem decE_sz (b : Bool) : ∀ x : MSExpr, (decE b x).sz ≤ x.sz
  | .mk a l => by
    have g := decEs_cut b l
    have hl : (decEs b l).length = l.length := by rw [decEs_map, List.length_map]
    have hm : (decMs b l).length = l.length := by rw [decMs_map, List.length_map]
    rw [sx_sz, szX_rows]; simp only [MSExpr.fAtom, MSExpr.fList]
    rw [decE]
    split
    · have g1 : szE ((decEs b l).drop 1) + (atA l 0).length ≤ szX l := by
        have := g 0
        simp only [Nat.zero_add, (by decide : ¬ (1 ≤ 0)), if_false] at this
        omega
      have g2 : szE ((decEs b l).drop 2) + ((atA l 0).length + (atA l 1).length) ≤ szX l := by
        have := g 1
        simp only [Nat.reduceAdd, Nat.le_refl, if_true, Nat.sub_self] at this
        omega
      have g3 : szE ((decEs b l).drop 3) + ((atA l 1).length + (atA l 2).length) ≤ szX l := by
        have := g 2
        simp only [Nat.reduceAdd, (by decide : 1 ≤ 2), if_true, Nat.reduceSub] at this
        omega
      split
      · rw [zeroEx_sz]; omega
      · repeat' split
        all_goals rw [ex_sz_eq]; simp only [MExpr.fTrait, MExpr.fName, MExpr.fType, MExpr.fArgs, MExpr.fArms, tyZ_sz, szE, szM, List.length_nil, List.length_drop, List.length_take, hl, hm, List.drop_zero] at g1 g2 g3 ⊢
        all_goals try omega
        · have h1 := decT_sz b (l.getD 1 zeroX)
          have h2 : szE ((decEs b l).drop 2) + (l.getD 1 zeroX).sz ≤ szX l := by
            match l with
            | [] => simp [decEs, szE, szX, zeroX_sz]
            | [x] => simp [decEs, szE, szX, zeroX_sz]
            | x :: y :: l =>
              have := decEs_sz b l
              simp only [decEs, List.drop_succ_cons, List.drop_zero, szX]
              show _ + y.sz ≤ _
              omega
          omega
        · match l with
          | [] => simp [szE, szM, decEs, decMs]
          | [x] => simp [szE, szM, decEs, decMs]
          | x :: y :: l =>
            have h1 := decE_sz b y
            have h2 := decMs_sz b l
            simp only [decEs, decMs, List.drop_succ_cons, List.drop_zero, List.take_succ_cons, List.take_zero, szE, szX, List.length_cons]
            omega
    · split
      · rw [ex_sz_eq]; simp [MExpr.fTrait, MExpr.fName, MExpr.fType, MExpr.fArgs, MExpr.fArms, tyZ_sz, szE, szM]
      · repeat' split
        all_goals rw [ex_sz_eq]; simp [MExpr.fTrait, MExpr.fName, MExpr.fType, MExpr.fArgs, MExpr.fArms, tyZ_sz, szE, szM]
theorem decEs_sz (b : Bool) : ∀ l : List MSExpr, szE (decEs b l) ≤ szX l
  | [] => by simp [decEs, szE]
  | x :: xs => by
    have h1 := decE_sz b x
    have h2 := decEs_sz b xs
    rw [decEs, szE, szX]; omega
theorem decEs_cut (b : Bool) : ∀ (l : List MSExpr) (i : Nat), szE ((decEs b l).drop (i + 1)) + ((if 1 ≤ i then (atA l (i - 1)).length else 0) + (atA l i).length) ≤ szX l
  | [], i => by simp [decEs, szE, atA_no]
  | x :: xs, 0 => by
    have h2 := decEs_sz b xs
    rw [decEs, List.drop_succ_cons, List.drop_zero, szX, show atA (x :: xs) 0 = x.fAtom from rfl, sx_sz]; simp; omega
  | x :: xs, i + 1 => by
    have h2 := decEs_cut b xs i
    rw [decEs, List.drop_succ_cons, szX, show atA (x :: xs) (i + 1) = atA xs i from rfl]
    cases i with
    | zero => rw [show atA (x :: xs) (0 + 1 - 1) = x.fAtom from rfl, sx_sz]; simp at h2 ⊢; omega
    | succ i => rw [show atA (x :: xs) (i + 1 + 1 - 1) = atA xs i from rfl]; simp at h2 ⊢; omega
theorem decM_sz (b : Bool) : ∀ x : MSExpr, (decM b x).sz ≤ x.sz
  | .mk a l => by
    rw [sx_sz, szX_rows]; simp only [MSExpr.fAtom, MSExpr.fList]
    rw [decM]
    split
    · rw [arm_sz_eq]; simp [MArm.fConstructor, MArm.fVars, MArm.fBody, zeroEx_sz]
    · rename_i h
      have hn := names_last l
      have hb := decEs_last b l
      rw [arm_sz_eq]; simp only [MArm.fConstructor, MArm.fVars, MArm.fBody]
      obtain ⟨x, m, y, rfl⟩ : ∃ x m y, l = x :: (m ++ [y]) := by
        cases l with
        | nil => simp at h
        | cons x l =>
          have hl : l ≠ [] := fun e => by rw [e] at h; simp at h
          exact ⟨x, l.dropLast, l.getLast hl, by rw [List.dropLast_concat_getLast]⟩
      rw [szX_cut] at *
      rw [show atA (x :: (m ++ [y])) 0 = x.fAtom from rfl, sx_sz x]
      simp only [List.drop_succ_cons, List.drop_zero, List.dropLast_concat, List.length_cons, List.length_append, List.length_nil] at hn ⊢
      have hy : ((x :: (m ++ [y])).getLastD zeroX) = y := by rw [← List.cons_append, List.getLastD_eq_getLast?, List.getLast?_append]; simp
      rw [hy] at hb
      omega
theorem decMs_sz (b : Bool) : ∀ l : List MSExpr, szM (decMs b l) ≤ szX l
  | [] => by simp [decMs, szM]
  | x :: xs => by
    have h1 := decM_sz b x
    have h2 := decMs_sz b xs
    rw [decMs, szM, szX]; omega
theorem decEs_last (b : Bool) : ∀ l : List MSExpr, ((decEs b l).getLastD zeroEx).sz ≤ (l.getLastD zeroX).sz
  | [] => by simp [decEs, zeroEx_sz]
  | [x] => by simpa [decEs] using decE_sz b x
  | x :: y :: l => by
    have := decEs_last b (y :: l)
    simpa [decEs] using this
end
theorem vExpr_ok {x : MExpr} (h : validExpr x = true) : exprOk x = true := by rw [validExpr, Bool.and_eq_true] at h; exact h.2
noncomputable def okE (x : MSExpr) : Bool := dec (validX x = true ∧ validExpr (decE true x) = true ∧ sxE (decE true x) = x)
theorem okE_spec (x : MSExpr) : okE x = dec (validX x = true ∧ validExpr (decE false x) = true ∧ sxE (decE false x) = x) := by
  have key : ∀ b c : Bool, validExpr (decE b x) = true → sxE (decE b x) = x → decE c x = decE b x := fun b c h1 h2 => by
    conv => lhs; rw [← h2]
    exact decE_sx c _ (vExpr_ok h1)
  refine dec_congr ⟨fun ⟨h0, h1, h2⟩ => ?_, fun ⟨h0, h1, h2⟩ => ?_⟩
  · rw [key true false h1 h2]; exact ⟨h0, h1, h2⟩
  · rw [key false true h1 h2]; exact ⟨h0, h1, h2⟩
theorem okE_same {x : MSExpr} (h : okE x = true) : decE false x = decE true x := by
  have h1 := of_dec h
  conv => lhs; rw [← h1.2.2]
  exact decE_sx false _ (vExpr_ok h1.2.1)
noncomputable def rdE (x : MSExpr) : MExpr := if okE x = true then decE true x else zeroEx
theorem rdE_sz {x : MSExpr} (h : x.sz ≤ 1048576) : (rdE x).sz ≤ 1048576 := by
  have := decE_sz true x
  unfold rdE
  split
  · omega
  · rw [zeroEx_sz]; omega
end Go.Ab

namespace Go.Proofs
open Go.Shelf
def Tryz.laysM171_ren : Go.Shelf.Ren := ⟨fun | 171 => 287 | 243 => 331 | 246 => 350 | 283 => 369 | 284 => 370 | 285 => 371 | 286 => 372 | 129 => 382 | 317 => 381 | 318 => 383 | 319 => 384 | 320 => 385 | 337 => 391 | 338 => 392 | n => n, fun | 3 => 3 | 9 => 9 | 2 => 2 | 4 => 4 | 171 => 358 | 0 => 0 | 53 => 359 | 37 => 227 | 5 => 5 | 173 => 362 | 212 => 376 | 51 => 377 | 20 => 20 | 213 => 378 | 46 => 369 | 232 => 388 | 233 => 389 | n => n, fun | 17 => 2 | 18 => 4 | 19 => 5 | n => n⟩
theorem Tryz.laysM171 : Go.Proofs.LaysM.n171 Tryz.prog Tryz.laysM171_ren := {
  mixed := by kernel_rfl
  f129 := Tryz.func382.trans (congrArg some (by kernel_rfl))
  f171 := Tryz.func287.trans (congrArg some (by kernel_rfl))
  f243 := Tryz.func331.trans (congrArg some (by kernel_rfl))
  f246 := Tryz.func350.trans (congrArg some (by kernel_rfl))
  f283 := Tryz.func369.trans (congrArg some (by kernel_rfl))
  f284 := Tryz.func370.trans (congrArg some (by kernel_rfl))
  f285 := Tryz.func371.trans (congrArg some (by kernel_rfl))
  f286 := Tryz.func372.trans (congrArg some (by kernel_rfl))
  f317 := Tryz.func381.trans (congrArg some (by kernel_rfl))
  f318 := Tryz.func383.trans (congrArg some (by kernel_rfl))
  f319 := Tryz.func384.trans (congrArg some (by kernel_rfl))
  f320 := Tryz.func385.trans (congrArg some (by kernel_rfl))
  f337 := Tryz.func391.trans (congrArg some (by kernel_rfl))
  f338 := Tryz.func392.trans (congrArg some (by kernel_rfl))
  t0 := Tryz.underlying0
  a0 := Tryz.isAgg0
  z0 := Tryz.sizeOf0
  v0 := Tryz.zeroValue0
  t2 := Tryz.underlying2
  a2 := Tryz.isAgg2
  z2 := Tryz.sizeOf2
  v2 := Tryz.zeroValue2
  t3 := Tryz.underlying3
  a3 := Tryz.isAgg3
  z3 := Tryz.sizeOf3
  v3 := Tryz.zeroValue3
  t4 := Tryz.underlying4
  a4 := Tryz.isAgg4
  z4 := Tryz.sizeOf4
  v4 := Tryz.zeroValue4
  t5 := Tryz.underlying5
  a5 := Tryz.isAgg5
  z5 := Tryz.sizeOf5
  v5 := Tryz.zeroValue5
  t9 := Tryz.underlying9
  a9 := Tryz.isAgg9
  z9 := Tryz.sizeOf9
  v9 := Tryz.zeroValue9
  t20 := Tryz.underlying20
  a20 := Tryz.isAgg20
  z20 := Tryz.sizeOf20
  v20 := Tryz.zeroValue20
  t37 := Tryz.underlying227
  a37 := Tryz.isAgg227
  z37 := Tryz.sizeOf227
  v37 := Tryz.zeroValue227
  t46 := Tryz.underlying369
  a46 := Tryz.isAgg369
  z46 := Tryz.sizeOf369
  v46 := Tryz.zeroValue369
  t51 := Tryz.underlying377
  a51 := Tryz.isAgg377
  z51 := Tryz.sizeOf377
  v51 := Tryz.zeroValue377
  t53 := Tryz.underlying359
  a53 := Tryz.isAgg359
  z53 := Tryz.sizeOf359
  v53 := Tryz.zeroValue359
  t171 := Tryz.underlying358
  a171 := Tryz.isAgg358
  z171 := Tryz.sizeOf358
  v171 := Tryz.zeroValue358
  t173 := Tryz.underlying362
  a173 := Tryz.isAgg362
  z173 := Tryz.sizeOf362
  v173 := Tryz.zeroValue362
  t212 := Tryz.underlying376
  a212 := Tryz.isAgg376
  z212 := Tryz.sizeOf376
  v212 := Tryz.zeroValue376
  t213 := Tryz.underlying378
  a213 := Tryz.isAgg378
  z213 := Tryz.sizeOf378
  t232 := Tryz.underlying388
  a232 := Tryz.isAgg388
  z232 := Tryz.sizeOf388
  v232 := Tryz.zeroValue388
  t233 := Tryz.underlying389
  a233 := Tryz.isAgg389
  z233 := Tryz.sizeOf389
  v233 := Tryz.zeroValue389
  g17 := by kernel_rfl
  g18 := by kernel_rfl
  g19 := by kernel_rfl
  i0 := by kernel_rfl
  i2 := by kernel_rfl
  i3 := by kernel_rfl
  i4 := by kernel_rfl
  i5 := by kernel_rfl
  i9 := by kernel_rfl
  i20 := by kernel_rfl
  i37 := by kernel_rfl
  i46 := by kernel_rfl
  i51 := by kernel_rfl
  i53 := by kernel_rfl
  i171 := by kernel_rfl
  i173 := by kernel_rfl
  i212 := by kernel_rfl
  i232 := by kernel_rfl
  i233 := by kernel_rfl
  m17 := by kernel_rfl
  m18 := by kernel_rfl
  m19 := by kernel_rfl }
open Go.RowKit Go.Sort Go.Lib in
theorem Tryz.strconv_Itoa (n : Int) (h0 : -9223372036854775808 ≤ n) (h1 : n ≤ 9223372036854775807) (w : World) (htab : Lib.TabIs Tryz.prog w "internal/strconv.uint64pow10" .u64 Lib.pow10Tab) :
    Calls Tryz.prog 287 #[.int .i64 n] w fun e w' => e = .returned (.string ⟨(Lib.itoa n).toArray⟩) ∧ ∃ k os, w' = grow (w.drewN k) os := Any.strconv_Itoa Tryz.laysM171 n h0 h1 w htab
end Go.Proofs

namespace Go.Ab
theorem grow_below {w : World} {σ : Nat → Nat} {k : Nat} {os : Array Go.Obj} (hl : ∀ b, b < w.heap.size ∨ σ b = 0) : Grow w σ (Go.Sort.grow (w.drewN k) os) σ := by
  have hh : (Go.Sort.grow (w.drewN k) os).heap = w.heap ++ os := rfl
  refine ⟨by rw [hh]; simp, rfl, rfl, fun b hb => ⟨by rw [hh, Array.getElem?_append_left hb], rfl⟩, fun b => ?_⟩
  rcases hl b with h | h
  · left; rw [hh]; simp; omega
  · exact .inr h
theorem one_val {x : V} {vs : List Value} {w : World} {σ : Nat → Nat} {S : Store} {β : Hs} (h : RepVs w σ S β [x] vs) : ∃ v, vs = [v] ∧ RepV w σ S β x v := by
  obtain ⟨hl, h⟩ := h
  obtain ⟨v, e, hr⟩ := h 0 x rfl
  match vs, hl, e with
  | [y], _, e => simp at e; subst e; exact ⟨_, rfl, hr⟩
end Go.Ab
namespace Go.Proofs.YtlmhknhlmicmeaaGreatDoor
open Go Go.Ab
theorem pow10_tab {w : World} {σ : Nat → Nat} (h : Glob w σ) : Lib.TabIs Tryz.prog w "internal/strconv.uint64pow10" .u64 Lib.pow10Tab := by
  obtain ⟨c, t, fz, q1, q2, q3⟩ := h _ _ (show _ ∈ laidTab from List.mem_cons_self ..)
  have hn : Tryz.prog.globalNamed "internal/strconv.uint64pow10" = some 2 := by kernel_rfl
  unfold Lib.TabIs World.var?
  rw [hn]
  simp only [Option.bind_some, q1, Option.some.injEq]
  apply Array.ext'
  rw [q2]
  simp [Lib.pow10Tab]
theorem itoa_ok (n : Int) (h0 : -9223372036854775808 ≤ n) (h1 : n ≤ 9223372036854775807) : PCall Tryz.prog 287 [.c (.d (.i .i64 n))] (.c (.d (.s (Lib.itoa n)))) := fun S => by
  refine ⟨⟨_, Tryz.func287, by kernel_rfl, by kernel_rfl⟩, fun w σ β vs hS hv => ?_⟩
  obtain ⟨v, rfl, hr, _⟩ := one_val hv
  have hv0 : v = .int .i64 n := by cases hr; rfl
  subst hv0
  refine (Tryz.strconv_Itoa n h0 h1 w (pow10_tab hS.glob)).mono fun e w' ⟨he, k, os, hw⟩ => ?_
  subst hw
  have hg : Grow w σ (Go.Sort.grow (w.drewN k) os) σ := grow_below hS.live
  exact ⟨_, .c (.d (.s (Lib.itoa n))), S, σ, β, he, hS.grow hg, Keep.refl _ _, Step.of_grow hg, ⟨.s _, rfl⟩, rfl, rfl⟩
theorem implFormatInt_ok (n : Int) (h0 : -9223372036854775808 ≤ n) (h1 : n ≤ 9223372036854775807) : PCall Tryz.prog 212 [.c (.d (.i .i64 n))] (.c (.d (.s (Lib.itoa n)))) := fun S => by
  refine acall_cw (rs := [.tmp 2]) Tryz.checked.mixed Tryz.func212 Tryz.ntmps212 rfl rfl rfl rfl rfl ?_
  simp -implicitDefEqProofs (disch := omega) only [go_sem]
  refine call_w (itoa_ok n h0 h1) ?_
  simp -implicitDefEqProofs (disch := omega) only [go_sem] <;> (repeat (with_reducible refine And.intro ?_ ?_; focus first | omega | rfl | assumption | exact ⟨_, rfl, rfl⟩ | (simp; omega) | (simp; done)))
end Go.Proofs.YtlmhknhlmicmeaaGreatDoor

namespace Go.Ab
def digs (m : Nat) : List UInt8 := if m = 0 then [] else Lib.decDigits m
theorem digs_step {m : Nat} (h : m ≠ 0) : digs (m / 10) ++ [UInt8.ofNat (48 + m % 10)] = digs m := by
  unfold digs
  rw [if_neg h]
  conv => rhs; rw [Lib.decDigits]
  by_cases h10 : m < 10
  · rw [dif_pos h10, if_pos (by omega), List.nil_append, Nat.mod_eq_of_lt h10]
  · rw [dif_neg h10, if_neg (by omega)]
theorem sg_facts (n : Int) (h0 : -9223372036854775808 ≤ n) (h1 : n ≤ 9223372036854775807) : ∃ sg : Nat → Int, sg 0 = 0 ∧ sg n.natAbs = n ∧ (∀ m, m ≠ 0 → sg m ≠ 0) ∧ (∀ m, (sg m).tmod 10 = -((m % 10 : Nat) : Int) ∨ (sg m).tmod 10 = ((m % 10 : Nat) : Int)) ∧
    (∀ m, (sg m).tdiv 10 = sg (m / 10)) ∧ ∀ m, m ≤ n.natAbs → -9223372036854775808 ≤ sg m ∧ sg m ≤ 9223372036854775807 := by
  by_cases h : n < 0
  · refine ⟨fun m => -(m : Int), rfl, by simp only; omega, fun m hm => by simp only; omega, fun m => .inl ?_, fun m => ?_, fun m hm => by simp only; omega⟩
    · simp only; rw [Int.neg_tmod]; congr 1
    · simp only; rw [Int.neg_tdiv]; congr 1
  · refine ⟨fun m => (m : Int), rfl, by simp only; omega, fun m hm => by simp only; omega, fun m => .inr rfl, fun m => rfl, fun m hm => by simp only; omega⟩
theorem itoa_zero : Lib.itoa 0 = [48] := by
  unfold Lib.itoa
  rw [if_neg (by decide), Lib.decDigits, dif_pos (by decide)]; rfl
theorem dec_len_le (a : Nat) (h : a ≤ 9223372036854775808) : (Lib.decDigits a).length ≤ 19 := dec_len 18 a (by omega)
end Go.Ab
namespace Go.Proofs.YtlmhknhlmicmeaaGreatDoor
open Go Go.Ab
theorem specFormatInt_ok (n : Int) (h0 : -9223372036854775808 ≤ n) (h1 : n ≤ 9223372036854775807) : PCall Tryz.prog 205 [.c (.d (.i .i64 n))] (.c (.d (.s (Lib.itoa n)))) := fun S => by
  obtain ⟨sg, g0, gn, gne, gmod, gdiv, grng⟩ := sg_facts n h0 h1
  refine acall_cw (rs := [.tmp 2]) Tryz.checked.mixed Tryz.func205 Tryz.ntmps205 rfl rfl rfl rfl rfl ?_
  simp -implicitDefEqProofs (disch := omega) only [go_sem]
  with_reducible refine split2 (fun hb => ?_) (fun hb => ?_) <;> have h := hb <;> (try simp only [wf_preprocess] at h) <;> simp -implicitDefEqProofs (disch := omega) only [go_sem, hb] <;> (repeat (with_reducible refine And.intro ?_ ?_; focus first | omega | rfl | assumption | exact ⟨_, rfl, rfl⟩ | (simp; omega) | (simp; done)))
  · rw [h, itoa_zero]
  have hn0 := h
  have hd0 : digs n.natAbs = Lib.decDigits n.natAbs := by unfold digs; rw [if_neg (by omega)]
  have hln := dec_len_le n.natAbs (by omega)
  refine loop_at (ι := Nat × List UInt8) Tryz.checked.mixed rfl [0, 3, 4] (fun y => [.c (.d (.i .i64 (sg y.1))), .c (.d (.b (decide (n < 0)))), .c (.d (.s y.2))]) (fun _ => [] :: S)
    (fun y => y.1 ≤ n.natAbs ∧ digs y.1 ++ y.2 = digs n.natAbs ∧ y.2.length ≤ 19) (fun y => y.1) (n.natAbs, []) (by rw [gn]; rfl) rfl ⟨Nat.le_refl _, List.append_nil _, by simp⟩ ?_
  rintro ⟨m, out⟩ ⟨p1, p2, p3⟩
  simp only at p1 p2 p3
  have hr := grng m p1
  have hm := gmod m
  have hq := gdiv m
  generalize hx : sg m = x at *
  generalize hy : x.tmod 10 = y at *
  have hlo : out.length ≤ 19 := p3
  simp -implicitDefEqProofs (disch := omega) only [go_sem]
  with_reducible refine split2 (fun hb => ?_) (fun hb => ?_) <;> have h := hb <;> (try simp only [wf_preprocess] at h) <;> simp -implicitDefEqProofs (disch := omega) only [go_sem, hb] <;> (repeat (with_reducible refine And.intro ?_ ?_; focus first | omega | rfl | assumption | exact ⟨_, rfl, rfl⟩ | (simp; omega) | (simp; done)))
  · have hm0 : m ≠ 0 := fun e => by rw [e, g0] at hx; omega
    have hst := digs_step hm0
    have hr2 := grng (m / 10) (by omega)
    have hln2 : (digs (m / 10)).length + 1 + out.length ≤ 19 := by
      have := congrArg List.length p2
      rw [← hst, hd0] at this
      simp only [List.length_append, List.length_cons, List.length_nil] at this
      omega
    simp -implicitDefEqProofs (disch := omega) only [go_sem, hy]
    with_reducible refine split2 (fun hb => ?_) (fun hb => ?_) <;> have h := hb <;> (try simp only [wf_preprocess] at h) <;> simp -implicitDefEqProofs (disch := omega) only [go_sem, hb] <;> (repeat (with_reducible refine And.intro ?_ ?_; focus first | omega | rfl | assumption | exact ⟨_, rfl, rfl⟩ | (simp; omega) | (simp; done)))
    · have e1 : (0 : Int) - y = ((m % 10 : Nat) : Int) := by omega
      have hc : UInt8.ofNat (IntKind.u8.wrap (48 + (0 - y))).toNat = UInt8.ofNat (48 + m % 10) := by
        rw [wrap_u8 _ (by omega), e1]
        congr 1
      simp -implicitDefEqProofs (disch := omega) only [go_sem, hy, hq]
      (repeat (with_reducible refine And.intro ?_ ?_; focus first | omega | rfl | assumption | exact ⟨_, rfl, rfl⟩ | (simp; omega) | (simp; done)))
      refine inv_at (m / 10, UInt8.ofNat (48 + m % 10) :: out) (by simp only; omega) (by rw [← hc]; rfl) rfl ⟨by simp only; omega, ?_, by simp only [List.length_cons]; omega⟩
      simp only
      rw [← p2, ← hst, List.append_assoc]; rfl
    · have e1 : y = ((m % 10 : Nat) : Int) := by omega
      have hc : UInt8.ofNat (IntKind.u8.wrap (48 + y)).toNat = UInt8.ofNat (48 + m % 10) := by
        rw [wrap_u8 _ (by omega), e1]
        congr 1
      simp -implicitDefEqProofs (disch := omega) only [go_sem, hy, hq]
      (repeat (with_reducible refine And.intro ?_ ?_; focus first | omega | rfl | assumption | exact ⟨_, rfl, rfl⟩ | (simp; omega) | (simp; done)))
      refine inv_at (m / 10, UInt8.ofNat (48 + m % 10) :: out) (by simp only; omega) (by rw [← hc]; rfl) rfl ⟨by simp only; omega, ?_, by simp only [List.length_cons]; omega⟩
      simp only
      rw [← p2, ← hst, List.append_assoc]; rfl
  · have hm0 : m = 0 := by
      rcases Nat.eq_zero_or_pos m with e | e
      · exact e
      · exact absurd (by rw [hx]; omega) (gne m (by omega))
    subst hm0
    have hout : out = Lib.decDigits n.natAbs := by rw [← hd0, ← p2]; rfl
    with_reducible refine split2 (fun hb => ?_) (fun hb => ?_) <;> have h := hb <;> (try simp only [wf_preprocess] at h) <;> simp -implicitDefEqProofs (disch := omega) only [go_sem, hb] <;> (repeat (with_reducible refine And.intro ?_ ?_; focus first | omega | rfl | assumption | exact ⟨_, rfl, rfl⟩ | (simp; omega) | (simp; done)))
    · (repeat (with_reducible refine And.intro ?_ ?_; focus first | omega | rfl | assumption | exact ⟨_, rfl, rfl⟩ | (simp; omega) | (simp; done)))
      rw [hout]
      unfold Lib.itoa
      rw [if_pos h]
    · rw [hout]
      unfold Lib.itoa
      rw [if_neg h, show n.toNat = n.natAbs by omega]
end Go.Proofs.YtlmhknhlmicmeaaGreatDoor

namespace Go.Ab
def negS (s : List UInt8) : Prop := s.head? = some 45
instance (s : List UInt8) : Decidable (negS s) := inferInstanceAs (Decidable (_ = _))
def bodyS (s : List UInt8) : List UInt8 := if negS s then s.tail else s
theorem decFrom_digits_all : ∀ (l : List UInt8) (acc v : Nat), Lib.decFrom acc l = some v → ∀ b ∈ l, 48 ≤ b.toNat ∧ b.toNat ≤ 57
  | [], _, _, _, b, hb => by cases hb
  | a :: l, acc, v, h, b, hb => by
    rw [Lib.decFrom] at h
    cases hd : Lib.digitVal a with
    | none => rw [hd] at h; cases h
    | some d =>
      rw [hd] at h
      rcases List.mem_cons.1 hb with rfl | hb
      · unfold Lib.digitVal at hd
        split at hd
        · assumption
        · cases hd
      · exact decFrom_digits_all l _ v h b hb
theorem digitVal_at {b : UInt8} (h : 48 ≤ b.toNat ∧ b.toNat ≤ 57) : Lib.digitVal b = some (b.toNat - 48) := if_pos h
theorem decFrom_take {t : List UInt8} {i acc : Nat} (hi : i < t.length) (h : Lib.decFrom 0 (t.take i) = some acc) (hd : 48 ≤ t[i].toNat ∧ t[i].toNat ≤ 57) : Lib.decFrom 0 (t.take (i + 1)) = some (acc * 10 + (t[i].toNat - 48)) := by
  rw [List.take_succ_eq_append_getElem hi, decFrom_snoc, h, digitVal_at hd]; rfl
theorem readI_key {s : List UInt8} {m : Int} (h : readI s = some m) : (negS s ↔ m < 0) ∧ bodyS s = Lib.decDigits m.natAbs ∧ 1 ≤ (bodyS s).length ∧ (bodyS s).length ≤ 12 := by
  obtain ⟨hr, he⟩ := readI_some h
  have hl : (Lib.decDigits m.natAbs).length ≤ 12 := dec_len 11 _ (by omega)
  obtain ⟨b, r, e, b1, b2⟩ := decDigits_head m.natAbs
  have hl1 : 1 ≤ (Lib.decDigits m.natAbs).length := by rw [e]; simp
  unfold Lib.itoa at he
  by_cases hn : m < 0
  · rw [if_pos hn] at he
    have hs : negS s := by rw [← he]; rfl
    have hb : bodyS s = Lib.decDigits m.natAbs := by unfold bodyS; rw [if_pos hs, ← he]; rfl
    exact ⟨⟨fun _ => hn, fun _ => hs⟩, hb, by rw [hb]; exact ⟨hl1, hl⟩⟩
  · rw [if_neg hn, show m.toNat = m.natAbs by omega] at he
    have hs : ¬ negS s := fun x => by
      rw [← he, e] at x
      unfold negS at x
      simp only [List.head?_cons, Option.some.injEq] at x
      rw [x] at b1; revert b1; decide
    have hb : bodyS s = Lib.decDigits m.natAbs := by unfold bodyS; rw [if_neg hs, ← he]
    exact ⟨⟨fun x => (hs x).elim, fun x => (hn x).elim⟩, hb, by rw [hb]; exact ⟨hl1, hl⟩⟩
theorem readI_short {s : List UInt8} (h : (bodyS s).length < 1 ∨ 12 < (bodyS s).length) : readI s = none := by
  cases hr : readI s with
  | none => rfl
  | some m => have := (readI_key hr).2.2; omega
theorem readI_bad {s : List UInt8} {i : Nat} (hi : i < (bodyS s).length) (h : ¬ (48 ≤ (bodyS s)[i].toNat ∧ (bodyS s)[i].toNat ≤ 57)) : readI s = none := by
  cases hr : readI s with
  | none => rfl
  | some m =>
    have hk := (readI_key hr).2.1
    have hd := decFrom_digits m.natAbs
    rw [← hk] at hd
    exact absurd (decFrom_digits_all _ _ _ hd _ (List.getElem_mem hi)) h
theorem readI_val {s : List UInt8} {v : Nat} (hv : Lib.decFrom 0 (bodyS s) = some v) (hb : v ≤ 999999999999) : readI s = if Lib.itoa (if negS s then -(v : Int) else v) = s then some (if negS s then -(v : Int) else v) else none := by
  obtain ⟨z, hz⟩ : ∃ z, z = (if negS s then -(v : Int) else v) := ⟨_, rfl⟩
  have hzb : -999999999999 ≤ z ∧ z ≤ 999999999999 := by rw [hz]; split <;> omega
  rw [← hz]
  by_cases h : Lib.itoa z = s
  · rw [if_pos h]
    conv => lhs; rw [← h]
    exact readI_itoa hzb
  · rw [if_neg h]
    cases hr : readI s with
    | none => rfl
    | some m =>
      have hk := readI_key hr
      have hd := decFrom_digits m.natAbs
      rw [← hk.2.1, hv] at hd
      have hm : v = m.natAbs := by simpa using hd
      have : z = m := by
        rw [hz]
        by_cases hn : negS s
        · have := hk.1.1 hn
          rw [if_pos hn]; omega
        · rw [if_neg hn]
          have : ¬ m < 0 := fun x => hn (hk.1.2 x)
          omega
      rw [this] at h
      exact absurd (readI_some hr).2 h
end Go.Ab
namespace Go.Proofs.YtlmhknhlmicmeaaGreatDoor
open Go Go.Ab
theorem specRead_ok (s : List UInt8) (hs : s.length ≤ 1073741824) : PCall Tryz.prog 277 [.c (.d (.s s)), .c (.d (.i .i64 12))] (.tup [(false, [.d (.i .i64 ((readI s).getD 0))]), (false, [.d (.b (readI s).isSome)])]) := fun S => by
  have d0 : readI s = none → V.tup [(false, [.d (.i .i64 0)]), (false, [.d (.b false)])] = .tup [(false, [.d (.i .i64 ((readI s).getD 0))]), (false, [.d (.b (readI s).isSome)])] := fun e => by rw [e]; rfl
  refine acall_cw (rs := [.tmp 4, .tmp 5]) Tryz.checked.mixed Tryz.func277 Tryz.ntmps277 rfl rfl rfl rfl rfl ?_
  simp -implicitDefEqProofs (disch := omega) only [go_sem]
  with_reducible refine split2 (fun hb => ?_) (fun hb => ?_) <;> have h := hb <;> (try simp only [wf_preprocess] at h) <;> simp -implicitDefEqProofs (disch := omega) only [go_sem, hb] <;> (repeat (with_reducible refine And.intro ?_ ?_; focus first | omega | rfl | assumption | exact ⟨_, rfl, rfl⟩ | (simp; omega) | (simp; done)))
  · have hpos : 0 < s.length := by omega
    have h0 : (s.getD 0 0).toNat = 45 ↔ negS s := by
      cases s with
      | nil => simp at hpos
      | cons b s =>
        unfold negS
        simp only [List.getD_cons_zero, List.head?_cons, Option.some.injEq]
        constructor
        · intro e; exact UInt8.toNat.inj e
        · intro e; rw [e]; rfl
    (repeat (with_reducible refine And.intro ?_ ?_; focus first | omega | rfl | assumption | exact ⟨_, rfl, rfl⟩ | (simp; omega) | (simp; done)))
    with_reducible refine split2 (fun hb => ?_) (fun hb => ?_) <;> have h := hb <;> (try simp only [wf_preprocess] at h) <;> simp -implicitDefEqProofs (disch := omega) only [go_sem, hb] <;> (repeat (with_reducible refine And.intro ?_ ?_; focus first | omega | rfl | assumption | exact ⟨_, rfl, rfl⟩ | (simp; omega) | (simp; done)))
    · have hn : negS s := h0.1 (by omega)
      have hb : bodyS s = (s.take s.length).drop 1 := by unfold bodyS; rw [if_pos hn, List.take_length, List.drop_one]
      (repeat (with_reducible refine And.intro ?_ ?_; focus first | omega | rfl | assumption | exact ⟨_, rfl, rfl⟩ | (simp; omega) | (simp; done)))
      rw [← hb]
      have hbl : (bodyS s).length ≤ s.length := by rw [hb]; simp
      with_reducible refine split2 (fun hb => ?_) (fun hb => ?_) <;> have h := hb <;> (try simp only [wf_preprocess] at h) <;> simp -implicitDefEqProofs (disch := omega) only [go_sem, hb] <;> (repeat (with_reducible refine And.intro ?_ ?_; focus first | omega | rfl | assumption | exact ⟨_, rfl, rfl⟩ | (simp; omega) | (simp; done)))
      · exact d0 (readI_short (by omega))
      with_reducible refine split2 (fun hb => ?_) (fun hb => ?_) <;> have h := hb <;> (try simp only [wf_preprocess] at h) <;> simp -implicitDefEqProofs (disch := omega) only [go_sem, hb] <;> (repeat (with_reducible refine And.intro ?_ ?_; focus first | omega | rfl | assumption | exact ⟨_, rfl, rfl⟩ | (simp; omega) | (simp; done)))
      · exact d0 (readI_short (by omega))
      have hl1 : 1 ≤ (bodyS s).length := by omega
      have hl12 : (bodyS s).length ≤ 12 := by omega
      refine loop_at (ι := Nat × Nat) Tryz.checked.mixed rfl [0, 6, 7, 8, 9] (fun y => [.c (.d (.s s)), .c (.d (.b true)), .c (.d (.s (bodyS s))), .c (.d (.i .i64 y.2)), .c (.d (.i .i64 y.1))]) (fun _ => [] :: S)
        (fun y => y.1 ≤ (bodyS s).length ∧ Lib.decFrom 0 ((bodyS s).take y.1) = some y.2 ∧ y.2 < 10 ^ y.1) (fun y => (bodyS s).length - y.1) (0, 0) rfl rfl ⟨Nat.zero_le _, rfl, by decide⟩ ?_
      rintro ⟨i, acc⟩ ⟨p1, p2, p3⟩
      simp only at p1 p2 p3
      have p4 : 10 ^ i ≤ 10 ^ 12 := Nat.pow_le_pow_right (by decide) (by omega)
      simp -implicitDefEqProofs (disch := omega) only [go_sem]
      with_reducible refine split2 (fun hb => ?_) (fun hb => ?_) <;> have h := hb <;> (try simp only [wf_preprocess] at h) <;> simp -implicitDefEqProofs (disch := omega) only [go_sem, hb] <;> (repeat (with_reducible refine And.intro ?_ ?_; focus first | omega | rfl | assumption | exact ⟨_, rfl, rfl⟩ | (simp; omega) | (simp; done)))
      · have hi : i < (bodyS s).length := by omega
        have e : (bodyS s).getD i 0 = (bodyS s)[i] := by simp [List.getD, hi]
        have hbb := (bodyS s)[i].toNat_lt
        (repeat (with_reducible refine And.intro ?_ ?_; focus first | omega | rfl | assumption | exact ⟨_, rfl, rfl⟩ | (simp; omega) | (simp; done)))
        simp only [e]
        with_reducible refine split2 (fun hb => ?_) (fun hb => ?_) <;> have h := hb <;> (try simp only [wf_preprocess] at h) <;> simp -implicitDefEqProofs (disch := omega) only [go_sem, hb] <;> (repeat (with_reducible refine And.intro ?_ ?_; focus first | omega | rfl | assumption | exact ⟨_, rfl, rfl⟩ | (simp; omega) | (simp; done)))
        · exact d0 (readI_bad hi (by omega))
        (repeat (with_reducible refine And.intro ?_ ?_; focus first | omega | rfl | assumption | exact ⟨_, rfl, rfl⟩ | (simp; omega) | (simp; done)))
        simp only [e]
        with_reducible refine split2 (fun hb => ?_) (fun hb => ?_) <;> have h := hb <;> (try simp only [wf_preprocess] at h) <;> simp -implicitDefEqProofs (disch := omega) only [go_sem, hb] <;> (repeat (with_reducible refine And.intro ?_ ?_; focus first | omega | rfl | assumption | exact ⟨_, rfl, rfl⟩ | (simp; omega) | (simp; done)))
        · exact d0 (readI_bad hi (by omega))
        have hdg : 48 ≤ (bodyS s)[i].toNat ∧ (bodyS s)[i].toNat ≤ 57 := by omega
        have ht := decFrom_take hi p2 hdg
        have e2 : (10 : Int) * acc + (((bodyS s)[i].toNat : Int) - 48) = ((acc * 10 + ((bodyS s)[i].toNat - 48) : Nat) : Int) := by omega
        (repeat (with_reducible refine And.intro ?_ ?_; focus first | omega | rfl | assumption | exact ⟨_, rfl, rfl⟩ | (simp; omega) | (simp; done)))
        simp -implicitDefEqProofs (disch := omega) only [go_sem, wrap_u8, e]
        rw [e2]
        exact inv_at (i + 1, acc * 10 + ((bodyS s)[i].toNat - 48)) (by simp only; omega) rfl rfl ⟨by simp only; omega, ht, by simp only [Nat.pow_succ]; omega⟩
      · have hi : i = (bodyS s).length := by omega
        have hv : Lib.decFrom 0 (bodyS s) = some acc := by rw [hi, List.take_length] at p2; exact p2
        have hrv := readI_val hv (by omega)
        rw [if_pos hn] at hrv
        rw [show (0 : Int) - acc = -(acc : Int) by omega]
        refine call_w (specFormatInt_ok (-(acc : Int)) (by omega) (by omega)) ?_
        simp -implicitDefEqProofs (disch := omega) only [go_sem]
        with_reducible refine split2 (fun hb => ?_) (fun hb => ?_) <;> have h := hb <;> (try simp only [wf_preprocess] at h) <;> simp -implicitDefEqProofs (disch := omega) only [go_sem, hb] <;> (repeat (with_reducible refine And.intro ?_ ?_; focus first | omega | rfl | assumption | exact ⟨_, rfl, rfl⟩ | (simp; omega) | (simp; done)))
        · exact d0 (hrv.trans (if_neg h))
        · rw [hrv.trans (if_pos h)]; rfl
    · have hn : ¬ negS s := fun x => h (by rw [h0.2 x]; rfl)
      have hbs : bodyS s = s := by unfold bodyS; rw [if_neg hn]
      have hbl : (bodyS s).length = s.length := by rw [hbs]
      with_reducible refine split2 (fun hb => ?_) (fun hb => ?_) <;> have h := hb <;> (try simp only [wf_preprocess] at h) <;> simp -implicitDefEqProofs (disch := omega) only [go_sem, hb] <;> (repeat (with_reducible refine And.intro ?_ ?_; focus first | omega | rfl | assumption | exact ⟨_, rfl, rfl⟩ | (simp; omega) | (simp; done)))
      · exact d0 (readI_short (by omega))
      with_reducible refine split2 (fun hb => ?_) (fun hb => ?_) <;> have h := hb <;> (try simp only [wf_preprocess] at h) <;> simp -implicitDefEqProofs (disch := omega) only [go_sem, hb] <;> (repeat (with_reducible refine And.intro ?_ ?_; focus first | omega | rfl | assumption | exact ⟨_, rfl, rfl⟩ | (simp; omega) | (simp; done)))
      · exact d0 (readI_short (by omega))
      have hl1 : 1 ≤ (bodyS s).length := by omega
      have hl12 : (bodyS s).length ≤ 12 := by omega
      refine loop_at (ι := Nat × Nat) Tryz.checked.mixed rfl [0, 6, 7, 8, 9] (fun y => [.c (.d (.s s)), .c (.d (.b false)), .c (.d (.s (bodyS s))), .c (.d (.i .i64 y.2)), .c (.d (.i .i64 y.1))]) (fun _ => [] :: S)
        (fun y => y.1 ≤ (bodyS s).length ∧ Lib.decFrom 0 ((bodyS s).take y.1) = some y.2 ∧ y.2 < 10 ^ y.1) (fun y => (bodyS s).length - y.1) (0, 0) (by rw [hbs]; rfl) rfl ⟨Nat.zero_le _, rfl, by decide⟩ ?_
      rintro ⟨i, acc⟩ ⟨p1, p2, p3⟩
      simp only at p1 p2 p3
      have p4 : 10 ^ i ≤ 10 ^ 12 := Nat.pow_le_pow_right (by decide) (by omega)
      simp -implicitDefEqProofs (disch := omega) only [go_sem]
      with_reducible refine split2 (fun hb => ?_) (fun hb => ?_) <;> have h := hb <;> (try simp only [wf_preprocess] at h) <;> simp -implicitDefEqProofs (disch := omega) only [go_sem, hb] <;> (repeat (with_reducible refine And.intro ?_ ?_; focus first | omega | rfl | assumption | exact ⟨_, rfl, rfl⟩ | (simp; omega) | (simp; done)))
      · have hi : i < (bodyS s).length := by omega
        have e : (bodyS s).getD i 0 = (bodyS s)[i] := by simp [List.getD, hi]
        have hbb := (bodyS s)[i].toNat_lt
        (repeat (with_reducible refine And.intro ?_ ?_; focus first | omega | rfl | assumption | exact ⟨_, rfl, rfl⟩ | (simp; omega) | (simp; done)))
        simp only [e]
        with_reducible refine split2 (fun hb => ?_) (fun hb => ?_) <;> have h := hb <;> (try simp only [wf_preprocess] at h) <;> simp -implicitDefEqProofs (disch := omega) only [go_sem, hb] <;> (repeat (with_reducible refine And.intro ?_ ?_; focus first | omega | rfl | assumption | exact ⟨_, rfl, rfl⟩ | (simp; omega) | (simp; done)))
        · exact d0 (readI_bad hi (by omega))
        (repeat (with_reducible refine And.intro ?_ ?_; focus first | omega | rfl | assumption | exact ⟨_, rfl, rfl⟩ | (simp; omega) | (simp; done)))
        simp only [e]
        with_reducible refine split2 (fun hb => ?_) (fun hb => ?_) <;> have h := hb <;> (try simp only [wf_preprocess] at h) <;> simp -implicitDefEqProofs (disch := omega) only [go_sem, hb] <;> (repeat (with_reducible refine And.intro ?_ ?_; focus first | omega | rfl | assumption | exact ⟨_, rfl, rfl⟩ | (simp; omega) | (simp; done)))
        · exact d0 (readI_bad hi (by omega))
        have hdg : 48 ≤ (bodyS s)[i].toNat ∧ (bodyS s)[i].toNat ≤ 57 := by omega
        have ht := decFrom_take hi p2 hdg
        have e2 : (10 : Int) * acc + (((bodyS s)[i].toNat : Int) - 48) = ((acc * 10 + ((bodyS s)[i].toNat - 48) : Nat) : Int) := by omega
        (repeat (with_reducible refine And.intro ?_ ?_; focus first | omega | rfl | assumption | exact ⟨_, rfl, rfl⟩ | (simp; omega) | (simp; done)))
        simp -implicitDefEqProofs (disch := omega) only [go_sem, wrap_u8, e]
        rw [e2]
        exact inv_at (i + 1, acc * 10 + ((bodyS s)[i].toNat - 48)) (by simp only; omega) rfl rfl ⟨by simp only; omega, ht, by simp only [Nat.pow_succ]; omega⟩
      · have hi : i = (bodyS s).length := by omega
        have hv : Lib.decFrom 0 (bodyS s) = some acc := by rw [hi, List.take_length] at p2; exact p2
        have hrv := readI_val hv (by omega)
        rw [if_neg hn] at hrv
        refine call_w (specFormatInt_ok ((acc : Int)) (by omega) (by omega)) ?_
        simp -implicitDefEqProofs (disch := omega) only [go_sem]
        with_reducible refine split2 (fun hb => ?_) (fun hb => ?_) <;> have h := hb <;> (try simp only [wf_preprocess] at h) <;> simp -implicitDefEqProofs (disch := omega) only [go_sem, hb] <;> (repeat (with_reducible refine And.intro ?_ ?_; focus first | omega | rfl | assumption | exact ⟨_, rfl, rfl⟩ | (simp; omega) | (simp; done)))
        · exact d0 (hrv.trans (if_neg h))
        · rw [hrv.trans (if_pos h)]; rfl
  · have hs0 : s = [] := List.eq_nil_of_length_eq_zero (by omega)
    have hb0 : (bodyS s).length = 0 := by rw [hs0]; rfl
    with_reducible refine split2 (fun hb => ?_) (fun hb => ?_) <;> have h := hb <;> (try simp only [wf_preprocess] at h) <;> simp -implicitDefEqProofs (disch := omega) only [go_sem, hb] <;> (repeat (with_reducible refine And.intro ?_ ?_; focus first | omega | rfl | assumption | exact ⟨_, rfl, rfl⟩ | (simp; omega) | (simp; done)))
    · exact d0 (readI_short (by omega))
    · omega
theorem specParseInt_ok (s : List UInt8) (hs : s.length ≤ 1073741824) : PCall Tryz.prog 197 [.c (.d (.s s))] (.tup [(false, [.d (.i .i64 ((readI s).getD 0))]), (false, [.d (.b (readI s).isSome)])]) := fun S => by
  refine acall_cw (rs := [.tmp 2, .tmp 3]) Tryz.checked.mixed Tryz.func197 Tryz.ntmps197 rfl rfl rfl rfl rfl ?_
  simp -implicitDefEqProofs (disch := omega) only [go_sem]
  refine call_w (specRead_ok s hs) ?_
  simp -implicitDefEqProofs (disch := omega) only [go_sem] <;> (repeat (with_reducible refine And.intro ?_ ?_; focus first | omega | rfl | assumption | exact ⟨_, rfl, rfl⟩ | (simp; omega) | (simp; done)))
end Go.Proofs.YtlmhknhlmicmeaaGreatDoor

namespace Go.Ab
theorem sx_arg {x : MSExpr} {i : Nat} (hi : i < x.fList.length) (h : x.sz ≤ 4194304) : x.fList[i].sz ≤ 4194304 := by
  have := szX_mem (List.getElem_mem hi)
  rw [sx_sz, szX_rows] at h
  omega
theorem sx_len {x : MSExpr} (h : x.sz ≤ 4194304) : x.fAtom.length ≤ 4194304 ∧ x.fList.length ≤ 4194304 := by
  rw [sx_sz] at h
  omega
end Go.Ab
namespace Go.Proofs.YtlmhknhlmicmeaaGreatDoor
open Go Go.Ab
theorem specEqualSExpr_all : ∀ n : Nat, ∀ x : MSExpr, SizeOf.sizeOf x < n → ∀ y : MSExpr, x.sz ≤ 4194304 → PCall Tryz.prog 107 [x.v, y.v] (.c (.d (.b (dec (x = y)))))
  | 0 => fun x h => by omega
  | n + 1 => by
    have ih := specEqualSExpr_all n
    intro x hn y hsz S
    have lList := MSExpr.lt_List x
    have hb := sx_len hsz
    refine acall_cw (rs := [.tmp 4]) Tryz.checked.mixed Tryz.func107 Tryz.ntmps107 rfl rfl rfl rfl rfl ?_
    simp -implicitDefEqProofs (disch := omega) only [go_sem]
    with_reducible refine split2 (fun hb => ?_) (fun hb => ?_) <;> have h := hb <;> (try simp only [wf_preprocess] at h) <;> simp -implicitDefEqProofs (disch := omega) only [go_sem, hb] <;> (repeat (with_reducible refine And.intro ?_ ?_; focus first | omega | rfl | assumption | exact ⟨_, rfl, rfl⟩ | (simp; omega) | (simp; done)))
    · exact bool_eq (dec_false (fun e => h (by rw [e]))).symm
    have h1 := h
    with_reducible refine split2 (fun hb => ?_) (fun hb => ?_) <;> have h := hb <;> (try simp only [wf_preprocess] at h) <;> simp -implicitDefEqProofs (disch := omega) only [go_sem, hb] <;> (repeat (with_reducible refine And.intro ?_ ?_; focus first | omega | rfl | assumption | exact ⟨_, rfl, rfl⟩ | (simp; omega) | (simp; done)))
    · exact bool_eq (dec_false (fun e => h (by rw [e]))).symm
    have hl : x.fList.length = y.fList.length := by omega
    refine loop_at (ι := Nat) Tryz.checked.mixed rfl [2, 3, 5] (fun i => [.c (.ptr (0, 0) 0), .c (.ptr (0, 1) 0), .c (.d (.i .i64 i))]) (fun i => [.box [.d (.s x.fAtom), .d (.sl (x.fList.map MSExpr.enc))], .box [.d (.s y.fAtom), .d (.sl (y.fList.map MSExpr.enc))]] :: S)
      (fun i => i ≤ x.fList.length ∧ ∀ j, j < i → x.fList[j]? = y.fList[j]?) (fun i => x.fList.length - i) 0 rfl rfl ⟨Nat.zero_le _, fun j h => by omega⟩ ?_
    rintro i ⟨p1, p2⟩
    simp -implicitDefEqProofs (disch := omega) only [go_sem, MSExpr.enc_eq]
    with_reducible refine split2 (fun hb => ?_) (fun hb => ?_) <;> have h := hb <;> (try simp only [wf_preprocess] at h) <;> simp -implicitDefEqProofs (disch := omega) only [go_sem, hb] <;> (repeat (with_reducible refine And.intro ?_ ?_; focus first | omega | rfl | assumption | exact ⟨_, rfl, rfl⟩ | (simp; omega) | (simp; done)))
    · have hi : i < x.fList.length := by omega
      have hi' : i < y.fList.length := by omega
      (repeat (with_reducible refine And.intro ?_ ?_; focus first | omega | rfl | assumption | exact ⟨_, rfl, rfl⟩ | (simp; omega) | (simp; done)))
      refine call_w (ih x.fList[i] (by have := List.sizeOf_lt_of_mem (List.getElem_mem hi); omega) y.fList[i] (sx_arg hi hsz)) ?_
      simp -implicitDefEqProofs (disch := omega) only [go_sem]
      with_reducible refine split2 (fun hb => ?_) (fun hb => ?_) <;> have h := hb <;> (try simp only [wf_preprocess] at h) <;> simp -implicitDefEqProofs (disch := omega) only [go_sem, hb] <;> (repeat (with_reducible refine And.intro ?_ ?_; focus first | omega | rfl | assumption | exact ⟨_, rfl, rfl⟩ | (simp; omega) | (simp; done)))
      · exact bool_eq (dec_false (fun e => h (by simp only [e]))).symm
      refine inv_at (i + 1) (by omega) rfl rfl ⟨by omega, fun j hj => ?_⟩
      by_cases e : j = i
      · subst e
        rw [List.getElem?_eq_getElem hi, List.getElem?_eq_getElem hi', h]
      · exact p2 j (by omega)
    · have hi : i = x.fList.length := by omega
      refine bool_eq (dec_true ?_).symm
      refine MSExpr.ext (by first | exact h1 | (simp at h1; exact h1)) (List.ext_getElem? fun j => ?_)
      by_cases hj : j < i
      · exact p2 j hj
      · rw [List.getElem?_eq_none (by omega), List.getElem?_eq_none (by omega)]
theorem specEqualSExpr_ok (x y : MSExpr) (h : x.sz ≤ 4194304) : PCall Tryz.prog 107 [x.v, y.v] (.c (.d (.b (dec (x = y))))) := specEqualSExpr_all _ x (Nat.lt_succ_self _) y h
theorem implEqualSExpr_all : ∀ n : Nat, (∀ x : MSExpr, SizeOf.sizeOf x < n → ∀ y : MSExpr, x.sz ≤ 4194304 → PCall Tryz.prog 98 [x.v, y.v] (.c (.d (.b (dec (x = y)))))) ∧
    (∀ xs : List MSExpr, SizeOf.sizeOf xs < n → ∀ ys : List MSExpr, xs.length ≤ 4194304 → (∀ t ∈ xs, t.sz ≤ 4194304) → PCall Tryz.prog 189 [.c (.d (.sl (xs.map MSExpr.enc))), .c (.d (.sl (ys.map MSExpr.enc))), .c (.fn 98 [])] (.c (.d (.b (dec (xs = ys))))))
  | 0 => ⟨fun x h => by omega, fun x h => by omega⟩
  | n + 1 => by
    obtain ⟨ih, ihS⟩ := implEqualSExpr_all n
    refine ⟨fun x hn y hsz S => ?_, fun xs hn ys hlen hsz S => ?_⟩
    · have lList := MSExpr.lt_List x
      have hb := sx_len hsz
      refine acall_cw (rs := [.tmp 4]) Tryz.checked.mixed Tryz.func98 Tryz.ntmps98 rfl rfl rfl rfl rfl ?_
      simp -implicitDefEqProofs (disch := omega) only [go_sem]
      with_reducible refine split2 (fun hb => ?_) (fun hb => ?_) <;> have h := hb <;> (try simp only [wf_preprocess] at h) <;> simp -implicitDefEqProofs (disch := omega) only [go_sem, hb] <;> (repeat (with_reducible refine And.intro ?_ ?_; focus first | omega | rfl | assumption | exact ⟨_, rfl, rfl⟩ | (simp; omega) | (simp; done)))
      · have h1 := h
        (repeat (with_reducible refine And.intro ?_ ?_; focus first | omega | rfl | assumption | exact ⟨_, rfl, rfl⟩ | (simp; omega) | (simp; done)))
        refine call_w (ihS x.fList (by omega) y.fList (by omega) (fun t ht => by
          obtain ⟨i, hi, e⟩ := List.getElem_of_mem ht
          rw [← e]; exact sx_arg hi hsz)) ?_
        simp -implicitDefEqProofs (disch := omega) only [go_sem]
        refine bool_eq (dec_congr ⟨fun e => MSExpr.ext h1 e, fun e => by rw [e]⟩)
      · exact bool_eq (dec_false (fun e => h (by rw [e]))).symm
    · refine acall_cw (rs := [.tmp 6]) Tryz.checked.mixed Tryz.func189 Tryz.ntmps189 rfl rfl rfl rfl rfl ?_
      simp -implicitDefEqProofs (disch := omega) only [go_sem]
      with_reducible refine split2 (fun hb => ?_) (fun hb => ?_) <;> have h := hb <;> (try simp only [wf_preprocess] at h) <;> simp -implicitDefEqProofs (disch := omega) only [go_sem, hb] <;> (repeat (with_reducible refine And.intro ?_ ?_; focus first | omega | rfl | assumption | exact ⟨_, rfl, rfl⟩ | (simp; omega) | (simp; done)))
      · exact bool_eq (dec_false (fun e => h (by rw [e]))).symm
      have hl : xs.length = ys.length := by omega
      refine loop_at (ι := Nat) Tryz.checked.mixed rfl [1, 2, 15, 16, 17] (fun y => [.c (.d (.sl (ys.map MSExpr.enc))), .c (.fn 98 []), .c (.d (.sl (xs.map MSExpr.enc))), .c (.d (.i .i64 xs.length)), .c (.d (.i .i64 y))]) (fun y => [] :: S)
        (fun i => i ≤ xs.length ∧ ∀ j, j < i → xs[j]? = ys[j]?) (fun y => xs.length - y) 0 rfl rfl ⟨Nat.zero_le _, fun j h => by omega⟩ ?_
      rintro i ⟨p1, p2⟩
      simp -implicitDefEqProofs (disch := omega) only [go_sem]
      with_reducible refine split2 (fun hb => ?_) (fun hb => ?_) <;> have h := hb <;> (try simp only [wf_preprocess] at h) <;> simp -implicitDefEqProofs (disch := omega) only [go_sem, hb] <;> (repeat (with_reducible refine And.intro ?_ ?_; focus first | omega | rfl | assumption | exact ⟨_, rfl, rfl⟩ | (simp; omega) | (simp; done)))
      · have hi : i < xs.length := by omega
        have hi' : i < ys.length := by omega
        (repeat (with_reducible refine And.intro ?_ ?_; focus first | omega | rfl | assumption | exact ⟨_, rfl, rfl⟩ | (simp; omega) | (simp; done)))
        refine call_w (ih xs[i] (by have := List.sizeOf_lt_of_mem (List.getElem_mem hi); omega) ys[i] (hsz _ (List.getElem_mem hi))) ?_
        simp -implicitDefEqProofs (disch := omega) only [go_sem]
        with_reducible refine split2 (fun hb => ?_) (fun hb => ?_) <;> have h := hb <;> (try simp only [wf_preprocess] at h) <;> simp -implicitDefEqProofs (disch := omega) only [go_sem, hb] <;> (repeat (with_reducible refine And.intro ?_ ?_; focus first | omega | rfl | assumption | exact ⟨_, rfl, rfl⟩ | (simp; omega) | (simp; done)))
        · exact bool_eq (dec_false (fun e => h (by simp only [e]))).symm
        refine inv_drop 0 (by decide) (i + 1) (by omega) rfl rfl rfl rfl ⟨by omega, fun j hj => ?_⟩
        by_cases e : j = i
        · subst e
          rw [List.getElem?_eq_getElem hi, List.getElem?_eq_getElem hi', h]
        · exact p2 j (by omega)
      · have hi : i = xs.length := by omega
        refine bool_eq (dec_true (List.ext_getElem? fun j => ?_)).symm
        by_cases hj : j < i
        · exact p2 j hj
        · rw [List.getElem?_eq_none (by omega), List.getElem?_eq_none (by omega)]
theorem implEqualSExpr_ok (x y : MSExpr) (h : x.sz ≤ 4194304) : PCall Tryz.prog 98 [x.v, y.v] (.c (.d (.b (dec (x = y))))) := (implEqualSExpr_all _).1 x (Nat.lt_succ_self _) y h
end Go.Proofs.YtlmhknhlmicmeaaGreatDoor

namespace Go.Ab
section
variable {P : Program} {w w' : World} {σ σ' : Nat → Nat} {S : Store} {β : Hs}
end
end Go.Ab

namespace Go.Ab
section
variable {P : Program} {w w' : World} {σ σ' : Nat → Nat} {β : Hs}
theorem box_tok {own : List Obj} {Ω : Store} (lab : Option Nat) (j i esz : Nat) (es : List (List D)) (cs : List C) (hj : own[j]? = some (.box cs)) (hi : cs[i]? = some (match lab with | some n => .lfl n es | none => .fsl es)) (hes : ∀ e ∈ es, e.length = esz) (hS : RepS w σ (own :: Ω) β) :
    ∃ β', RepS w σ ((own.set j (.box (cs.set i (.tsl (0, own.length) es))) ++ [tokO lab esz es]) :: Ω) β' ∧ Step (own :: Ω) β σ w ((own.set j (.box (cs.set i (.tsl (0, own.length) es))) ++ [tokO lab esz es]) :: Ω) β' σ w ∧ Keep (own :: Ω) β ((own.set j (.box (cs.set i (.tsl (0, own.length) es))) ++ [tokO lab esz es]) :: Ω) β' := by
  cases β with
  | nil => have := hS.shape.1; simp at this
  | cons bo bΩ =>
  have hlen : bo.length = own.length := by
    obtain ⟨gr, g1, g2⟩ := hS.shape.2 0 own rfl
    simp at g1; rw [g1]; exact g2
  have hjl := (List.getElem?_eq_some_iff.1 hj).1
  have hg0 : getO (own :: Ω) (0, j) = some (.box cs) := by rw [getO_zero]; exact hj
  obtain ⟨hb, hbo, hr⟩ := hS.obj (0, j) _ hg0
  obtain ⟨b, cv, ty, rfl, hbc, hσ, hcs⟩ := hr
  have hcs : RepCs w σ (own :: Ω) (bo :: bΩ) cs cv.toList := hcs
  obtain ⟨v, hv, hc0, hone⟩ := hcs.2 i _ hi
  have hx : ∃ ad : Option Addr, RepD w σ (.sl es) v ∧ v = .slice ad es.length es.length ∧ ∀ n, lab = some n → RepD w σ (.ol n es) v := by
    cases lab with
    | none =>
      obtain ⟨hd, ad, n, hval⟩ := hc0
      have hn : n = es.length := by rw [hval] at hd; cases hd <;> rfl
      exact ⟨ad, hd, by rw [hval, hn], fun n e => by cases e⟩
    | some n =>
      obtain ⟨hd, ad, m, hval⟩ := hc0
      have hn : m = es.length := by
        have := rep_ol hd
        rw [hval] at this
        cases this <;> rfl
      exact ⟨ad, rep_ol hd, by rw [hval, hn], fun n' e => by cases e; exact hd⟩
  obtain ⟨ad, hd, hval, hol⟩ := hx
  have hg : Grow w σ w σ := Grow.refl hS.live
  obtain ⟨hS', hk, hst⟩ := hS.push (o := tokO lab esz es) (h := v) hg hlen (by
    cases lab with
    | none => exact ⟨hd, hes, ad, es.length, hval, Nat.le_refl _, .inl rfl⟩
    | some n => exact ⟨hd, hes, ad, es.length, hval, Nat.le_refl _, .inl ⟨rfl, hol n rfl⟩⟩) (fun b hb => by
    rw [hval] at hb
    cases lab <;> cases ad <;> simp [tokO, owns, blk] at hb)
  have hk1 : getO ((own ++ [tokO lab esz es]) :: Ω) (0, j) = some (.box cs) := getO_push _ _ _ _ _ hg0
  have hh1 : getO ((bo ++ [v]) :: bΩ) (0, j) = some (.pointer (some ⟨b, 0, none⟩)) := getO_push _ _ _ _ _ hbo
  have hko : KeepO (.box cs) (some (Value.pointer (some ⟨b, 0, none⟩))) (.box (cs.set i (.tsl (0, own.length) es))) (some (Value.pointer (some ⟨b, 0, none⟩))) := .inr ⟨⟨_, rfl⟩, rfl⟩
  have hK : Keep ((own ++ [tokO lab esz es]) :: Ω) ((bo ++ [v]) :: bΩ) (setO ((own ++ [tokO lab esz es]) :: Ω) (0, j) (.box (cs.set i (.tsl (0, own.length) es)))) (setO ((bo ++ [v]) :: bΩ) (0, j) (.pointer (some ⟨b, 0, none⟩))) := by
    intro k1 o1 e1
    by_cases e : k1 = (0, j)
    · subst e
      rw [hk1] at e1; cases e1
      exact ⟨_, getO_setO_eq _ _ _ _ hk1, by rw [hh1, getO_setO_eq _ _ _ _ hh1]; exact hko⟩
    · exact ⟨o1, (getO_setO_ne _ _ _ _ (Ne.symm e)).trans e1, by rw [getO_setO_ne _ _ _ _ (Ne.symm e)]; exact .refl _ _⟩
  have hne : (0, own.length) ≠ (0, j) := fun e => by injection e with _ e; omega
  obtain ⟨hS2, hk2, hst2⟩ := hS'.set (w' := w) (σ' := σ) (o' := .box (cs.set i (.tsl (0, own.length) es))) (h' := .pointer (some ⟨b, 0, none⟩)) hk1 hh1 (Nat.le_refl _) rfl rfl (Near.refl _ _) hS'.live (fun _ _ _ => ⟨rfl, rfl⟩) hko
    ⟨b, cv, ty, rfl, hbc, hσ, by
      refine ⟨by rw [List.length_set]; exact hcs.1, fun m x hm => ?_⟩
      rw [List.getElem?_set] at hm
      by_cases e : i = m
      · subst e
        rw [if_pos rfl] at hm
        split at hm
        · cases hm
          refine ⟨v, hv, ⟨hd, tokO lab esz es, ?_, fun a1 b1 e1 => ?_⟩, hone⟩
          · show getO (setO _ (0, j) _) (0, own.length) = _
            rw [getO_setO_ne _ _ _ _ (Ne.symm hne), getO_push_new]
          · obtain ⟨_, rfl⟩ := istok_of e1
            refine ⟨Nat.le_refl _, fun _ => ?_⟩
            show getO (setO _ (0, j) _) (0, own.length) = _
            rw [getO_setO_ne _ _ _ _ (Ne.symm hne), ← hlen, getO_push_new]
        · cases hm
      · rw [if_neg e] at hm
        obtain ⟨u, hu, hc, ho⟩ := hcs.2 m x hm
        exact ⟨u, hu, (hc.mono (Near.refl _ _) hk).mono (Near.refl _ _) hK, ho⟩⟩ (fun _ e => .inl e)
  have est : setO ((own ++ [tokO lab esz es]) :: Ω) (0, j) (.box (cs.set i (.tsl (0, own.length) es))) = (own.set j (.box (cs.set i (.tsl (0, own.length) es))) ++ [tokO lab esz es]) :: Ω := by
    rw [setO, List.set_append_left _ _ hjl]
  rw [est] at hS2 hk2 hst2
  exact ⟨_, hS2, hst.trans hst2, hk.trans hk2⟩
end
end Go.Ab

namespace Go.Ab
section
variable {P : Program} {w w' : World} {σ σ' : Nat → Nat} {β : Hs} {N : Nat}
def CellLe (x y : C) : Prop := ∀ w σ S β v, RepC w σ S β x v → RepC w σ S β y v
theorem CellLe.refl (x : C) : CellLe x x := fun _ _ _ _ _ h => h
theorem cell_nil_lfl (n : Nat) : CellLe (.fsl []) (.lfl n []) := fun w σ S β v h => by
  obtain ⟨hd, a, m, hv⟩ := h
  have hm : m = 0 := by rw [hv] at hd; cases hd <;> rfl
  subst hm
  exact ⟨by rw [hv]; exact .onil _ _ _, a, 0, hv⟩
theorem cell_nil_ol (n : Nat) : CellLe (.fsl []) (.d (.ol n [])) := fun w σ S β v h => (cell_nil_lfl n w σ S β v h).1
theorem cell_fsl (es : List (List D)) : CellLe (.fsl es) (.d (.sl es)) := fun w σ S β v h => h.1
inductive CellsLe : List C → List C → Prop
  | nil : CellsLe [] []
  | cons {x y : C} {xs ys : List C} : CellLe x y → CellsLe xs ys → CellsLe (x :: xs) (y :: ys)
theorem CellsLe.refl : ∀ xs, CellsLe xs xs
  | [] => .nil
  | x :: xs => .cons (.refl x) (CellsLe.refl xs)
theorem CellsLe.length : ∀ {xs ys : List C}, CellsLe xs ys → xs.length = ys.length
  | _, _, .nil => rfl
  | _, _, .cons _ h => by rw [List.length_cons, List.length_cons, CellsLe.length h]
theorem CellsLe.at : ∀ {xs ys : List C}, CellsLe xs ys → ∀ (j : Nat) (x y : C), xs[j]? = some x → ys[j]? = some y → CellLe x y
  | _, _, .nil, j, x, y, h, _ => by simp at h
  | _, _, .cons a h, 0, x, y, h1, h2 => by simp at h1 h2; subst h1; subst h2; exact a
  | _, _, .cons a h, j + 1, x, y, h1, h2 => CellsLe.at h j x y (by simpa using h1) (by simpa using h2)
theorem CellsLe.less {xs ys : List C} (h : CellsLe xs ys) : Less (.agg xs) (.agg ys) := by
  rintro w σ S β v ⟨a, ha, hc⟩
  refine ⟨a, ha, h.length.symm.trans hc.1, fun j y hy => ?_⟩
  have hj : j < xs.length := by rw [h.length]; exact (List.getElem?_eq_some_iff.1 hy).1
  obtain ⟨v, h1, h2, h3⟩ := hc.2 j _ (List.getElem?_eq_getElem hj)
  exact ⟨v, h1, h.at j _ y (List.getElem?_eq_getElem hj) hy w σ S β v h2, h3⟩
theorem CellsLe.reps {xs ys : List C} (h : CellsLe xs ys) {w : World} {σ : Nat → Nat} {S : Store} {β : Hs} {vs : List Value} (hc : RepCs w σ S β xs vs) : RepCs w σ S β ys vs := by
  refine ⟨h.length.symm.trans hc.1, fun j y hy => ?_⟩
  have hj : j < xs.length := by rw [h.length]; exact (List.getElem?_eq_some_iff.1 hy).1
  obtain ⟨v, h1, h2, h3⟩ := hc.2 j _ (List.getElem?_eq_getElem hj)
  exact ⟨v, h1, h.at j _ y (List.getElem?_eq_getElem hj) hy w σ S β v h2, h3⟩
theorem box_less {own : List Obj} {Ω : Store} (j : Nat) (cs cs' : List C) (hj : own[j]? = some (.box cs)) (hle : CellsLe cs cs') (hS : RepS w σ (own :: Ω) β) :
    ∃ β', RepS w σ ((own.set j (.box cs')) :: Ω) β' ∧ Step (own :: Ω) β σ w ((own.set j (.box cs')) :: Ω) β' σ w ∧ Keep (own :: Ω) β ((own.set j (.box cs')) :: Ω) β' ∧ tail1 β' = tail1 β ∧ β'.length = β.length := by
  cases β with
  | nil => have := hS.shape.1; simp at this
  | cons bo bΩ =>
  have hg0 : getO (own :: Ω) (0, j) = some (.box cs) := by rw [getO_zero]; exact hj
  obtain ⟨hb, hbo, hr⟩ := hS.obj (0, j) _ hg0
  obtain ⟨b, cv, ty, rfl, hbc, hσ, hcs⟩ := hr
  have hcs : RepCs w σ (own :: Ω) (bo :: bΩ) cs cv.toList := hcs
  have hko : KeepO (.box cs) (some (Value.pointer (some ⟨b, 0, none⟩))) (.box cs') (some (Value.pointer (some ⟨b, 0, none⟩))) := .inr ⟨⟨_, rfl⟩, rfl⟩
  have hK : Keep (own :: Ω) (bo :: bΩ) (setO (own :: Ω) (0, j) (.box cs')) (setO (bo :: bΩ) (0, j) (.pointer (some ⟨b, 0, none⟩))) := by
    intro k1 o1 e1
    by_cases e : k1 = (0, j)
    · subst e
      rw [hg0] at e1; cases e1
      exact ⟨_, getO_setO_eq _ _ _ _ hg0, by rw [hbo, getO_setO_eq _ _ _ _ hbo]; exact hko⟩
    · exact ⟨o1, (getO_setO_ne _ _ _ _ (Ne.symm e)).trans e1, by rw [getO_setO_ne _ _ _ _ (Ne.symm e)]; exact .refl _ _⟩
  obtain ⟨hS2, hk2, hst2⟩ := hS.set (w' := w) (σ' := σ) (o' := .box cs') (h' := .pointer (some ⟨b, 0, none⟩)) hg0 hbo (Nat.le_refl _) rfl rfl (Near.refl _ _) hS.live (fun _ _ _ => ⟨rfl, rfl⟩) hko
    ⟨b, cv, ty, rfl, hbc, hσ, by
      have h1 := hle.reps hcs
      refine ⟨h1.1, fun m x hm => ?_⟩
      obtain ⟨u, hu, hc, ho⟩ := h1.2 m x hm
      exact ⟨u, hu, hc.mono (Near.refl _ _) hK, ho⟩⟩ (fun _ e => .inl e)
  have est : setO (own :: Ω) (0, j) (.box cs') = (own.set j (.box cs')) :: Ω := rfl
  rw [est] at hS2 hk2 hst2
  exact ⟨_, hS2, hst2, hk2, rfl, by simp [setO]⟩
theorem boxless_ghost {tm : List (Nat × V)} {own : List Obj} {Ω : Store} (j : Nat) (cs cs' : List C) (hj : own[j]? = some (.box cs)) (hle : CellsLe cs cs') : Ghost N ⟨tm, own :: Ω⟩ ⟨tm, (own.set j (.box cs')) :: Ω⟩ := by
  intro a w σ β hR
  obtain ⟨β', hS, hst, hk, ht, _⟩ := box_less j cs cs' hj hle hR.S
  refine ⟨σ, β', ⟨hR.size, hR.defers, hS, fun u => (hR.T u).mono (Near.refl _ _) hk⟩, hst, ?_⟩
  rw [ht]; exact Keep.refl _ _
theorem boxtok_ghost {tm : List (Nat × V)} {own : List Obj} {Ω : Store} (lab : Option Nat) (j i esz : Nat) (es : List (List D)) (cs : List C) (hj : own[j]? = some (.box cs)) (hi : cs[i]? = some (match lab with | some n => .lfl n es | none => .fsl es)) (hes : ∀ e ∈ es, e.length = esz) :
    Ghost N ⟨tm, own :: Ω⟩ ⟨tm, (own.set j (.box (cs.set i (.tsl (0, own.length) es))) ++ [tokO lab esz es]) :: Ω⟩ := by
  intro a w σ β hR
  obtain ⟨β', hS, hst, hk⟩ := box_tok lab j i esz es cs hj hi hes hR.S
  refine ⟨σ, β', ⟨hR.size, hR.defers, hS, fun u => (hR.T u).mono (Near.refl _ _) hk⟩, hst, ?_⟩
  intro k o hko
  obtain ⟨o', h1, h2⟩ := hk (k.1 + 1, k.2) o (by
    obtain ⟨l, i⟩ := k
    show getO (own :: Ω) (l + 1, i) = _
    rw [getO_succ]; exact hko)
  obtain ⟨bo, bΩ, rfl, _⟩ := frames hR
  have h3 := hS.shape.1
  cases β' with
  | nil => simp at h3
  | cons bo' bΩ' =>
    rw [getO_succ] at h1
    rw [getO_succ, getO_succ] at h2
    exact ⟨o', h1, h2⟩
theorem aw_boxless {c : Code} {Q : Exit → St → Prop} {tm : List (Nat × V)} {own : List Obj} {Ω : Store} (j : Nat) (cs cs' : List C) (hj : own[j]? = some (.box cs)) (hle : CellsLe cs cs') (h : AW P N c Q ⟨tm, (own.set j (.box cs')) :: Ω⟩) : AW P N c Q ⟨tm, own :: Ω⟩ := aw_ghost h (boxless_ghost j cs cs' hj hle)
theorem cells_set {x y : C} (hle : CellLe x y) : ∀ (i : Nat) (cs : List C), cs[i]? = some x → CellsLe cs (cs.set i y)
  | 0, [], h => by simp at h
  | 0, z :: cs, h => by simp at h; subst h; exact .cons hle (.refl cs)
  | i + 1, [], h => by simp at h
  | i + 1, z :: cs, h => .cons (.refl z) (cells_set hle i cs (by simpa using h))
theorem aw_boxltok {c : Code} {Q : Exit → St → Prop} {tm : List (Nat × V)} {own : List Obj} {Ω : Store} (n j i esz : Nat) (cs : List C) (hj : own[j]? = some (.box cs)) (hi : cs[i]? = some (.fsl []))
    (h : AW P N c Q ⟨tm, (own.set j (.box (cs.set i (.tsl (0, own.length) []))) ++ [.ltok n esz []]) :: Ω⟩) : AW P N c Q ⟨tm, own :: Ω⟩ := by
  have hjl := (List.getElem?_eq_some_iff.1 hj).1
  have hil := (List.getElem?_eq_some_iff.1 hi).1
  refine aw_boxless j cs (cs.set i (.lfl n [])) hj (cells_set (cell_nil_lfl n) i cs hi) ?_
  refine aw_ghost ?_ (boxtok_ghost (some n) j i esz [] (cs.set i (.lfl n [])) (by rw [List.getElem?_set_self hjl]) (by rw [List.getElem?_set_self hil]) (by simp))
  rw [List.set_set, List.set_set, List.length_set]
  exact h
theorem aw_boxtok {c : Code} {Q : Exit → St → Prop} {tm : List (Nat × V)} {own : List Obj} {Ω : Store} (j i esz : Nat) (cs : List C) (hj : own[j]? = some (.box cs)) (hi : cs[i]? = some (.fsl []))
    (h : AW P N c Q ⟨tm, (own.set j (.box (cs.set i (.tsl (0, own.length) []))) ++ [.tok esz []]) :: Ω⟩) : AW P N c Q ⟨tm, own :: Ω⟩ :=
  aw_ghost h (boxtok_ghost none j i esz [] cs hj hi (by simp))
def DLe (x y : D) : Prop := ∀ w σ v, RepD w σ x v → RepD w σ y v
theorem DLe.refl (x : D) : DLe x x := fun _ _ _ h => h
inductive RowLe : List D → List D → Prop
  | nil : RowLe [] []
  | cons {x y : D} {xs ys : List D} : DLe x y → RowLe xs ys → RowLe (x :: xs) (y :: ys)
theorem RowLe.refl : ∀ r, RowLe r r
  | [] => .nil
  | x :: xs => .cons (.refl x) (RowLe.refl xs)
theorem RowLe.length : ∀ {r r' : List D}, RowLe r r' → r.length = r'.length
  | _, _, .nil => rfl
  | _, _, .cons _ h => by rw [List.length_cons, List.length_cons, h.length]
theorem RowLe.at : ∀ {r r' : List D}, RowLe r r' → ∀ (j : Nat) (y : D), r'[j]? = some y → ∃ x, r[j]? = some x ∧ DLe x y
  | _, _, .nil, j, y, h => by simp at h
  | _, _, .cons a h, 0, y, h2 => by simp at h2; subst h2; exact ⟨_, rfl, a⟩
  | _, _, .cons a h, j + 1, y, h2 => h.at j y (by simpa using h2)
theorem RowLe.append : ∀ {a a' b b' : List D}, RowLe a a' → RowLe b b' → RowLe (a ++ b) (a' ++ b')
  | _, _, _, _, .nil, h => h
  | _, _, _, _, .cons x h, k => .cons x (h.append k)
inductive RowsLe : List (List D) → List (List D) → Prop
  | nil : RowsLe [] []
  | cons {x y : List D} {xs ys : List (List D)} : RowLe x y → RowsLe xs ys → RowsLe (x :: xs) (y :: ys)
theorem RowsLe.length : ∀ {r r' : List (List D)}, RowsLe r r' → r.length = r'.length
  | _, _, .nil => rfl
  | _, _, .cons _ h => by rw [List.length_cons, List.length_cons, h.length]
theorem RowsLe.rows {z : Nat} : ∀ {a b : List (List D)}, RowsLe a b → (∀ r ∈ b, r.length = z) → ∀ r ∈ a, r.length = z
  | _, _, .nil, h, r, hr => by cases hr
  | _, _, .cons x h, k, r, hr => by
    rcases List.mem_cons.1 hr with rfl | hr
    · rw [x.length]; exact k _ (by simp)
    · exact h.rows (fun r hr => k r (by simp [hr])) r hr
theorem RowsLe.flat : ∀ {a b : List (List D)}, RowsLe a b → RowLe a.flatten b.flatten
  | _, _, .nil => .nil
  | _, _, .cons x h => by rw [List.flatten_cons, List.flatten_cons]; exact x.append h.flat
theorem RowsLe.rep {a b : List (List D)} (h : RowsLe a b) {w : World} {σ : Nat → Nat} {v : Value} (hr : RepD w σ (.sl a) v) : RepD w σ (.sl b) v := by
  cases hr with
  | nil ad cap =>
    cases h
    exact .nil ad cap
  | sl b0 off cap esz es vals c t fz hcap hlen hb hσ hc hv =>
    have hl := h.length
    rw [hl] at hcap hσ hc ⊢
    have hlb : ∀ e ∈ b, e.length = esz := fun e he => by
      obtain ⟨i, hi, rfl⟩ := List.getElem_of_mem he
      have : ∀ {a b : List (List D)} (h : RowsLe a b) (i : Nat) (hi : i < b.length) (hi' : i < a.length), RowLe a[i] b[i] := by
        intro a b h
        induction h with
        | nil => intro i hi; simp at hi
        | cons x h ih => intro i hi hi'; cases i with
          | zero => exact x
          | succ i => exact ih i (by simpa using hi) (by simpa using hi')
      have h1 := this h i hi (by omega)
      rw [← h1.length]; exact hlen _ (List.getElem_mem _)
    refine .sl b0 off cap esz b vals c t fz hcap hlb hb hσ hc fun j d hd => ?_
    obtain ⟨x, hx, hle⟩ := h.flat.at j d hd
    exact hle w σ _ (hv j x hx)
inductive CompsLe : List (Bool × List C) → List (Bool × List C) → Prop
  | nil : CompsLe [] []
  | cons {b : Bool} {cs cs' : List C} {xs ys : List (Bool × List C)} : CellsLe cs cs' → CompsLe xs ys → CompsLe ((b, cs) :: xs) ((b, cs') :: ys)
theorem CompsLe.refl : ∀ xs, CompsLe xs xs
  | [] => .nil
  | (b, cs) :: xs => .cons (.refl cs) (CompsLe.refl xs)
theorem CompsLe.length : ∀ {xs ys : List (Bool × List C)}, CompsLe xs ys → xs.length = ys.length
  | _, _, .nil => rfl
  | _, _, .cons _ h => by rw [List.length_cons, List.length_cons, h.length]
theorem CompsLe.at : ∀ {xs ys : List (Bool × List C)}, CompsLe xs ys → ∀ (j : Nat) (y : Bool × List C), ys[j]? = some y → ∃ cs, xs[j]? = some (y.1, cs) ∧ CellsLe cs y.2
  | _, _, .nil, j, y, h => by simp at h
  | _, _, .cons a h, 0, y, h2 => by simp at h2; subst h2; exact ⟨_, rfl, a⟩
  | _, _, .cons a h, j + 1, y, h2 => h.at j y (by simpa using h2)
theorem CompsLe.less {xs ys : List (Bool × List C)} (h : CompsLe xs ys) : Less (.tup xs) (.tup ys) := by
  rintro w σ S β v ⟨a, ha, hl, hc⟩
  refine ⟨a, ha, h.length.symm.trans hl, fun j y hy => ?_⟩
  obtain ⟨cs, h1, h2⟩ := h.at j y hy
  obtain ⟨u, hu, hr⟩ := hc j _ h1
  refine ⟨u, hu, ?_⟩
  obtain ⟨b, cs'⟩ := y
  cases b with
  | true =>
    obtain ⟨a', e, hcs⟩ := hr
    exact ⟨a', e, h2.reps hcs⟩
  | false =>
    obtain ⟨x, e, hx, ho⟩ := hr
    simp only at e h2
    subst e
    cases h2 with
    | cons hxy hn =>
      cases hn
      exact ⟨_, rfl, hxy w σ S β u hx, ho⟩
theorem PCall.of_le {f : FuncId} {args : List V} {t : V} (h : ∀ S, ACall P f args S fun r S' => Less r t ∧ S' = S) : PCall P f args t := fun S =>
  ⟨(h S).1, fun w σ β vs hS hv => ((h S).2 w σ β vs hS hv).mono fun e w' ⟨v, r, S', σ', β', h1, h2, h3, h4, h5, h6, h7⟩ => ⟨v, t, S', σ', β', h1, h2, h3, h4, h6 _ _ _ _ _ h5, rfl, h7⟩⟩
theorem tup1_less {cs cs' : List C} {xs : List (Bool × List C)} (h : ∀ w σ S β vs, RepCs w σ S β cs vs → RepCs w σ S β cs' vs) : Less (.tup ((true, cs) :: xs)) (.tup ((true, cs') :: xs)) := by
  rintro w σ S β v ⟨a, ha, hl, hc⟩
  obtain ⟨u, hu, a', rfl, hcs⟩ := hc 0 _ rfl
  refine ⟨a, ha, hl, fun j y hy => ?_⟩
  cases j with
  | zero =>
    simp at hy; subst hy
    exact ⟨_, hu, a', rfl, h _ _ _ _ _ hcs⟩
  | succ j => exact hc (j + 1) y (by simpa using hy)
theorem less_refl (v : V) : Less v v := fun _ _ _ _ _ h => h
end
end Go.Ab

