/-
  SEVERAL TEXTS IN ONE (merged by program): contracts and models, each with its own heading.
-/
import Derived.Test.YtnceiannponbjaaGreatPartDibC
set_option linter.unusedSimpArgs false
set_option linter.unusedVariables false
set_option maxRecDepth 4000
set_option maxRecDepth 8000
namespace Go.Proofs.YtnceiannponbjaaGreat
open Go Go.Ab
theorem l1In_ok (n a b : Int) : PCall Tryz.prog 61 [.c (.d (.i .i64 n)), .c (.d (.i .i64 a)), .c (.d (.i .i64 b))] (.c (.d (.b (dec (a ≤ n ∧ n ≤ b))))) := fun S => by
  refine acall_cw (rs := [.tmp 6]) Tryz.checked.mixed Tryz.func61 Tryz.ntmps61 rfl rfl rfl rfl rfl ?_
  simp -implicitDefEqProofs (disch := omega) only [go_sem]
  with_reducible refine split2 (fun hb => ?_) (fun hb => ?_) <;> have h := hb <;> (try simp only [wf_preprocess] at h) <;> simp -implicitDefEqProofs (disch := omega) only [go_sem, hb] <;> (repeat (with_reducible refine And.intro ?_ ?_; focus first | omega | rfl | assumption | exact ⟨_, rfl, rfl⟩ | (simp; omega) | (simp; done)))
  · exact bool_eq (by rw [decide_dec]; exact dec_congr ⟨fun x => ⟨by omega, x⟩, fun x => x.2⟩)
  · exact bool_eq (dec_false (by omega)).symm
theorem l1Has_ok (xs : List (List UInt8)) (s : List UInt8) (hl : xs.length ≤ 1073741824) : PCall Tryz.prog 92 [.c (.d (.sl (xs.map encS))), .c (.d (.s s))] (.c (.d (.b (dec (s ∈ xs))))) := fun S => by
  refine acall_cw (rs := [.tmp 4]) Tryz.checked.mixed Tryz.func92 Tryz.ntmps92 rfl rfl rfl rfl rfl ?_
  simp -implicitDefEqProofs (disch := omega) only [go_sem, encS]
  refine loop_at (ι := Nat) Tryz.checked.mixed rfl [0, 1, 5] (fun i => [.c (.d (.sl (xs.map encS))), .c (.d (.s s)), .c (.d (.i .i64 i))]) (fun _ => [] :: S)
    (fun i => i ≤ xs.length ∧ ∀ j, j < i → ∀ h : j < xs.length, xs[j] ≠ s) (fun i => xs.length - i) 0 rfl rfl ⟨Nat.zero_le _, fun j h => by omega⟩ ?_
  rintro i ⟨p1, p2⟩
  simp -implicitDefEqProofs (disch := omega) only [go_sem, encS]
  with_reducible refine split2 (fun hb => ?_) (fun hb => ?_) <;> have h := hb <;> (try simp only [wf_preprocess] at h) <;> simp -implicitDefEqProofs (disch := omega) only [go_sem, hb, encS] <;> (repeat (with_reducible refine And.intro ?_ ?_; focus first | omega | rfl | assumption | exact ⟨_, rfl, rfl⟩ | (simp; omega) | (simp; done)))
  · have hi : i < xs.length := by omega
    with_reducible refine split2 (fun hb => ?_) (fun hb => ?_) <;> have h := hb <;> (try simp only [wf_preprocess] at h) <;> simp -implicitDefEqProofs (disch := omega) only [go_sem, hb, encS] <;> (repeat (with_reducible refine And.intro ?_ ?_; focus first | omega | rfl | assumption | exact ⟨_, rfl, rfl⟩ | (simp; omega) | (simp; done)))
    · exact bool_eq (dec_true (by rw [← h]; exact List.getElem_mem hi)).symm
    · refine inv_at (i + 1) (by omega) rfl rfl ⟨by omega, fun j hj hl => ?_⟩
      by_cases e : j = i
      · subst e; exact h
      · exact p2 j (by omega) hl
  · refine bool_eq (dec_false fun hm => ?_).symm
    obtain ⟨j, h1, h2⟩ := List.getElem_of_mem hm
    exact p2 j (by omega) h1 h2
theorem indexS_ok (xs : List (List UInt8)) (s : List UInt8) (hl : xs.length ≤ 1073741824) : PCall Tryz.prog 103 [.c (.d (.sl (xs.map encS))), .c (.d (.s s))] (.c (.d (.i .i64 (indexS xs s)))) := fun S => by
  refine acall_cw (rs := [.tmp 4]) Tryz.checked.mixed Tryz.func103 Tryz.ntmps103 rfl rfl rfl rfl rfl ?_
  simp -implicitDefEqProofs (disch := omega) only [go_sem, encS]
  refine loop_at (ι := Nat) Tryz.checked.mixed rfl [0, 1, 7, 8] (fun i => [.c (.d (.sl (xs.map encS))), .c (.d (.s s)), .c (.d (.i .i64 xs.length)), .c (.d (.i .i64 i))]) (fun _ => [] :: S)
    (fun i => i ≤ xs.length ∧ ∀ j, j < i → xs.getD j [] ≠ s) (fun i => xs.length - i) 0 rfl rfl ⟨Nat.zero_le _, fun j h => by omega⟩ ?_
  rintro i ⟨p1, p2⟩
  simp -implicitDefEqProofs (disch := omega) only [go_sem, encS]
  with_reducible refine split2 (fun hb => ?_) (fun hb => ?_) <;> have h := hb <;> (try simp only [wf_preprocess] at h) <;> simp -implicitDefEqProofs (disch := omega) only [go_sem, hb, encS] <;> (repeat (with_reducible refine And.intro ?_ ?_; focus first | omega | rfl | assumption | exact ⟨_, rfl, rfl⟩ | (simp; omega) | (simp; done)))
  · have hi : i < xs.length := by omega
    have e : xs.getD i [] = xs[i] := by simp [List.getD, hi]
    with_reducible refine split2 (fun hb => ?_) (fun hb => ?_) <;> have h := hb <;> (try simp only [wf_preprocess] at h) <;> simp -implicitDefEqProofs (disch := omega) only [go_sem, hb, encS] <;> (repeat (with_reducible refine And.intro ?_ ?_; focus first | omega | rfl | assumption | exact ⟨_, rfl, rfl⟩ | (simp; omega) | (simp; done)))
    · rw [indexS_here hi p2 (by rw [e]; exact h.symm)]
    · refine inv_at (i + 1) (by omega) rfl rfl ⟨by omega, fun j hj => ?_⟩
      by_cases e' : j = i
      · subst e'; rw [e]; exact fun x => h x.symm
      · exact p2 j (by omega)
  · rw [indexS_no (fun j hj => p2 j (by omega))]
theorem containsS_ok (xs : List (List UInt8)) (s : List UInt8) (hl : xs.length ≤ 1073741824) : PCall Tryz.prog 85 [.c (.d (.sl (xs.map encS))), .c (.d (.s s))] (.c (.d (.b (dec (s ∈ xs))))) := fun S => by
  refine acall_cw (rs := [.tmp 4]) Tryz.checked.mixed Tryz.func85 Tryz.ntmps85 rfl rfl rfl rfl rfl ?_
  simp -implicitDefEqProofs (disch := omega) only [go_sem]
  refine call_w (indexS_ok xs s hl) ?_
  simp -implicitDefEqProofs (disch := omega) only [go_sem] <;> (repeat (with_reducible refine And.intro ?_ ?_; focus first | omega | rfl | assumption | exact ⟨_, rfl, rfl⟩ | (simp; omega) | (simp; done)))
  exact bool_eq indexS_pos
theorem specReserved_ok (s : List UInt8) : PCall Tryz.prog 62 [.c (.d (.s s))] (.c (.d (.b (dec (s ∈ reserved))))) := fun S => by
  refine acall_cw (rs := [.tmp 2]) Tryz.checked.mixed Tryz.func62 Tryz.ntmps62 rfl rfl rfl rfl rfl ?_
  simp -implicitDefEqProofs (disch := omega) only [go_sem]
  (repeat (with_reducible refine And.intro ?_ ?_; focus first | omega | rfl | assumption | exact ⟨_, rfl, rfl⟩ | (simp; omega) | (simp; done)))
  refine call_w (l1Has_ok reserved s (by decide)) ?_
  simp -implicitDefEqProofs (disch := omega) only [go_sem] <;> (repeat (with_reducible refine And.intro ?_ ?_; focus first | omega | rfl | assumption | exact ⟨_, rfl, rfl⟩ | (simp; omega) | (simp; done)))
theorem implReserved_ok (s : List UInt8) : PCall Tryz.prog 53 [.c (.d (.s s))] (.c (.d (.b (dec (s ∈ reserved))))) := fun S => by
  refine acall_cw (rs := [.tmp 2]) Tryz.checked.mixed Tryz.func53 Tryz.ntmps53 rfl rfl rfl rfl rfl ?_
  simp -implicitDefEqProofs (disch := omega) only [go_sem]
  (repeat (with_reducible refine And.intro ?_ ?_; focus first | omega | rfl | assumption | exact ⟨_, rfl, rfl⟩ | (simp; omega) | (simp; done)))
  refine call_w (containsS_ok reserved s (by decide)) ?_
  simp -implicitDefEqProofs (disch := omega) only [go_sem] <;> (repeat (with_reducible refine And.intro ?_ ?_; focus first | omega | rfl | assumption | exact ⟨_, rfl, rfl⟩ | (simp; omega) | (simp; done)))
theorem isLower_ok (b : UInt8) : PCall Tryz.prog 51 [.c (.d (.i .u8 b.toNat))] (.c (.d (.b (dec (lowerB b))))) := fun S => by
  refine acall_cw (rs := [.tmp 2]) Tryz.checked.mixed Tryz.func51 Tryz.ntmps51 rfl rfl rfl rfl rfl ?_
  simp -implicitDefEqProofs (disch := omega) only [go_sem]
  with_reducible refine split2 (fun hb => ?_) (fun hb => ?_) <;> have h := hb <;> (try simp only [wf_preprocess] at h) <;> simp -implicitDefEqProofs (disch := omega) only [go_sem, hb] <;> (repeat (with_reducible refine And.intro ?_ ?_; focus first | omega | rfl | assumption | exact ⟨_, rfl, rfl⟩ | (simp; omega) | (simp; done)))
  · exact bool_eq (by rw [decide_dec]; exact dec_congr ⟨fun x => ⟨by omega, by omega⟩, fun x => by have := x.2; omega⟩)
  · exact bool_eq (dec_false fun x => by have := x.1; omega).symm
theorem isDigit_ok (b : UInt8) : PCall Tryz.prog 52 [.c (.d (.i .u8 b.toNat))] (.c (.d (.b (dec (digitB b))))) := fun S => by
  refine acall_cw (rs := [.tmp 2]) Tryz.checked.mixed Tryz.func52 Tryz.ntmps52 rfl rfl rfl rfl rfl ?_
  simp -implicitDefEqProofs (disch := omega) only [go_sem]
  with_reducible refine split2 (fun hb => ?_) (fun hb => ?_) <;> have h := hb <;> (try simp only [wf_preprocess] at h) <;> simp -implicitDefEqProofs (disch := omega) only [go_sem, hb] <;> (repeat (with_reducible refine And.intro ?_ ?_; focus first | omega | rfl | assumption | exact ⟨_, rfl, rfl⟩ | (simp; omega) | (simp; done)))
  · exact bool_eq (by rw [decide_dec]; exact dec_congr ⟨fun x => ⟨by omega, by omega⟩, fun x => by have := x.2; omega⟩)
  · exact bool_eq (dec_false fun x => by have := x.1; omega).symm
theorem implValidName_ok (s : List UInt8) (hl : s.length ≤ 1073741824) : PCall Tryz.prog 23 [.c (.d (.s s))] (.c (.d (.b (validName s)))) := fun S => by
  refine acall_cw (rs := [.tmp 2]) Tryz.checked.mixed Tryz.func23 Tryz.ntmps23 rfl rfl rfl rfl rfl ?_
  simp -implicitDefEqProofs (disch := omega) only [go_sem]
  refine loop_at (ι := Nat) Tryz.checked.mixed rfl [0, 5, 6] (fun i => [.c (.d (.s s)), .c (.d (.i .i64 s.length)), .c (.d (.i .i64 i))]) (fun _ => [] :: S)
    (fun i => i ≤ s.length ∧ ∀ j, j < i → lowerB (s.getD j 0) ∨ (j ≠ 0 ∧ digitB (s.getD j 0))) (fun i => s.length - i) 0 rfl rfl ⟨Nat.zero_le _, fun j h => by omega⟩ ?_
  rintro i ⟨p1, p2⟩
  have next : i < s.length → (lowerB (s.getD i 0) ∨ (i ≠ 0 ∧ digitB (s.getD i 0))) → ∀ j, j < i + 1 → lowerB (s.getD j 0) ∨ (j ≠ 0 ∧ digitB (s.getD j 0)) := fun hi h j hj => by
    by_cases e : j = i
    · subst e; exact h
    · exact p2 j (by omega)
  have bad : i < s.length → ¬ (lowerB (s.getD i 0) ∨ (i ≠ 0 ∧ digitB (s.getD i 0))) → validName s = false := fun hi h => dec_false fun x => h (x.2.2 i hi)
  simp -implicitDefEqProofs (disch := omega) only [go_sem]
  with_reducible refine split2 (fun hb => ?_) (fun hb => ?_) <;> have h := hb <;> (try simp only [wf_preprocess] at h) <;> simp -implicitDefEqProofs (disch := omega) only [go_sem, hb] <;> (repeat (with_reducible refine And.intro ?_ ?_; focus first | omega | rfl | assumption | exact ⟨_, rfl, rfl⟩ | (simp; omega) | (simp; done)))
  · have hi : i < s.length := by omega
    (repeat (with_reducible refine And.intro ?_ ?_; focus first | omega | rfl | assumption | exact ⟨_, rfl, rfl⟩ | (simp; omega) | (simp; done)))
    refine call_w (isLower_ok (s.getD i 0)) ?_
    simp -implicitDefEqProofs (disch := omega) only [go_sem] <;> (repeat (with_reducible refine And.intro ?_ ?_; focus first | omega | rfl | assumption | exact ⟨_, rfl, rfl⟩ | (simp; omega) | (simp; done)))
    with_reducible refine split2 (fun hb => ?_) (fun hb => ?_) <;> have h := hb <;> (try simp only [wf_preprocess] at h) <;> simp -implicitDefEqProofs (disch := omega) only [go_sem, hb] <;> (repeat (with_reducible refine And.intro ?_ ?_; focus first | omega | rfl | assumption | exact ⟨_, rfl, rfl⟩ | (simp; omega) | (simp; done)))
    · have nl := h
      with_reducible refine split2 (fun hb => ?_) (fun hb => ?_) <;> have h := hb <;> (try simp only [wf_preprocess] at h) <;> simp -implicitDefEqProofs (disch := omega) only [go_sem, hb] <;> (repeat (with_reducible refine And.intro ?_ ?_; focus first | omega | rfl | assumption | exact ⟨_, rfl, rfl⟩ | (simp; omega) | (simp; done)))
      · have i0 : i = 0 := by omega
        rw [bad hi (fun x => x.elim nl fun y => y.1 i0)]
      · have ne := h
        (repeat (with_reducible refine And.intro ?_ ?_; focus first | omega | rfl | assumption | exact ⟨_, rfl, rfl⟩ | (simp; omega) | (simp; done)))
        refine call_w (isDigit_ok (s.getD i 0)) ?_
        simp -implicitDefEqProofs (disch := omega) only [go_sem] <;> (repeat (with_reducible refine And.intro ?_ ?_; focus first | omega | rfl | assumption | exact ⟨_, rfl, rfl⟩ | (simp; omega) | (simp; done)))
        with_reducible refine split2 (fun hb => ?_) (fun hb => ?_) <;> have h := hb <;> (try simp only [wf_preprocess] at h) <;> simp -implicitDefEqProofs (disch := omega) only [go_sem, hb] <;> (repeat (with_reducible refine And.intro ?_ ?_; focus first | omega | rfl | assumption | exact ⟨_, rfl, rfl⟩ | (simp; omega) | (simp; done)))
        · rw [bad hi (fun x => x.elim nl fun y => h y.2)]
        · exact inv_at (i + 1) (by omega) rfl rfl ⟨by omega, next hi (.inr ⟨by omega, h⟩)⟩
    · exact inv_at (i + 1) (by omega) rfl rfl ⟨by omega, next hi (.inl h)⟩
  · have hn : nameOk s := fun j hj => p2 j (by omega)
    have h0 : ∀ b, dec (s ∈ reserved) = b → ∀ c, decide ((s.length : Int) ≥ 1) = c → ∀ d, decide ((s.length : Int) ≤ 8) = d → validName s = (c && d && !b) := by
      rintro b rfl c rfl d rfl
      unfold validName
      rw [Bool.eq_iff_iff]
      simp only [dec_eq_true, Bool.and_eq_true, decide_eq_true_eq, Bool.not_eq_true', dec_eq_false]
      exact ⟨fun x => ⟨⟨by omega, by omega⟩, x.2.1⟩, fun x => ⟨⟨by omega, by omega⟩, x.2, hn⟩⟩
    with_reducible refine split2 (fun hb => ?_) (fun hb => ?_) <;> have h := hb <;> (try simp only [wf_preprocess] at h) <;> simp -implicitDefEqProofs (disch := omega) only [go_sem, hb] <;> (repeat (with_reducible refine And.intro ?_ ?_; focus first | omega | rfl | assumption | exact ⟨_, rfl, rfl⟩ | (simp; omega) | (simp; done)))
    · have c1 := hb
      with_reducible refine split2 (fun hb => ?_) (fun hb => ?_) <;> have h := hb <;> (try simp only [wf_preprocess] at h) <;> simp -implicitDefEqProofs (disch := omega) only [go_sem, hb] <;> (repeat (with_reducible refine And.intro ?_ ?_; focus first | omega | rfl | assumption | exact ⟨_, rfl, rfl⟩ | (simp; omega) | (simp; done)))
      · refine call_w (implReserved_ok s) ?_
        simp -implicitDefEqProofs (disch := omega) only [go_sem] <;> (repeat (with_reducible refine And.intro ?_ ?_; focus first | omega | rfl | assumption | exact ⟨_, rfl, rfl⟩ | (simp; omega) | (simp; done)))
        exact bool_eq (by rw [h0 _ rfl _ c1 _ hb]; simp)
      · exact bool_eq (by rw [h0 _ rfl _ c1 _ hb]; simp)
    · exact bool_eq (by rw [h0 _ rfl _ hb _ rfl]; simp)
theorem specValidName_ok (s : List UInt8) (hl : s.length ≤ 1073741824) : PCall Tryz.prog 27 [.c (.d (.s s))] (.c (.d (.b (validName s)))) := fun S => by
  have bad : ¬ nameOk s → validName s = false := fun h => dec_false fun x => h x.2.2
  refine acall_cw (rs := [.tmp 2]) Tryz.checked.mixed Tryz.func27 Tryz.ntmps27 rfl rfl rfl rfl rfl ?_
  simp -implicitDefEqProofs (disch := omega) only [go_sem]
  refine call_w (l1In_ok s.length 1 8) ?_
  simp -implicitDefEqProofs (disch := omega) only [go_sem] <;> (repeat (with_reducible refine And.intro ?_ ?_; focus first | omega | rfl | assumption | exact ⟨_, rfl, rfl⟩ | (simp; omega) | (simp; done)))
  with_reducible refine split2 (fun hb => ?_) (fun hb => ?_) <;> have h := hb <;> (try simp only [wf_preprocess] at h) <;> simp -implicitDefEqProofs (disch := omega) only [go_sem, hb] <;> (repeat (with_reducible refine And.intro ?_ ?_; focus first | omega | rfl | assumption | exact ⟨_, rfl, rfl⟩ | (simp; omega) | (simp; done)))
  · rw [show validName s = false from dec_false fun x => h (by omega)]
  have hlen := h
  refine call_w (specReserved_ok s) ?_
  simp -implicitDefEqProofs (disch := omega) only [go_sem] <;> (repeat (with_reducible refine And.intro ?_ ?_; focus first | omega | rfl | assumption | exact ⟨_, rfl, rfl⟩ | (simp; omega) | (simp; done)))
  with_reducible refine split2 (fun hb => ?_) (fun hb => ?_) <;> have h := hb <;> (try simp only [wf_preprocess] at h) <;> simp -implicitDefEqProofs (disch := omega) only [go_sem, hb] <;> (repeat (with_reducible refine And.intro ?_ ?_; focus first | omega | rfl | assumption | exact ⟨_, rfl, rfl⟩ | (simp; omega) | (simp; done)))
  · rw [show validName s = false from dec_false fun x => x.2.1 h]
  have hres := h
  refine loop_at (ι := Nat) Tryz.checked.mixed rfl [0, 3] (fun i => [.c (.d (.s s)), .c (.d (.i .i64 i))]) (fun _ => [] :: S)
    (fun i => i ≤ s.length ∧ ∀ j, j < i → lowerB (s.getD j 0) ∨ (j ≠ 0 ∧ digitB (s.getD j 0))) (fun i => s.length - i) 0 rfl rfl ⟨Nat.zero_le _, fun j h => by omega⟩ ?_
  rintro i ⟨p1, p2⟩
  have next : i < s.length → (lowerB (s.getD i 0) ∨ (i ≠ 0 ∧ digitB (s.getD i 0))) → ∀ j, j < i + 1 → lowerB (s.getD j 0) ∨ (j ≠ 0 ∧ digitB (s.getD j 0)) := fun hi h j hj => by
    by_cases e : j = i
    · subst e; exact h
    · exact p2 j (by omega)
  simp -implicitDefEqProofs (disch := omega) only [go_sem]
  with_reducible refine split2 (fun hb => ?_) (fun hb => ?_) <;> have h := hb <;> (try simp only [wf_preprocess] at h) <;> simp -implicitDefEqProofs (disch := omega) only [go_sem, hb] <;> (repeat (with_reducible refine And.intro ?_ ?_; focus first | omega | rfl | assumption | exact ⟨_, rfl, rfl⟩ | (simp; omega) | (simp; done)))
  · have hi : i < s.length := by omega
    have bad' : ¬ (lowerB (s.getD i 0) ∨ (i ≠ 0 ∧ digitB (s.getD i 0))) → validName s = false := fun h => bad fun x => h (x i hi)
    have next := next hi
    unfold lowerB digitB at bad' next
    all_goals try (with_reducible refine split2 (fun hb => ?_) (fun hb => ?_) <;> have h := hb <;> (try simp only [wf_preprocess] at h) <;> simp -implicitDefEqProofs (disch := omega) only [go_sem, hb] <;> (repeat (with_reducible refine And.intro ?_ ?_; focus first | omega | rfl | assumption | exact ⟨_, rfl, rfl⟩ | (simp; omega) | (simp; done))))
    all_goals try (with_reducible refine split2 (fun hb => ?_) (fun hb => ?_) <;> have h := hb <;> (try simp only [wf_preprocess] at h) <;> simp -implicitDefEqProofs (disch := omega) only [go_sem, hb] <;> (repeat (with_reducible refine And.intro ?_ ?_; focus first | omega | rfl | assumption | exact ⟨_, rfl, rfl⟩ | (simp; omega) | (simp; done))))
    all_goals try (with_reducible refine split2 (fun hb => ?_) (fun hb => ?_) <;> have h := hb <;> (try simp only [wf_preprocess] at h) <;> simp -implicitDefEqProofs (disch := omega) only [go_sem, hb] <;> (repeat (with_reducible refine And.intro ?_ ?_; focus first | omega | rfl | assumption | exact ⟨_, rfl, rfl⟩ | (simp; omega) | (simp; done))))
    all_goals try (with_reducible refine split2 (fun hb => ?_) (fun hb => ?_) <;> have h := hb <;> (try simp only [wf_preprocess] at h) <;> simp -implicitDefEqProofs (disch := omega) only [go_sem, hb] <;> (repeat (with_reducible refine And.intro ?_ ?_; focus first | omega | rfl | assumption | exact ⟨_, rfl, rfl⟩ | (simp; omega) | (simp; done))))
    all_goals try (with_reducible refine split2 (fun hb => ?_) (fun hb => ?_) <;> have h := hb <;> (try simp only [wf_preprocess] at h) <;> simp -implicitDefEqProofs (disch := omega) only [go_sem, hb] <;> (repeat (with_reducible refine And.intro ?_ ?_; focus first | omega | rfl | assumption | exact ⟨_, rfl, rfl⟩ | (simp; omega) | (simp; done))))
    all_goals try (with_reducible refine split2 (fun hb => ?_) (fun hb => ?_) <;> have h := hb <;> (try simp only [wf_preprocess] at h) <;> simp -implicitDefEqProofs (disch := omega) only [go_sem, hb] <;> (repeat (with_reducible refine And.intro ?_ ?_; focus first | omega | rfl | assumption | exact ⟨_, rfl, rfl⟩ | (simp; omega) | (simp; done))))
    all_goals first
      | exact inv_at (i + 1) (by omega) rfl rfl ⟨by omega, next (by omega)⟩
      | exact bool_eq (bad' (by omega)).symm
  · rw [show validName s = true from dec_true ⟨by omega, hres, fun j hj => p2 j (by omega)⟩]
theorem l4Base_ok (s : List UInt8) : PCall Tryz.prog 122 [.c (.d (.s s))] (.c (.d (.b (builtInB s)))) := fun S => by
  refine acall_cw (rs := [.tmp 2]) Tryz.checked.mixed Tryz.func122 Tryz.ntmps122 rfl rfl rfl rfl rfl ?_
  simp -implicitDefEqProofs (disch := omega) only [go_sem]
  with_reducible refine split2 (fun hb => ?_) (fun hb => ?_) <;> have h := hb <;> (try simp only [wf_preprocess] at h) <;> simp -implicitDefEqProofs (disch := omega) only [go_sem, hb] <;> (repeat (with_reducible refine And.intro ?_ ?_; focus first | omega | rfl | assumption | exact ⟨_, rfl, rfl⟩ | (simp; omega) | (simp; done)))
  · exact bool_eq (dec_true (.inl h)).symm
  · exact bool_eq (by rw [decide_dec]; exact dec_congr ⟨fun x => .inr x, fun x => x.resolve_left h⟩)
theorem isBuiltIn_ok (s : List UInt8) : PCall Tryz.prog 118 [.c (.d (.s s))] (.c (.d (.b (builtInB s)))) := fun S => by
  refine acall_cw (rs := [.tmp 2]) Tryz.checked.mixed Tryz.func118 Tryz.ntmps118 rfl rfl rfl rfl rfl ?_
  simp -implicitDefEqProofs (disch := omega) only [go_sem]
  with_reducible refine split2 (fun hb => ?_) (fun hb => ?_) <;> have h := hb <;> (try simp only [wf_preprocess] at h) <;> simp -implicitDefEqProofs (disch := omega) only [go_sem, hb] <;> (repeat (with_reducible refine And.intro ?_ ?_; focus first | omega | rfl | assumption | exact ⟨_, rfl, rfl⟩ | (simp; omega) | (simp; done)))
  · exact bool_eq (dec_true (.inl h)).symm
  · exact bool_eq (by rw [decide_dec]; exact dec_congr ⟨fun x => .inr x, fun x => x.resolve_left h⟩)
end Go.Proofs.YtnceiannponbjaaGreat

namespace Go.Proofs.YtnceiannponbjaaGreat
open Go Go.Ab
theorem arg_sz {x : MType} {i : Nat} (hi : i < x.fArgs.length) (h : x.sz ≤ 4194304) : x.fArgs[i].sz ≤ 4194304 ∧ x.fArgs.length ≤ 4194304 ∧ x.fName.length ≤ 4194304 := by
  have hx : x.fArgs[i].sz ≤ szRows (x.fArgs.map MType.enc) := szRows_mem (List.mem_map_of_mem (List.getElem_mem hi))
  simp only [MType.sz, MType.enc_eq, szRow, D.sz, List.length_map] at h
  omega
theorem ty_sz {x : MType} (h : x.sz ≤ 4194304) : x.fArgs.length ≤ 4194304 ∧ x.fName.length ≤ 4194304 := by
  simp only [MType.sz, MType.enc_eq, szRow, D.sz, List.length_map] at h
  omega
theorem cnts_drop : ∀ {ts : List MType} {i : Nat} (hi : i < ts.length), MType.cnts (ts.drop i) = ts[i].cnt + MType.cnts (ts.drop (i + 1)) := fun {ts} {i} hi => by
  rw [List.drop_eq_getElem_cons hi, MType.cnts]
theorem depths_drop : ∀ {ts : List MType} {i : Nat} (hi : i < ts.length), depths (ts.drop i) = max (depthT ts[i] + 1) (depths (ts.drop (i + 1))) := fun {ts} {i} hi => by
  rw [List.drop_eq_getElem_cons hi, depths]
theorem formeds_drop : ∀ {ts : List MType} {i : Nat} (hi : i < ts.length), formeds (ts.drop i) = (formed ts[i] && formeds (ts.drop (i + 1))) := fun {ts} {i} hi => by
  rw [List.drop_eq_getElem_cons hi, formeds]
theorem l4Left_all : ∀ n : Nat, ∀ x : MType, SizeOf.sizeOf x < n → ∀ l : Int, 0 ≤ l → l ≤ 1073741824 → x.sz ≤ 4194304 → PCall Tryz.prog 110 [x.v, .c (.d (.i .i64 l))] (.c (.d (.i .i64 (sub1 l x.cnt))))
  | 0 => fun x h => by omega
  | n + 1 => by
    have ih := l4Left_all n
    intro x hn l h0 h1 hsz S
    have lArgs := MType.lt_Args x
    have hts := ty_sz hsz
    have hcn := MType.cnt_eq x
    refine acall_cw (rs := [.tmp 4]) Tryz.checked.mixed Tryz.func110 Tryz.ntmps110 rfl rfl rfl rfl rfl ?_
    simp -implicitDefEqProofs (disch := omega) only [go_sem]
    refine loop_at (ι := Nat × Int) Tryz.checked.mixed rfl [1, 2, 5] (fun y => [.c (.d (.i .i64 y.2)), .c (.ptr (0, 0) 0), .c (.d (.i .i64 y.1))]) (fun y => [.box [.d (.i .i64 x.fKind), .d (.s x.fName), .d (.sl (x.fArgs.map MType.enc))]] :: S)
      (fun y => y.1 ≤ x.fArgs.length ∧ -1 ≤ y.2 ∧ y.2 ≤ 1073741824 ∧ (0 ≤ y.2 → sub1 l x.cnt = sub1 y.2 (MType.cnts (x.fArgs.drop y.1))) ∧ (y.2 < 0 → sub1 l x.cnt = -1)) (fun y => x.fArgs.length - y.1) (0, l - 1) rfl rfl ⟨Nat.zero_le _, by simp only; omega, by simp only; omega, fun h => ?_, fun h => ?_⟩ ?_
    · simp only [List.drop_zero] at h ⊢
      unfold sub1
      rw [hcn]
      split <;> split <;> omega
    · simp only at h
      exact sub1_no (by omega)
    rintro ⟨i, c⟩ ⟨p1, p2, p3, p4, p5⟩
    simp only at p1 p2 p3 p4 p5
    simp -implicitDefEqProofs (disch := omega) only [go_sem]
    with_reducible refine split2 (fun hb => ?_) (fun hb => ?_) <;> have h := hb <;> (try simp only [wf_preprocess] at h) <;> simp -implicitDefEqProofs (disch := omega) only [go_sem, hb] <;> (repeat (with_reducible refine And.intro ?_ ?_; focus first | omega | rfl | assumption | exact ⟨_, rfl, rfl⟩ | (simp; omega) | (simp; done)))
    · have hi : i < x.fArgs.length := by omega
      with_reducible refine split2 (fun hb => ?_) (fun hb => ?_) <;> have h := hb <;> (try simp only [wf_preprocess] at h) <;> simp -implicitDefEqProofs (disch := omega) only [go_sem, hb] <;> (repeat (with_reducible refine And.intro ?_ ?_; focus first | omega | rfl | assumption | exact ⟨_, rfl, rfl⟩ | (simp; omega) | (simp; done)))
      · have hsz' := arg_sz hi hsz
        have p6 := p4 h
        rw [cnts_drop hi] at p6
        (repeat (with_reducible refine And.intro ?_ ?_; focus first | omega | rfl | assumption | exact ⟨_, rfl, rfl⟩ | (simp; omega) | (simp; done)))
        refine call_w (ih x.fArgs[i] (by have := List.sizeOf_lt_of_mem (List.getElem_mem hi); omega) c (by omega) (by omega) (by omega)) ?_
        simp -implicitDefEqProofs (disch := omega) only [go_sem] <;> (repeat (with_reducible refine And.intro ?_ ?_; focus first | omega | rfl | assumption | exact ⟨_, rfl, rfl⟩ | (simp; omega) | (simp; done)))
        refine inv_at (i + 1, sub1 c _) (by simp only; omega) rfl rfl ⟨by simp only; omega, ?_, ?_, fun h => ?_, fun h => ?_⟩
        · simp only; unfold sub1; split <;> omega
        · simp only; unfold sub1; split <;> omega
        · simp only at h ⊢
          rw [p6]
          have := sub1_nn (l := c) (a := x.fArgs[i].cnt) (by omega)
          rw [this.1]
          unfold sub1
          split <;> split <;> omega
        · simp only at h ⊢
          rw [p6]
          have := sub1_neg h
          exact sub1_no (by omega)
      · have hc : c = -1 := by omega
        rw [p5 (by omega), hc]
    · have hi : i = x.fArgs.length := by omega
      by_cases hc : 0 ≤ c
      · rw [p4 hc, hi, List.drop_length, MType.cnts, sub1_yes (by omega)]
        exact int_eq (by simp)
      · rw [p5 (by omega)]
        exact int_eq (by omega)
theorem l4Left_ok (x : MType) (l : Int) (h0 : 0 ≤ l) (h1 : l ≤ 1073741824) (hsz : x.sz ≤ 4194304) : PCall Tryz.prog 110 [x.v, .c (.d (.i .i64 l))] (.c (.d (.i .i64 (sub1 l x.cnt)))) := l4Left_all _ x (Nat.lt_succ_self _) l h0 h1 hsz
theorem l1Max_ok (a b : Int) : PCall Tryz.prog 98 [.c (.d (.i .i64 a)), .c (.d (.i .i64 b))] (.c (.d (.i .i64 (max a b)))) := fun S => by
  refine acall_cw (rs := [.tmp 4]) Tryz.checked.mixed Tryz.func98 Tryz.ntmps98 rfl rfl rfl rfl rfl ?_
  simp -implicitDefEqProofs (disch := omega) only [go_sem]
  with_reducible refine split2 (fun hb => ?_) (fun hb => ?_) <;> have h := hb <;> (try simp only [wf_preprocess] at h) <;> simp -implicitDefEqProofs (disch := omega) only [go_sem, hb] <;> (repeat (with_reducible refine And.intro ?_ ?_; focus first | omega | rfl | assumption | exact ⟨_, rfl, rfl⟩ | (simp; omega) | (simp; done)))
  · exact int_eq (by omega)
  · exact int_eq (by omega)
theorem specDepth_all : ∀ n : Nat, ∀ x : MType, SizeOf.sizeOf x < n → x.sz ≤ 4194304 → PCall Tryz.prog 111 [x.v] (.c (.d (.i .i64 (depthT x))))
  | 0 => fun x h => by omega
  | n + 1 => by
    have ih := specDepth_all n
    intro x hn hsz S
    have lArgs := MType.lt_Args x
    have hts := ty_sz hsz
    have hd1 := depthT_le x
    have hd2 := cnt_le x
    refine acall_cw (rs := [.tmp 2]) Tryz.checked.mixed Tryz.func111 Tryz.ntmps111 rfl rfl rfl rfl rfl ?_
    simp -implicitDefEqProofs (disch := omega) only [go_sem]
    refine loop_at (ι := Nat × Nat) Tryz.checked.mixed rfl [1, 3, 4] (fun y => [.c (.ptr (0, 0) 0), .c (.d (.i .i64 y.2)), .c (.d (.i .i64 y.1))]) (fun y => [.box [.d (.i .i64 x.fKind), .d (.s x.fName), .d (.sl (x.fArgs.map MType.enc))]] :: S)
      (fun y => y.1 ≤ x.fArgs.length ∧ depthT x = max y.2 (depths (x.fArgs.drop y.1))) (fun y => x.fArgs.length - y.1) (0, 0) rfl rfl ⟨Nat.zero_le _, by simp [depthT_eq]⟩ ?_
    rintro ⟨i, c⟩ ⟨p1, p2⟩
    simp only at p1 p2
    simp -implicitDefEqProofs (disch := omega) only [go_sem]
    with_reducible refine split2 (fun hb => ?_) (fun hb => ?_) <;> have h := hb <;> (try simp only [wf_preprocess] at h) <;> simp -implicitDefEqProofs (disch := omega) only [go_sem, hb] <;> (repeat (with_reducible refine And.intro ?_ ?_; focus first | omega | rfl | assumption | exact ⟨_, rfl, rfl⟩ | (simp; omega) | (simp; done)))
    · have hi : i < x.fArgs.length := by omega
      have hsz' := arg_sz hi hsz
      rw [depths_drop hi] at p2
      have hd3 := depthT_le x.fArgs[i]
      have hd4 := cnt_le x.fArgs[i]
      (repeat (with_reducible refine And.intro ?_ ?_; focus first | omega | rfl | assumption | exact ⟨_, rfl, rfl⟩ | (simp; omega) | (simp; done)))
      refine call_w (ih x.fArgs[i] (by have := List.sizeOf_lt_of_mem (List.getElem_mem hi); omega) (by omega)) ?_
      simp -implicitDefEqProofs (disch := omega) only [go_sem] <;> (repeat (with_reducible refine And.intro ?_ ?_; focus first | omega | rfl | assumption | exact ⟨_, rfl, rfl⟩ | (simp; omega) | (simp; done)))
      refine call_w (l1Max_ok _ _) ?_
      simp -implicitDefEqProofs (disch := omega) only [go_sem] <;> (repeat (with_reducible refine And.intro ?_ ?_; focus first | omega | rfl | assumption | exact ⟨_, rfl, rfl⟩ | (simp; omega) | (simp; done)))
      rw [show max (c : Int) (1 + (depthT x.fArgs[i] : Int)) = ((max c (1 + depthT x.fArgs[i]) : Nat) : Int) by omega]
      exact inv_at (i + 1, max c (1 + depthT x.fArgs[i])) (by simp only; omega) rfl rfl ⟨by simp only; omega, by simp only; omega⟩
    · have hi : i = x.fArgs.length := by omega
      rw [hi, List.drop_length, depths] at p2
      exact int_eq (by omega)
theorem specDepth_ok (x : MType) (hsz : x.sz ≤ 4194304) : PCall Tryz.prog 111 [x.v] (.c (.d (.i .i64 (depthT x)))) := specDepth_all _ x (Nat.lt_succ_self _) hsz
theorem implDepth_all : ∀ n : Nat, ∀ x : MType, SizeOf.sizeOf x < n → x.sz ≤ 4194304 → PCall Tryz.prog 105 [x.v] (.c (.d (.i .i64 (depthT x))))
  | 0 => fun x h => by omega
  | n + 1 => by
    have ih := implDepth_all n
    intro x hn hsz S
    have lArgs := MType.lt_Args x
    have hts := ty_sz hsz
    have hd1 := depthT_le x
    have hd2 := cnt_le x
    refine acall_cw (rs := [.tmp 2]) Tryz.checked.mixed Tryz.func105 Tryz.ntmps105 rfl rfl rfl rfl rfl ?_
    simp -implicitDefEqProofs (disch := omega) only [go_sem]
    refine loop_at (ι := Nat × Nat) Tryz.checked.mixed rfl [3, 7, 8, 9] (fun y => [.c (.d (.i .i64 y.2)), .c (.d (.sl (x.fArgs.map MType.enc))), .c (.d (.i .i64 x.fArgs.length)), .c (.d (.i .i64 y.1))]) (fun y => [.box [.d (.i .i64 x.fKind), .d (.s x.fName), .d (.sl (x.fArgs.map MType.enc))]] :: S)
      (fun y => y.1 ≤ x.fArgs.length ∧ depthT x = max y.2 (depths (x.fArgs.drop y.1))) (fun y => x.fArgs.length - y.1) (0, 0) rfl rfl ⟨Nat.zero_le _, by simp [depthT_eq]⟩ ?_
    rintro ⟨i, c⟩ ⟨p1, p2⟩
    simp only at p1 p2
    simp -implicitDefEqProofs (disch := omega) only [go_sem]
    with_reducible refine split2 (fun hb => ?_) (fun hb => ?_) <;> have h := hb <;> (try simp only [wf_preprocess] at h) <;> simp -implicitDefEqProofs (disch := omega) only [go_sem, hb] <;> (repeat (with_reducible refine And.intro ?_ ?_; focus first | omega | rfl | assumption | exact ⟨_, rfl, rfl⟩ | (simp; omega) | (simp; done)))
    · have hi : i < x.fArgs.length := by omega
      have hsz' := arg_sz hi hsz
      rw [depths_drop hi] at p2
      have hd3 := depthT_le x.fArgs[i]
      have hd4 := cnt_le x.fArgs[i]
      (repeat (with_reducible refine And.intro ?_ ?_; focus first | omega | rfl | assumption | exact ⟨_, rfl, rfl⟩ | (simp; omega) | (simp; done)))
      refine call_w (ih x.fArgs[i] (by have := List.sizeOf_lt_of_mem (List.getElem_mem hi); omega) (by omega)) ?_
      simp -implicitDefEqProofs (disch := omega) only [go_sem] <;> (repeat (with_reducible refine And.intro ?_ ?_; focus first | omega | rfl | assumption | exact ⟨_, rfl, rfl⟩ | (simp; omega) | (simp; done)))
      rw [show max (c : Int) ((depthT x.fArgs[i] : Int) + 1) = ((max c (depthT x.fArgs[i] + 1) : Nat) : Int) by omega]
      exact inv_drop 1 (by decide) (i + 1, max c (depthT x.fArgs[i] + 1)) (by simp only; omega) rfl rfl rfl rfl ⟨by simp only; omega, by simp only; omega⟩
    · have hi : i = x.fArgs.length := by omega
      rw [hi, List.drop_length, depths] at p2
      exact int_eq (by omega)
theorem implDepth_ok (x : MType) (hsz : x.sz ≤ 4194304) : PCall Tryz.prog 105 [x.v] (.c (.d (.i .i64 (depthT x)))) := implDepth_all _ x (Nat.lt_succ_self _) hsz
theorem typeSize_all : ∀ n : Nat, ∀ x : MType, SizeOf.sizeOf x < n → x.sz ≤ 4194304 → PCall Tryz.prog 106 [x.v] (.c (.d (.i .i64 x.cnt)))
  | 0 => fun x h => by omega
  | n + 1 => by
    have ih := typeSize_all n
    intro x hn hsz S
    have lArgs := MType.lt_Args x
    have hts := ty_sz hsz
    have hd2 := cnt_le x
    refine acall_cw (rs := [.tmp 2]) Tryz.checked.mixed Tryz.func106 Tryz.ntmps106 rfl rfl rfl rfl rfl ?_
    simp -implicitDefEqProofs (disch := omega) only [go_sem]
    refine loop_at (ι := Nat × Nat) Tryz.checked.mixed rfl [3, 7, 8, 9] (fun y => [.c (.d (.i .i64 y.2)), .c (.d (.sl (x.fArgs.map MType.enc))), .c (.d (.i .i64 x.fArgs.length)), .c (.d (.i .i64 y.1))]) (fun y => [.box [.d (.i .i64 x.fKind), .d (.s x.fName), .d (.sl (x.fArgs.map MType.enc))]] :: S)
      (fun y => y.1 ≤ x.fArgs.length ∧ x.cnt = y.2 + MType.cnts (x.fArgs.drop y.1)) (fun y => x.fArgs.length - y.1) (0, 1) rfl rfl ⟨Nat.zero_le _, by simp [MType.cnt_eq]⟩ ?_
    rintro ⟨i, c⟩ ⟨p1, p2⟩
    simp only at p1 p2
    simp -implicitDefEqProofs (disch := omega) only [go_sem]
    with_reducible refine split2 (fun hb => ?_) (fun hb => ?_) <;> have h := hb <;> (try simp only [wf_preprocess] at h) <;> simp -implicitDefEqProofs (disch := omega) only [go_sem, hb] <;> (repeat (with_reducible refine And.intro ?_ ?_; focus first | omega | rfl | assumption | exact ⟨_, rfl, rfl⟩ | (simp; omega) | (simp; done)))
    · have hi : i < x.fArgs.length := by omega
      have hsz' := arg_sz hi hsz
      rw [cnts_drop hi] at p2
      (repeat (with_reducible refine And.intro ?_ ?_; focus first | omega | rfl | assumption | exact ⟨_, rfl, rfl⟩ | (simp; omega) | (simp; done)))
      refine call_w (ih x.fArgs[i] (by have := List.sizeOf_lt_of_mem (List.getElem_mem hi); omega) (by omega)) ?_
      simp -implicitDefEqProofs (disch := omega) only [go_sem] <;> (repeat (with_reducible refine And.intro ?_ ?_; focus first | omega | rfl | assumption | exact ⟨_, rfl, rfl⟩ | (simp; omega) | (simp; done)))
      rw [show (c : Int) + (x.fArgs[i].cnt : Int) = ((c + x.fArgs[i].cnt : Nat) : Int) by omega]
      exact inv_drop 1 (by decide) (i + 1, c + x.fArgs[i].cnt) (by simp only; omega) rfl rfl rfl rfl ⟨by simp only; omega, by simp only; omega⟩
    · have hi : i = x.fArgs.length := by omega
      rw [hi, List.drop_length, MType.cnts] at p2
      exact int_eq (by omega)
theorem typeSize_ok (x : MType) (hsz : x.sz ≤ 4194304) : PCall Tryz.prog 106 [x.v] (.c (.d (.i .i64 x.cnt))) := typeSize_all _ x (Nat.lt_succ_self _) hsz
theorem isFormed_all : ∀ n : Nat, (∀ x : MType, SizeOf.sizeOf x < n → x.sz ≤ 4194304 → PCall Tryz.prog 104 [x.v] (.c (.d (.b (formed x))))) ∧
    (∀ xs : List MType, SizeOf.sizeOf xs < n → xs.length ≤ 4194304 → (∀ t ∈ xs, t.sz ≤ 4194304) → PCall Tryz.prog 57 [.c (.d (.sl (xs.map MType.enc))), .c (.fn 119 [])] (.c (.d (.b (!formeds xs)))))
  | 0 => ⟨fun x h => by omega, fun x h => by omega⟩
  | n + 1 => by
    obtain ⟨ih, ihS⟩ := isFormed_all n
    refine ⟨fun x hn hsz S => ?_, fun xs hn hlen hsz S => ?_⟩
    · have lArgs := MType.lt_Args x
      have hts := ty_sz hsz
      have fin : ∀ b, fineT x.fKind x.fName x.fArgs.length = b → formed x = (b && formeds x.fArgs) := fun b hb => by rw [← hb]; exact formed_eq x
      have hall : ∀ t ∈ x.fArgs, t.sz ≤ 4194304 := fun t ht => by
        obtain ⟨i, hi, e⟩ := List.getElem_of_mem ht
        rw [← e]; exact (arg_sz hi hsz).1
      have tail := ihS x.fArgs (by omega) hts.1 hall
      have yes : fineT x.fKind x.fName x.fArgs.length = true → formed x = !(!formeds x.fArgs) := fun h => by rw [fin _ h]; simp
      have no : fineT x.fKind x.fName x.fArgs.length = false → formed x = false := fun h => by rw [fin _ h]; simp
      have shut : ¬ ((x.fKind = 1 ∨ x.fKind = 4) ∧ validName x.fName = true ∧ x.fArgs.length = 0 ∨ x.fKind = 3 ∧ validName x.fName = true ∧ x.fArgs.length = 1 ∨ x.fKind = 2 ∧ (validName x.fName = true ∧ x.fArgs.length ≤ 3 ∨ builtInB x.fName = true ∧ x.fArgs.length = 0)) → V.c (.d (.b false)) = V.c (.d (.b (formed x))) := fun h => bool_eq (no (dec_false h)).symm
      have open_ : ((x.fKind = 1 ∨ x.fKind = 4) ∧ validName x.fName = true ∧ x.fArgs.length = 0 ∨ x.fKind = 3 ∧ validName x.fName = true ∧ x.fArgs.length = 1 ∨ x.fKind = 2 ∧ (validName x.fName = true ∧ x.fArgs.length ≤ 3 ∨ builtInB x.fName = true ∧ x.fArgs.length = 0)) → V.c (.d (.b (!(!formeds x.fArgs)))) = V.c (.d (.b (formed x))) := fun h => bool_eq (yes (dec_true h)).symm
      clear yes no fin
      refine acall_cw (rs := [.tmp 2]) Tryz.checked.mixed Tryz.func104 Tryz.ntmps104 rfl rfl rfl rfl rfl ?_
      simp -implicitDefEqProofs (disch := omega) only [go_sem]
      repeat' (first
        | (with_reducible refine split2 (fun hb => ?_) (fun hb => ?_) <;> have h := hb <;> (try simp only [wf_preprocess] at h) <;> simp -implicitDefEqProofs (disch := omega) only [go_sem, hb] <;> (repeat (with_reducible refine And.intro ?_ ?_; focus first | omega | rfl | assumption | exact ⟨_, rfl, rfl⟩ | (simp; omega) | (simp; done))))
        | (refine call_w (implValidName_ok x.fName (by omega)) ?_; simp -implicitDefEqProofs (disch := omega) only [go_sem])
        | (refine call_w (isBuiltIn_ok x.fName) ?_; simp -implicitDefEqProofs (disch := omega) only [go_sem])
        | (refine call_w tail ?_; simp -implicitDefEqProofs (disch := omega) only [go_sem]))
      all_goals first
        | (refine shut (fun y => ?_); rcases y with ⟨_, _, _⟩ | ⟨_, _, _⟩ | ⟨_, ⟨_, _⟩ | ⟨_, _⟩⟩ <;> first | omega | (simp_all; done))
        | (refine open_ ?_; first
            | exact .inl ⟨by omega, by assumption, by omega⟩
            | exact .inr (.inl ⟨by omega, by assumption, by omega⟩)
            | exact .inr (.inr ⟨by omega, .inl ⟨by assumption, by omega⟩⟩)
            | exact .inr (.inr ⟨by omega, .inr ⟨by assumption, by omega⟩⟩))
    · have hcl : ∀ y ∈ xs, PCall Tryz.prog 119 [y.v] (.c (.d (.b (!formed y)))) := fun y hy S => by
        have hys := List.sizeOf_lt_of_mem hy
        refine acall_cw (rs := [.tmp 2]) Tryz.checked.mixed Tryz.func119 Tryz.ntmps119 rfl rfl rfl rfl rfl ?_
        simp -implicitDefEqProofs (disch := omega) only [go_sem]
        refine call_w (ih y (by omega) (hsz y hy)) ?_
        simp -implicitDefEqProofs (disch := omega) only [go_sem] <;> (repeat (with_reducible refine And.intro ?_ ?_; focus first | omega | rfl | assumption | exact ⟨_, rfl, rfl⟩ | (simp; omega) | (simp; done)))
      have hidx : PCall Tryz.prog 87 [.c (.d (.sl (xs.map MType.enc))), .c (.fn 119 [])] (.c (.d (.i .i64 (indexP (fun y => !formed y) xs)))) := fun S => by
        refine acall_cw (rs := [.tmp 4]) Tryz.checked.mixed Tryz.func87 Tryz.ntmps87 rfl rfl rfl rfl rfl ?_
        simp -implicitDefEqProofs (disch := omega) only [go_sem]
        refine loop_at (ι := Nat) Tryz.checked.mixed rfl [0, 1, 7, 8] (fun i => [.c (.d (.sl (xs.map MType.enc))), .c (.fn 119 []), .c (.d (.i .i64 xs.length)), .c (.d (.i .i64 i))]) (fun _ => [] :: S)
          (fun i => i ≤ xs.length ∧ ∀ j, ∀ hj : j < xs.length, j < i → formed xs[j] = true) (fun i => xs.length - i) 0 rfl rfl ⟨Nat.zero_le _, fun j _ h => by omega⟩ ?_
        rintro i ⟨p1, p2⟩
        simp -implicitDefEqProofs (disch := omega) only [go_sem]
        with_reducible refine split2 (fun hb => ?_) (fun hb => ?_) <;> have h := hb <;> (try simp only [wf_preprocess] at h) <;> simp -implicitDefEqProofs (disch := omega) only [go_sem, hb] <;> (repeat (with_reducible refine And.intro ?_ ?_; focus first | omega | rfl | assumption | exact ⟨_, rfl, rfl⟩ | (simp; omega) | (simp; done)))
        · have hi : i < xs.length := by omega
          (repeat (with_reducible refine And.intro ?_ ?_; focus first | omega | rfl | assumption | exact ⟨_, rfl, rfl⟩ | (simp; omega) | (simp; done)))
          refine call_w (hcl xs[i] (List.getElem_mem hi)) ?_
          simp -implicitDefEqProofs (disch := omega) only [go_sem] <;> (repeat (with_reducible refine And.intro ?_ ?_; focus first | omega | rfl | assumption | exact ⟨_, rfl, rfl⟩ | (simp; omega) | (simp; done)))
          with_reducible refine split2 (fun hb => ?_) (fun hb => ?_) <;> have h := hb <;> (try simp only [wf_preprocess] at h) <;> simp -implicitDefEqProofs (disch := omega) only [go_sem, hb] <;> (repeat (with_reducible refine And.intro ?_ ?_; focus first | omega | rfl | assumption | exact ⟨_, rfl, rfl⟩ | (simp; omega) | (simp; done)))
          · rw [indexP_here hi (fun j hj hji => by rw [p2 j hj hji]; rfl) (by rw [h]; rfl)]
          · refine inv_at (i + 1) (by omega) rfl rfl ⟨by omega, fun j hj hji => ?_⟩
            by_cases e : j = i
            · subst e; exact h
            · exact p2 j hj (by omega)
        · rw [indexP_no (fun j hj => by rw [p2 j hj (by omega)]; rfl)]
      refine acall_cw (rs := [.tmp 4]) Tryz.checked.mixed Tryz.func57 Tryz.ntmps57 rfl rfl rfl rfl rfl ?_
      simp -implicitDefEqProofs (disch := omega) only [go_sem]
      refine call_w (hidx) ?_
      simp -implicitDefEqProofs (disch := omega) only [go_sem] <;> (repeat (with_reducible refine And.intro ?_ ?_; focus first | omega | rfl | assumption | exact ⟨_, rfl, rfl⟩ | (simp; omega) | (simp; done)))
      rw [← formeds_any]
      exact bool_eq indexP_pos
theorem isFormed_ok (x : MType) (hsz : x.sz ≤ 4194304) : PCall Tryz.prog 104 [x.v] (.c (.d (.b (formed x)))) := (isFormed_all _).1 x (Nat.lt_succ_self _) hsz
theorem implValidType_ok (x : MType) (hsz : x.sz ≤ 4194304) : PCall Tryz.prog 88 [x.v] (.c (.d (.b (validType x)))) := fun S => by
  refine acall_cw (rs := [.tmp 2]) Tryz.checked.mixed Tryz.func88 Tryz.ntmps88 rfl rfl rfl rfl rfl ?_
  simp -implicitDefEqProofs (disch := omega) only [go_sem]
  refine call_w (isFormed_ok x hsz) ?_
  simp -implicitDefEqProofs (disch := omega) only [go_sem] <;> (repeat (with_reducible refine And.intro ?_ ?_; focus first | omega | rfl | assumption | exact ⟨_, rfl, rfl⟩ | (simp; omega) | (simp; done)))
  with_reducible refine split2 (fun hb => ?_) (fun hb => ?_) <;> have h := hb <;> (try simp only [wf_preprocess] at h) <;> simp -implicitDefEqProofs (disch := omega) only [go_sem, hb] <;> (repeat (with_reducible refine And.intro ?_ ?_; focus first | omega | rfl | assumption | exact ⟨_, rfl, rfl⟩ | (simp; omega) | (simp; done)))
  · have h1 := h
    refine call_w (implDepth_ok x hsz) ?_
    simp -implicitDefEqProofs (disch := omega) only [go_sem] <;> (repeat (with_reducible refine And.intro ?_ ?_; focus first | omega | rfl | assumption | exact ⟨_, rfl, rfl⟩ | (simp; omega) | (simp; done)))
    with_reducible refine split2 (fun hb => ?_) (fun hb => ?_) <;> have h := hb <;> (try simp only [wf_preprocess] at h) <;> simp -implicitDefEqProofs (disch := omega) only [go_sem, hb] <;> (repeat (with_reducible refine And.intro ?_ ?_; focus first | omega | rfl | assumption | exact ⟨_, rfl, rfl⟩ | (simp; omega) | (simp; done)))
    · refine call_w (typeSize_ok x hsz) ?_
      simp -implicitDefEqProofs (disch := omega) only [go_sem] <;> (repeat (with_reducible refine And.intro ?_ ?_; focus first | omega | rfl | assumption | exact ⟨_, rfl, rfl⟩ | (simp; omega) | (simp; done)))
      exact bool_eq (by rw [decide_dec]; exact dec_congr ⟨fun y => ⟨h1, by omega, by omega⟩, fun y => by have := y.2.2; omega⟩)
    · exact bool_eq (dec_false fun y => by have := y.2.1; omega).symm
  · exact bool_eq (dec_false fun y => by rw [y.1] at h; cases h).symm
set_option maxHeartbeats 1000000 in
theorem l4Form_all : ∀ n : Nat, ∀ x : MType, SizeOf.sizeOf x < n → x.sz ≤ 4194304 → PCall Tryz.prog 112 [x.v] (.c (.d (.b (formed x))))
  | 0 => fun x h => by omega
  | n + 1 => by
    have ih := l4Form_all n
    intro x hn hsz S
    have lArgs := MType.lt_Args x
    have hts := ty_sz hsz
    have shut : ¬ ((x.fKind = 1 ∨ x.fKind = 4) ∧ validName x.fName = true ∧ x.fArgs.length = 0 ∨ x.fKind = 3 ∧ validName x.fName = true ∧ x.fArgs.length = 1 ∨ x.fKind = 2 ∧ (validName x.fName = true ∧ x.fArgs.length ≤ 3 ∨ builtInB x.fName = true ∧ x.fArgs.length = 0)) → V.c (.d (.b false)) = V.c (.d (.b (formed x))) := fun h => bool_eq (by rw [formed_eq, show fineT x.fKind x.fName x.fArgs.length = false from dec_false h]; rfl)
    have fine0 : ∀ b : Bool, (b = true ↔ ((x.fKind = 1 ∨ x.fKind = 4) ∧ validName x.fName = true ∧ x.fArgs.length = 0 ∨ x.fKind = 3 ∧ validName x.fName = true ∧ x.fArgs.length = 1 ∨ x.fKind = 2 ∧ (validName x.fName = true ∧ x.fArgs.length ≤ 3 ∨ builtInB x.fName = true ∧ x.fArgs.length = 0))) → b = fineT x.fKind x.fName x.fArgs.length := fun b h => by
      rw [Bool.eq_iff_iff, h]
      unfold fineT
      rw [dec_eq_true]
    refine acall_cw (rs := [.tmp 2]) Tryz.checked.mixed Tryz.func112 Tryz.ntmps112 rfl rfl rfl rfl rfl ?_
    simp -implicitDefEqProofs (disch := omega) only [go_sem]
    refine call_w (specValidName_ok x.fName (by omega)) ?_
    simp -implicitDefEqProofs (disch := omega) only [go_sem] <;> (repeat (with_reducible refine And.intro ?_ ?_; focus first | omega | rfl | assumption | exact ⟨_, rfl, rfl⟩ | (simp; omega) | (simp; done)))
    repeat' (first
      | (with_reducible refine split2 (fun hb => ?_) (fun hb => ?_) <;> have h := hb <;> (try simp only [wf_preprocess] at h) <;> simp -implicitDefEqProofs (disch := omega) only [go_sem, hb] <;> (repeat (with_reducible refine And.intro ?_ ?_; focus first | omega | rfl | assumption | exact ⟨_, rfl, rfl⟩ | (simp; omega) | (simp; done))))
      | (refine call_w (l4Base_ok x.fName) ?_; simp -implicitDefEqProofs (disch := omega) only [go_sem]))
    all_goals first
      | (refine shut (fun y => ?_); rcases y with ⟨_, _, _⟩ | ⟨_, _, _⟩ | ⟨_, ⟨_, _⟩ | ⟨_, _⟩⟩ <;> first | omega | (simp_all; done))
      | skip
    all_goals
      refine loop_at (ι := Nat × Bool) Tryz.checked.mixed rfl [1, 3, 4] (fun y => [.c (.ptr (0, 0) 0), .c (.d (.b y.2)), .c (.d (.i .i64 y.1))]) (fun y => [.box [.d (.i .i64 x.fKind), .d (.s x.fName), .d (.sl (x.fArgs.map MType.enc))]] :: S)
        (fun y => y.1 ≤ x.fArgs.length ∧ (y.2 && formeds (x.fArgs.drop y.1)) = formed x) (fun y => x.fArgs.length - y.1) (0, fineT x.fKind x.fName x.fArgs.length) ?_ rfl ⟨Nat.zero_le _, by rw [formed_eq]; rfl⟩ ?_
      · simp only [List.map_cons, List.map_nil]
        simp -implicitDefEqProofs (disch := omega) only [go_sem, List.cons.injEq, V.c.injEq, C.d.injEq, D.b.injEq, Int.natCast_zero]
        refine fine0 _ ⟨fun y => ?_, fun y => ?_⟩
        · (try simp only [decide_eq_true_eq, Bool.false_eq_true] at y) <;> first
            | exact .inl ⟨by omega, by assumption, by omega⟩
            | exact .inr (.inl ⟨by omega, by assumption, by omega⟩)
            | exact .inr (.inr ⟨by omega, .inl ⟨by assumption, by omega⟩⟩)
            | exact .inr (.inr ⟨by omega, .inr ⟨by assumption, by omega⟩⟩)
        · rcases y with ⟨_, _, _⟩ | ⟨_, _, _⟩ | ⟨_, ⟨_, _⟩ | ⟨_, _⟩⟩ <;> first | omega | (simp only [decide_eq_true_eq]; omega) | (simp_all; done)
      rintro ⟨i, c⟩ ⟨p1, p2⟩
      simp only at p1 p2
      simp -implicitDefEqProofs (disch := omega) only [go_sem]
      with_reducible refine split2 (fun hb => ?_) (fun hb => ?_) <;> have h := hb <;> (try simp only [wf_preprocess] at h) <;> simp -implicitDefEqProofs (disch := omega) only [go_sem, hb] <;> (repeat (with_reducible refine And.intro ?_ ?_; focus first | omega | rfl | assumption | exact ⟨_, rfl, rfl⟩ | (simp; omega) | (simp; done)))
      · have hi : i < x.fArgs.length := by omega
        have hsz' := arg_sz hi hsz
        rw [formeds_drop hi] at p2
        with_reducible refine split2 (fun hb => ?_) (fun hb => ?_) <;> have h := hb <;> (try simp only [wf_preprocess] at h) <;> simp -implicitDefEqProofs (disch := omega) only [go_sem, hb] <;> (repeat (with_reducible refine And.intro ?_ ?_; focus first | omega | rfl | assumption | exact ⟨_, rfl, rfl⟩ | (simp; omega) | (simp; done)))
        · refine call_w (ih x.fArgs[i] (by have := List.sizeOf_lt_of_mem (List.getElem_mem hi); omega) (by omega)) ?_
          simp -implicitDefEqProofs (disch := omega) only [go_sem]
          exact inv_at (i + 1, formed x.fArgs[i]) (by simp only; omega) rfl rfl ⟨by simp only; omega, by rw [← p2, h]; rfl⟩
        · exact inv_at (i + 1, false) (by simp only; omega) rfl rfl ⟨by simp only; omega, by rw [← p2, h]; rfl⟩
      · have hi : i = x.fArgs.length := by omega
        rw [hi, List.drop_length, formeds, Bool.and_true] at p2
        rw [p2]
theorem l4Form_ok (x : MType) (hsz : x.sz ≤ 4194304) : PCall Tryz.prog 112 [x.v] (.c (.d (.b (formed x)))) := l4Form_all _ x (Nat.lt_succ_self _) hsz
theorem specValidType_ok (x : MType) (hsz : x.sz ≤ 4194304) : PCall Tryz.prog 93 [x.v] (.c (.d (.b (validType x)))) := fun S => by
  refine acall_cw (rs := [.tmp 2]) Tryz.checked.mixed Tryz.func93 Tryz.ntmps93 rfl rfl rfl rfl rfl ?_
  simp -implicitDefEqProofs (disch := omega) only [go_sem]
  refine call_w (l4Left_ok x 60 (by omega) (by omega) hsz) ?_
  simp -implicitDefEqProofs (disch := omega) only [go_sem] <;> (repeat (with_reducible refine And.intro ?_ ?_; focus first | omega | rfl | assumption | exact ⟨_, rfl, rfl⟩ | (simp; omega) | (simp; done)))
  with_reducible refine split2 (fun hb => ?_) (fun hb => ?_) <;> have h := hb <;> (try simp only [wf_preprocess] at h) <;> simp -implicitDefEqProofs (disch := omega) only [go_sem, hb] <;> (repeat (with_reducible refine And.intro ?_ ?_; focus first | omega | rfl | assumption | exact ⟨_, rfl, rfl⟩ | (simp; omega) | (simp; done)))
  · have h1 := (sub1_nn (l := 60) (a := x.cnt) (by omega)).2
    refine call_w (specDepth_ok x hsz) ?_
    simp -implicitDefEqProofs (disch := omega) only [go_sem] <;> (repeat (with_reducible refine And.intro ?_ ?_; focus first | omega | rfl | assumption | exact ⟨_, rfl, rfl⟩ | (simp; omega) | (simp; done)))
    with_reducible refine split2 (fun hb => ?_) (fun hb => ?_) <;> have h := hb <;> (try simp only [wf_preprocess] at h) <;> simp -implicitDefEqProofs (disch := omega) only [go_sem, hb] <;> (repeat (with_reducible refine And.intro ?_ ?_; focus first | omega | rfl | assumption | exact ⟨_, rfl, rfl⟩ | (simp; omega) | (simp; done)))
    · refine call_w (l4Form_ok x hsz) ?_
      simp -implicitDefEqProofs (disch := omega) only [go_sem] <;> (repeat (with_reducible refine And.intro ?_ ?_; focus first | omega | rfl | assumption | exact ⟨_, rfl, rfl⟩ | (simp; omega) | (simp; done)))
      refine bool_eq ?_
      cases hf : formed x with
      | false => exact (dec_false fun y => by rw [hf] at y; cases y.1).symm
      | true => exact (dec_true ⟨hf, by omega, by omega⟩).symm
    · exact bool_eq (dec_false fun y => by have := y.2.1; omega).symm
  · have h1 := sub1_neg (l := 60) (a := x.cnt) (by omega)
    exact bool_eq (dec_false fun y => by have := y.2.2; omega).symm
end Go.Proofs.YtnceiannponbjaaGreat

namespace Go.Ab
mutual
def nodesT : MType → List MType
  | .mk k n a => .mk k n a :: nodesL a
def nodesL : List MType → List MType
  | [] => []
  | t :: ts => nodesT t ++ nodesL ts
end
theorem nodesT_eq (t : MType) : nodesT t = t :: nodesL t.fArgs := by cases t; rw [nodesT]; rfl
theorem nodesL_drop {ts : List MType} {i : Nat} (hi : i < ts.length) : nodesL (ts.drop i) = nodesT ts[i] ++ nodesL (ts.drop (i + 1)) := by rw [List.drop_eq_getElem_cons hi, nodesL]
mutual
theorem nodes_len : ∀ t : MType, (nodesT t).length = t.cnt
  | .mk k n a => by rw [nodesT, List.length_cons, MType.cnt, nodesL_len a]; omega
theorem nodesL_len : ∀ ts : List MType, (nodesL ts).length = MType.cnts ts
  | [] => rfl
  | t :: ts => by rw [nodesL, List.length_append, MType.cnts, nodes_len t, nodesL_len ts]
end
def addV (out : List (List UInt8)) (u : MType) : List (List UInt8) := if u.fKind = 1 ∧ u.fName ∉ out then out ++ [u.fName] else out
def tvars (out : List (List UInt8)) (t : MType) : List (List UInt8) := (nodesT t).foldl addV out
def tvarsL (out : List (List UInt8)) (ts : List MType) : List (List UInt8) := (nodesL ts).foldl addV out
theorem addV_len (out : List (List UInt8)) (u : MType) : (addV out u).length ≤ out.length + 1 := by
  unfold addV
  split <;> simp
theorem foldV_len : ∀ (us : List MType) (out : List (List UInt8)), (us.foldl addV out).length ≤ out.length + us.length
  | [], out => by simp
  | u :: us, out => by
    have h1 := addV_len out u
    have h2 := foldV_len us (addV out u)
    rw [List.foldl_cons, List.length_cons]
    omega
theorem tvars_len (t : MType) (out : List (List UInt8)) : (tvars out t).length ≤ out.length + t.cnt := by
  have := foldV_len (nodesT t) out
  rw [nodes_len] at this
  exact this
theorem tvars_eq (out : List (List UInt8)) (t : MType) : tvars out t = tvarsL (addV out t) t.fArgs := by
  unfold tvars tvarsL
  rw [nodesT_eq, List.foldl_cons]
theorem tvarsL_drop {ts : List MType} {i : Nat} (hi : i < ts.length) (out : List (List UInt8)) : tvarsL out (ts.drop i) = tvarsL (tvars out ts[i]) (ts.drop (i + 1)) := by
  unfold tvarsL tvars
  rw [nodesL_drop hi, List.foldl_append]
end Go.Ab

namespace Go.Proofs.YtnceiannponbjaaGreat
open Go Go.Ab
theorem arg_szT {x : MType} {i : Nat} (hi : i < x.fArgs.length) (h : x.sz ≤ 4194304) : x.fArgs[i].sz ≤ 4194304 ∧ x.fArgs.length ≤ 4194304 ∧ x.fName.length ≤ 4194304 := by
  have hx : x.fArgs[i].sz ≤ szRows (x.fArgs.map MType.enc) := szRows_mem (List.mem_map_of_mem (List.getElem_mem hi))
  simp only [MType.sz, MType.enc_eq, szRow, D.sz, List.length_map] at h
  omega
theorem ty_szT {x : MType} (h : x.sz ≤ 4194304) : x.fArgs.length ≤ 4194304 ∧ x.fName.length ≤ 4194304 := by
  simp only [MType.sz, MType.enc_eq, szRow, D.sz, List.length_map] at h
  omega
theorem eachType_all : ∀ n : Nat, ∀ t : MType, SizeOf.sizeOf t < n → t.sz ≤ 4194304 → ∀ (g : Nat) (caps : List (Key × Nat)) (α : Type) (st : α → Store) (I : Nat → α → Prop) (f : α → MType → α) (hf : FStep Tryz.prog g caps st I f MType.v (fun u => u.sz ≤ 4194304)) (m : Nat) (a : α), I (m + t.cnt) a →
    I m ((nodesT t).foldl f a) ∧ ACall Tryz.prog 120 [t.v, .c (.fn g caps)] (st a) (fun r S' => r = .tup [] ∧ S' = st ((nodesT t).foldl f a))
  | 0 => fun t h => by omega
  | n + 1 => by
    have ih := eachType_all n
    intro t hn hsz g caps α st I f hf m a ha
    have lArgs := MType.lt_Args t
    have hts := ty_szT hsz
    rw [MType.cnt_eq, show m + (1 + MType.cnts t.fArgs) = (m + MType.cnts t.fArgs) + 1 by omega] at ha
    have h1 := hf _ a t ha hsz
    -- the arguments
    have hI : ∀ (ts : List MType), SizeOf.sizeOf ts < n → (∀ x ∈ ts, x.sz ≤ 4194304) → ∀ a, I (m + MType.cnts ts) a → I m ((nodesL ts).foldl f a) := by
      intro ts
      induction ts with
      | nil => intro _ _ a ha; exact ha
      | cons x xs ihx =>
        intro hs hz a ha
        simp only [List.cons.sizeOf_spec] at hs
        rw [nodesL, List.foldl_append]
        rw [MType.cnts, show m + (x.cnt + MType.cnts xs) = (m + MType.cnts xs) + x.cnt by omega] at ha
        exact ihx (by omega) (fun y hy => hz y (by simp [hy])) _ (ih x (by omega) (hz x (by simp)) g caps α st I f hf _ a ha).1
    have hall : ∀ x ∈ t.fArgs, x.sz ≤ 4194304 := fun x hx => by
      obtain ⟨i, hi, e⟩ := List.getElem_of_mem hx
      rw [← e]; exact (arg_szT hi hsz).1
    refine ⟨by rw [nodesT_eq, List.foldl_cons]; exact hI t.fArgs (by omega) hall _ h1.1, ?_⟩
    refine acall_cw (rs := []) Tryz.checked.mixed Tryz.func120 Tryz.ntmps120 rfl rfl rfl rfl rfl ?_
    simp -implicitDefEqProofs (disch := omega) only [go_sem]
    refine call_d rfl (h1.2 [_]) ?_
    simp -implicitDefEqProofs (disch := omega) only [go_sem]
    refine loop_at (ι := Nat × α) Tryz.checked.mixed rfl [1, 10, 11, 12] (fun y => [.c (.fn g (upCaps 1 caps)), .c (.d (.sl (t.fArgs.map MType.enc))), .c (.d (.i .i64 t.fArgs.length)), .c (.d (.i .i64 y.1))]) (fun y => [.box [.d (.i .i64 t.fKind), .d (.s t.fName), .d (.sl (t.fArgs.map MType.enc))]] :: st y.2)
      (fun y => y.1 ≤ t.fArgs.length ∧ I (m + MType.cnts (t.fArgs.drop y.1)) y.2 ∧ (nodesL (t.fArgs.drop y.1)).foldl f y.2 = (nodesT t).foldl f a) (fun y => t.fArgs.length - y.1) (0, f a t) rfl rfl ⟨Nat.zero_le _, h1.1, by rw [nodesT_eq, List.foldl_cons]; rfl⟩ ?_
    rintro ⟨i, b⟩ ⟨p1, p2, p3⟩
    simp only at p1 p2 p3
    simp -implicitDefEqProofs (disch := omega) only [go_sem]
    with_reducible refine split2 (fun hb => ?_) (fun hb => ?_) <;> have h := hb <;> (try simp only [wf_preprocess] at h) <;> simp -implicitDefEqProofs (disch := omega) only [go_sem, hb] <;> (repeat (with_reducible refine And.intro ?_ ?_; focus first | omega | rfl | assumption | exact ⟨_, rfl, rfl⟩ | (simp; omega) | (simp; done)))
    · have hi : i < t.fArgs.length := by omega
      have hs := List.sizeOf_lt_of_mem (List.getElem_mem hi)
      rw [nodesL_drop hi, List.foldl_append] at p3
      rw [List.drop_eq_getElem_cons hi, MType.cnts, show m + (t.fArgs[i].cnt + MType.cnts (t.fArgs.drop (i + 1))) = (m + MType.cnts (t.fArgs.drop (i + 1))) + t.fArgs[i].cnt by omega] at p2
      have h2 := (ih t.fArgs[i] (by omega) (arg_szT hi hsz).1 g caps α st I f hf _ b p2).1
      (repeat (with_reducible refine And.intro ?_ ?_; focus first | omega | rfl | assumption | exact ⟨_, rfl, rfl⟩ | (simp; omega) | (simp; done)))
      refine call_d rfl (((ih t.fArgs[i] (by omega) (arg_szT hi hsz).1 g (upCaps 1 caps) α (fun a => [.box [.d (.i .i64 t.fKind), .d (.s t.fName), .d (.sl (t.fArgs.map MType.enc))], .box [.d (.i .i64 t.fArgs[i].fKind), .d (.s t.fArgs[i].fName), .d (.sl (t.fArgs[i].fArgs.map MType.enc))]] :: st a) I f (hf.push _) _ b p2)).2) ?_
      simp -implicitDefEqProofs (disch := omega) only [go_sem]
      exact inv_drop 1 (by decide) (i + 1, (nodesT t.fArgs[i]).foldl f b) (by simp only; omega) rfl rfl (by simp only [zipTm, tmRefs, List.all_cons, List.all_nil, V.refs, C.refs, refs_upCaps1, Bool.and_true]) rfl ⟨by simp only; omega, h2, p3⟩
    · have hi : i = t.fArgs.length := by omega
      rw [hi, List.drop_length, nodesL, List.foldl_nil] at p3
      rw [p3]
theorem eachType_ok {t : MType} (hsz : t.sz ≤ 4194304) {g : Nat} {caps : List (Key × Nat)} {α : Type} {st : α → Store} {I : Nat → α → Prop} {f : α → MType → α} (hf : FStep Tryz.prog g caps st I f MType.v (fun u => u.sz ≤ 4194304)) (m : Nat) (a : α) (ha : I (m + t.cnt) a) :
    I m ((nodesT t).foldl f a) ∧ ACall Tryz.prog 120 [t.v, .c (.fn g caps)] (st a) (fun r S' => r = .tup [] ∧ S' = st ((nodesT t).foldl f a)) := eachType_all _ t (Nat.lt_succ_self _) hsz g caps α st I f hf m a ha
theorem variablesOf1_step (rest : List Ab.Obj) (S : Store) : FStep Tryz.prog 121 [((0, 0), 0)] (fun out : List (List UInt8) => (.box [.tsl (0, 1) (out.map encS)] :: .tok 1 (out.map encS) :: rest) :: S) (fun n out => out.length + n ≤ 1073741824) addV MType.v (fun u => u.sz ≤ 4194304) := by
  intro n out u hI hu
  refine ⟨by have := addV_len out u; omega, fun F => ?_⟩
  have hts := ty_szT hu
  refine acall_cw (rs := []) Tryz.checked.mixed Tryz.func121 Tryz.ntmps121 rfl rfl rfl rfl rfl ?_
  simp -implicitDefEqProofs (disch := omega) only [go_sem]
  with_reducible refine split2 (fun hb => ?_) (fun hb => ?_) <;> have h := hb <;> (try simp only [wf_preprocess] at h) <;> simp -implicitDefEqProofs (disch := omega) only [go_sem, hb] <;> (repeat (with_reducible refine And.intro ?_ ?_; focus first | omega | rfl | assumption | exact ⟨_, rfl, rfl⟩ | (simp; omega) | (simp; done)))
  · have h1 := h
    refine call_w (containsS_ok out u.fName (by omega)) ?_
    simp -implicitDefEqProofs (disch := omega) only [go_sem] <;> (repeat (with_reducible refine And.intro ?_ ?_; focus first | omega | rfl | assumption | exact ⟨_, rfl, rfl⟩ | (simp; omega) | (simp; done)))
    with_reducible refine split2 (fun hb => ?_) (fun hb => ?_) <;> have h := hb <;> (try simp only [wf_preprocess] at h) <;> simp -implicitDefEqProofs (disch := omega) only [go_sem, hb] <;> (repeat (with_reducible refine And.intro ?_ ?_; focus first | omega | rfl | assumption | exact ⟨_, rfl, rfl⟩ | (simp; omega) | (simp; done)))
    · (repeat (with_reducible refine And.intro ?_ ?_; focus first | omega | rfl | assumption | exact ⟨_, rfl, rfl⟩ | (simp; omega) | (simp; done)))
      have ha : addV out u = out ++ [u.fName] := if_pos ⟨h1, h⟩
      rw [ha]; simp [encS]
    · have ha : addV out u = out := if_neg fun x => x.2 h
      rw [ha]
  · have ha : addV out u = out := if_neg fun x => h x.1
    rw [ha]
theorem variablesOf_ok (ts : List MType) (hl : ts.length ≤ 4194304) (hz : ∀ t ∈ ts, t.sz ≤ 4194304) (hc : MType.cnts ts ≤ 1073741823) : PCall Tryz.prog 108 [.c (.d (.sl (ts.map MType.enc)))] (.c (.d (.sl ((tvarsL [] ts).map encS)))) := fun S => by
  refine acall_cw (rs := [.tmp 2]) Tryz.checked.mixed Tryz.func108 Tryz.ntmps108 rfl rfl rfl rfl rfl ?_
  simp -implicitDefEqProofs (disch := omega) only [go_sem]
  (repeat (with_reducible refine And.intro ?_ ?_; focus first | omega | rfl | assumption | exact ⟨_, rfl, rfl⟩ | (simp; omega) | (simp; done)))
  refine aw_tokbox 0 0 1 [] [.fsl []] rfl rfl (by simp) ?_
  refine loop_at (ι := Nat × List (List UInt8)) Tryz.checked.mixed rfl [3, 7, 8, 9] (fun y => [.c (.ptr (0, 0) 0), .c (.d (.sl (ts.map MType.enc))), .c (.d (.i .i64 ts.length)), .c (.d (.i .i64 y.1))]) (fun y => [.box [.tsl (0, 1) (y.2.map encS)], .tok 1 (y.2.map encS)] :: S)
    (fun y => y.1 ≤ ts.length ∧ y.2.length + MType.cnts (ts.drop y.1) ≤ 1073741824 ∧ tvarsL y.2 (ts.drop y.1) = tvarsL [] ts) (fun y => ts.length - y.1) (0, []) rfl rfl ⟨Nat.zero_le _, by simp only [List.drop_zero, List.length_nil]; omega, rfl⟩ ?_
  rintro ⟨i, out⟩ ⟨p1, p2, p3⟩
  simp only at p1 p2 p3
  simp -implicitDefEqProofs (disch := omega) only [go_sem]
  with_reducible refine split2 (fun hb => ?_) (fun hb => ?_) <;> have h := hb <;> (try simp only [wf_preprocess] at h) <;> simp -implicitDefEqProofs (disch := omega) only [go_sem, hb] <;> (repeat (with_reducible refine And.intro ?_ ?_; focus first | omega | rfl | assumption | exact ⟨_, rfl, rfl⟩ | (simp; omega) | (simp; done)))
  · have hi : i < ts.length := by omega
    rw [tvarsL_drop hi] at p3
    rw [List.drop_eq_getElem_cons hi, MType.cnts] at p2
    have hlen := tvars_len ts[i] out
    (repeat (with_reducible refine And.intro ?_ ?_; focus first | omega | rfl | assumption | exact ⟨_, rfl, rfl⟩ | (simp; omega) | (simp; done)))
    refine call_d rfl (eachType_ok (hz _ (List.getElem_mem hi)) (variablesOf1_step [Ab.Obj.box [.d (.i .i64 ts[i].fKind), .d (.s ts[i].fName), .d (.sl (ts[i].fArgs.map MType.enc))]] S) (MType.cnts (ts.drop (i + 1))) out (by omega)).2 ?_
    simp -implicitDefEqProofs (disch := omega) only [go_sem]
    exact inv_drop 2 (by decide) (i + 1, tvars out ts[i]) (by simp only; omega) rfl rfl rfl rfl ⟨by simp only; omega, by simp only; omega, p3⟩
  · have hi : i = ts.length := by omega
    rw [hi, List.drop_length] at p3
    rw [← p3]; rfl
theorem implTypeVars_ok (t : MType) (hsz : t.sz ≤ 4194304) : PCall Tryz.prog 90 [t.v] (.c (.d (.sl ((tvars [] t).map encS)))) := fun S => by
  have hc := cnt_le t
  have h0 := variablesOf_ok [t] (by simp) (by simpa using hsz) (by simp [MType.cnts]; omega)
  simp only [List.map_cons, List.map_nil, MType.enc_eq] at h0
  refine acall_cw (rs := [.tmp 2]) Tryz.checked.mixed Tryz.func90 Tryz.ntmps90 rfl rfl rfl rfl rfl ?_
  simp -implicitDefEqProofs (disch := omega) only [go_sem]
  (repeat (with_reducible refine And.intro ?_ ?_; focus first | omega | rfl | assumption | exact ⟨_, rfl, rfl⟩ | (simp; omega) | (simp; done)))
  refine call_w h0 ?_
  simp -implicitDefEqProofs (disch := omega) only [go_sem]
  rw [show tvarsL [] [t] = tvars [] t by simp [tvarsL, tvars, nodesL]]
theorem l4Vars_all : ∀ n : Nat, ∀ t : MType, SizeOf.sizeOf t < n → t.sz ≤ 4194304 → ∀ (out : List (List UInt8)) (l j : Nat) (S : Store), getO S (l, j) = some (.tok 1 (out.map encS)) → out.length + t.cnt ≤ 1073741824 →
    ACall Tryz.prog 109 [t.v, .c (.tsl (l, j) (out.map encS))] S (fun r S' => r = .c (.tsl (l, j) ((tvars out t).map encS)) ∧ S' = setO S (l, j) (.tok 1 ((tvars out t).map encS)))
  | 0 => fun t h => by omega
  | n + 1 => by
    have ih := l4Vars_all n
    intro t hn hsz out l j S hk hc
    have lArgs := MType.lt_Args t
    have hts := ty_szT hsz
    have hcn := MType.cnt_eq t
    -- the loop, from whatever list
    have hkS : ∀ x : Ab.Obj, getO (setO S (l, j) x) (l, j) = some x := fun x => getO_setO_eq _ _ _ _ hk
    have hS0 : setO S (l, j) (.tok 1 (out.map encS)) = S := setO_self _ _ hk
    have fin : tvars out t = tvarsL (addV out t) t.fArgs := tvars_eq out t
    have hal := addV_len out t
    have e0 : (out ++ [t.fName]).map encS = out.map encS ++ [[D.s t.fName]] := by simp [encS]
    refine acall_cw (rs := [.tmp 4]) Tryz.checked.mixed Tryz.func109 Tryz.ntmps109 rfl rfl rfl rfl rfl ?_
    simp -implicitDefEqProofs (disch := omega) only [go_sem, hk]
    repeat' (first
      | (with_reducible refine split2 (fun hb => ?_) (fun hb => ?_) <;> have h := hb <;> (try simp only [wf_preprocess] at h) <;> simp -implicitDefEqProofs (disch := omega) only [go_sem, hb, hk] <;> (repeat (with_reducible refine And.intro ?_ ?_; focus first | omega | rfl | assumption | exact ⟨_, rfl, rfl⟩ | (simp; omega) | (simp; done))))
      | (refine call_w (l1Has_ok out t.fName (by omega)) ?_; simp -implicitDefEqProofs (disch := omega) only [go_sem, hk]; (repeat (with_reducible refine And.intro ?_ ?_; focus first | omega | rfl | assumption | exact ⟨_, rfl, rfl⟩ | (simp; omega) | (simp; done)))))
    all_goals first
      | (have ha : addV out t = out ++ [t.fName] := if_pos ⟨by assumption, by assumption⟩)
      | (have ha : addV out t = out := if_neg (fun x => by have := x.1; have := x.2; contradiction))
    all_goals
      refine loop_at (ι := Nat × List (List UInt8)) Tryz.checked.mixed rfl [1, 2, 5] (fun y => [.c (.tsl (1 + l, j) (y.2.map encS)), .c (.ptr (0, 0) 0), .c (.d (.i .i64 y.1))]) (fun y => [.box [.d (.i .i64 t.fKind), .d (.s t.fName), .d (.sl (t.fArgs.map MType.enc))]] :: setO S (l, j) (.tok 1 (y.2.map encS)))
        (fun y => y.1 ≤ t.fArgs.length ∧ y.2.length + MType.cnts (t.fArgs.drop y.1) ≤ 1073741824 ∧ tvarsL y.2 (t.fArgs.drop y.1) = tvars out t) (fun y => t.fArgs.length - y.1) (0, addV out t) (by first | (rw [ha, e0]; rfl) | (rw [ha]; rfl)) (by first | (simp only [ha, e0]; done) | (simp only [ha, hS0]; done)) ⟨Nat.zero_le _, by simp only [List.drop_zero]; omega, by rw [fin]; rfl⟩ ?_
      rintro ⟨i, b⟩ ⟨p1, p2, p3⟩
      simp only at p1 p2 p3
      simp -implicitDefEqProofs (disch := omega) only [go_sem]
      with_reducible refine split2 (fun hb => ?_) (fun hb => ?_) <;> have h := hb <;> (try simp only [wf_preprocess] at h) <;> simp -implicitDefEqProofs (disch := omega) only [go_sem, hb] <;> (repeat (with_reducible refine And.intro ?_ ?_; focus first | omega | rfl | assumption | exact ⟨_, rfl, rfl⟩ | (simp; omega) | (simp; done)))
      · have hi : i < t.fArgs.length := by omega
        have hs := List.sizeOf_lt_of_mem (List.getElem_mem hi)
        rw [tvarsL_drop hi] at p3
        rw [List.drop_eq_getElem_cons hi, MType.cnts] at p2
        have hlen := tvars_len t.fArgs[i] b
        (repeat (with_reducible refine And.intro ?_ ?_; focus first | omega | rfl | assumption | exact ⟨_, rfl, rfl⟩ | (simp; omega) | (simp; done)))
        refine call_d rfl (ih t.fArgs[i] (by omega) (arg_szT hi hsz).1 b (1 + l) j _ (by rw [getO_up1]; exact hkS _) (by omega)) ?_
        simp -implicitDefEqProofs (disch := omega) only [go_sem, setO_twice]
        exact inv_at (i + 1, tvars b t.fArgs[i]) (by simp only; omega) rfl rfl ⟨by simp only; omega, by simp only; omega, p3⟩
      · have hi : i = t.fArgs.length := by omega
        rw [hi, List.drop_length] at p3
        rw [← p3]
        exact ⟨rfl, rfl⟩
theorem specTypeVars_ok (t : MType) (hsz : t.sz ≤ 4194304) : PCall Tryz.prog 91 [t.v] (.c (.d (.sl ((tvars [] t).map encS)))) := fun S => by
  have hc := cnt_le t
  have h0 : ∀ S, ACall Tryz.prog 109 [t.v, .c (.fsl [])] S (fun r S' => r = .c (.d (.sl ((tvars [] t).map encS))) ∧ S' = S) := fun S => by
    refine ACall.tok0 1 (es := []) (esz := 1) rfl (by simp) (l4Vars_all _ t (Nat.lt_succ_self _) hsz [] 0 0 ([.tok 1 []] :: S) rfl (by simp; omega)) ?_
    rintro r fr S' ⟨rfl, h2⟩
    injection h2 with h2 h3
    exact ⟨_, rfl, rfl, h3⟩
  refine acall_cw (rs := [.tmp 2]) Tryz.checked.mixed Tryz.func91 Tryz.ntmps91 rfl rfl rfl rfl rfl ?_
  simp -implicitDefEqProofs (disch := omega) only [go_sem]
  (repeat (with_reducible refine And.intro ?_ ?_; focus first | omega | rfl | assumption | exact ⟨_, rfl, rfl⟩ | (simp; omega) | (simp; done)))
  refine call_m [true, true] rfl (h0 _) ?_
  simp -implicitDefEqProofs (disch := omega) only [go_sem]
end Go.Proofs.YtnceiannponbjaaGreat

namespace Go.Proofs.YtnceiannponbjaaGreat
open Go Go.Ab
theorem indexFuncType_ok (g : Nat) (caps : List (Key × Nat)) (S : Store) (xs : List MType) (p : MType → Bool) (hl : xs.length ≤ 1073741824) (hp : ∀ x ∈ xs, FPure Tryz.prog g caps S [x.v] (.c (.d (.b (p x))))) :
    ACall Tryz.prog 87 [.c (.d (.sl (xs.map MType.enc))), .c (.fn g caps)] S (fun r S' => r = .c (.d (.i .i64 (indexP p xs))) ∧ S' = S) := by
  refine acall_cw (rs := [.tmp 4]) Tryz.checked.mixed Tryz.func87 Tryz.ntmps87 rfl rfl rfl rfl rfl ?_
  simp -implicitDefEqProofs (disch := omega) only [go_sem]
  refine loop_at (ι := Nat) Tryz.checked.mixed rfl [0, 1, 7, 8] (fun i => [.c (.d (.sl (xs.map MType.enc))), .c (.fn g (upCaps 1 caps)), .c (.d (.i .i64 xs.length)), .c (.d (.i .i64 i))]) (fun _ => [] :: S)
    (fun i => i ≤ xs.length ∧ ∀ j, ∀ hj : j < xs.length, j < i → p xs[j] = false) (fun i => xs.length - i) 0 rfl rfl ⟨Nat.zero_le _, fun j _ h => by omega⟩ ?_
  rintro i ⟨p1, p2⟩
  simp -implicitDefEqProofs (disch := omega) only [go_sem]
  with_reducible refine split2 (fun hb => ?_) (fun hb => ?_) <;> have h := hb <;> (try simp only [wf_preprocess] at h) <;> simp -implicitDefEqProofs (disch := omega) only [go_sem, hb] <;> (repeat (with_reducible refine And.intro ?_ ?_; focus first | omega | rfl | assumption | exact ⟨_, rfl, rfl⟩ | (simp; omega) | (simp; done)))
  · have hi : i < xs.length := by omega
    (repeat (with_reducible refine And.intro ?_ ?_; focus first | omega | rfl | assumption | exact ⟨_, rfl, rfl⟩ | (simp; omega) | (simp; done)))
    refine call_d rfl (hp xs[i] (List.getElem_mem hi) [_]) ?_
    simp -implicitDefEqProofs (disch := omega) only [go_sem]
    with_reducible refine split2 (fun hb => ?_) (fun hb => ?_) <;> have h := hb <;> (try simp only [wf_preprocess] at h) <;> simp -implicitDefEqProofs (disch := omega) only [go_sem, hb] <;> (repeat (with_reducible refine And.intro ?_ ?_; focus first | omega | rfl | assumption | exact ⟨_, rfl, rfl⟩ | (simp; omega) | (simp; done)))
    · rw [indexP_here hi p2 h]
    · refine inv_at (i + 1) (by omega) rfl rfl ⟨by omega, fun j hj hji => ?_⟩
      by_cases e : j = i
      · subst e; exact h
      · exact p2 j hj (by omega)
  · rw [indexP_no (fun j hj => p2 j hj (by omega))]
theorem containsFuncType_ok (g : Nat) (caps : List (Key × Nat)) (S : Store) (xs : List MType) (p : MType → Bool) (hl : xs.length ≤ 1073741824) (hp : ∀ x ∈ xs, FPure Tryz.prog g caps S [x.v] (.c (.d (.b (p x))))) :
    ACall Tryz.prog 57 [.c (.d (.sl (xs.map MType.enc))), .c (.fn g caps)] S (fun r S' => r = .c (.d (.b (xs.any p))) ∧ S' = S) := by
  refine acall_cw (rs := [.tmp 4]) Tryz.checked.mixed Tryz.func57 Tryz.ntmps57 rfl rfl rfl rfl rfl ?_
  simp -implicitDefEqProofs (disch := omega) only [go_sem]
  refine call_d rfl (indexFuncType_ok g (upCaps 1 caps) _ xs p hl fun x hx => (hp x hx).push _) ?_
  simp -implicitDefEqProofs (disch := omega) only [go_sem]
  exact bool_eq indexP_pos
theorem indexFuncstring_ok (g : Nat) (caps : List (Key × Nat)) (S : Store) (xs : List (List UInt8)) (p : (List UInt8) → Bool) (hl : xs.length ≤ 1073741824) (hp : ∀ x ∈ xs, FPure Tryz.prog g caps S [.c (.d (.s x))] (.c (.d (.b (p x))))) :
    ACall Tryz.prog 86 [.c (.d (.sl (xs.map encS))), .c (.fn g caps)] S (fun r S' => r = .c (.d (.i .i64 (indexP p xs))) ∧ S' = S) := by
  refine acall_cw (rs := [.tmp 4]) Tryz.checked.mixed Tryz.func86 Tryz.ntmps86 rfl rfl rfl rfl rfl ?_
  simp -implicitDefEqProofs (disch := omega) only [go_sem, encS]
  refine loop_at (ι := Nat) Tryz.checked.mixed rfl [0, 1, 7, 8] (fun i => [.c (.d (.sl (xs.map encS))), .c (.fn g (upCaps 1 caps)), .c (.d (.i .i64 xs.length)), .c (.d (.i .i64 i))]) (fun _ => [] :: S)
    (fun i => i ≤ xs.length ∧ ∀ j, ∀ hj : j < xs.length, j < i → p xs[j] = false) (fun i => xs.length - i) 0 rfl rfl ⟨Nat.zero_le _, fun j _ h => by omega⟩ ?_
  rintro i ⟨p1, p2⟩
  simp -implicitDefEqProofs (disch := omega) only [go_sem, encS]
  with_reducible refine split2 (fun hb => ?_) (fun hb => ?_) <;> have h := hb <;> (try simp only [wf_preprocess] at h) <;> simp -implicitDefEqProofs (disch := omega) only [go_sem, hb, encS] <;> (repeat (with_reducible refine And.intro ?_ ?_; focus first | omega | rfl | assumption | exact ⟨_, rfl, rfl⟩ | (simp; omega) | (simp; done)))
  · have hi : i < xs.length := by omega
    (repeat (with_reducible refine And.intro ?_ ?_; focus first | omega | rfl | assumption | exact ⟨_, rfl, rfl⟩ | (simp; omega) | (simp; done)))
    refine call_d rfl (hp xs[i] (List.getElem_mem hi) [_]) ?_
    simp -implicitDefEqProofs (disch := omega) only [go_sem, encS]
    with_reducible refine split2 (fun hb => ?_) (fun hb => ?_) <;> have h := hb <;> (try simp only [wf_preprocess] at h) <;> simp -implicitDefEqProofs (disch := omega) only [go_sem, hb, encS] <;> (repeat (with_reducible refine And.intro ?_ ?_; focus first | omega | rfl | assumption | exact ⟨_, rfl, rfl⟩ | (simp; omega) | (simp; done)))
    · rw [indexP_here hi p2 h]
    · refine inv_at (i + 1) (by omega) rfl rfl ⟨by omega, fun j hj hji => ?_⟩
      by_cases e : j = i
      · subst e; exact h
      · exact p2 j hj (by omega)
  · rw [indexP_no (fun j hj => p2 j hj (by omega))]
theorem containsFuncstring_ok (g : Nat) (caps : List (Key × Nat)) (S : Store) (xs : List (List UInt8)) (p : (List UInt8) → Bool) (hl : xs.length ≤ 1073741824) (hp : ∀ x ∈ xs, FPure Tryz.prog g caps S [.c (.d (.s x))] (.c (.d (.b (p x))))) :
    ACall Tryz.prog 55 [.c (.d (.sl (xs.map encS))), .c (.fn g caps)] S (fun r S' => r = .c (.d (.b (xs.any p))) ∧ S' = S) := by
  refine acall_cw (rs := [.tmp 4]) Tryz.checked.mixed Tryz.func55 Tryz.ntmps55 rfl rfl rfl rfl rfl ?_
  simp -implicitDefEqProofs (disch := omega) only [go_sem, encS]
  refine call_d rfl (indexFuncstring_ok g (upCaps 1 caps) _ xs p hl fun x hx => (hp x hx).push _) ?_
  simp -implicitDefEqProofs (disch := omega) only [go_sem, encS]
  exact bool_eq indexP_pos
end Go.Proofs.YtnceiannponbjaaGreat

namespace Go.Ab
theorem strs_b {s : List UInt8} {xs : List (List UInt8)} (h : s ∈ xs) : s.length ≤ szRows (xs.map encS) := by
  have := szRows_mem (List.mem_map_of_mem (f := encS) h)
  simpa [encS, szRow, D.sz] using this
noncomputable def namesOk (xs : List (List UInt8)) : Bool := dec xs.Nodup && xs.all validName
noncomputable def among (xs ys : List (List UInt8)) : Bool := xs.all fun s => dec (s ∈ ys)
noncomputable def typeOver (vars : List (List UInt8)) (t : MType) : Bool := validType t && among (tvars [] t) vars
noncomputable def typesOver (vars : List (List UInt8)) (ts : List MType) : Bool := ts.all (typeOver vars)
theorem mem_addW {s l : List UInt8} {m : List (List UInt8)} : s ∈ addW l m ↔ s = l ∨ s ∈ m := by
  unfold addW
  split
  · rename_i h
    exact ⟨.inr, fun x => x.elim (fun e => e ▸ h) id⟩
  · rw [List.mem_append, List.mem_singleton]; exact Or.comm
theorem take_snoc {α : Type} {xs : List α} {i : Nat} (hi : i < xs.length) : xs.take (i + 1) = xs.take i ++ [xs[i]] := List.take_succ_eq_append_getElem hi
theorem nodup_snoc {α : Type} {xs : List α} {x : α} : (xs ++ [x]).Nodup ↔ xs.Nodup ∧ x ∉ xs := by
  rw [List.nodup_append]
  constructor
  · rintro ⟨h1, _, h3⟩
    exact ⟨h1, fun hx => h3 x hx x (by simp) rfl⟩
  · rintro ⟨h1, h2⟩
    exact ⟨h1, by simp, fun a ha b hb e => by simp at hb; subst hb; exact h2 (e ▸ ha)⟩
theorem not_nodup {α : Type} {xs : List α} {i : Nat} (hi : i < xs.length) (h : xs[i] ∈ xs.take i) : ¬ xs.Nodup := fun hn => by
  have h1 : (xs.take (i + 1)).Nodup := hn.sublist (List.take_sublist _ _)
  rw [take_snoc hi] at h1
  exact (nodup_snoc.1 h1).2 h
end Go.Ab
namespace Go.Proofs.YtnceiannponbjaaGreat
open Go Go.Ab
theorem implDistinct_ok (xs : List (List UInt8)) (hl : xs.length ≤ 1073741824) : PCall Tryz.prog 54 [.c (.d (.sl (xs.map encS)))] (.c (.d (.b (dec xs.Nodup)))) := fun S => by
  refine acall_cw (rs := [.tmp 2]) Tryz.checked.mixed Tryz.func54 Tryz.ntmps54 rfl rfl rfl rfl rfl ?_
  simp -implicitDefEqProofs (disch := omega) only [go_sem, encS]
  (repeat (with_reducible refine And.intro ?_ ?_; focus first | omega | rfl | assumption | exact ⟨_, rfl, rfl⟩ | (simp; omega) | (simp; done)))
  refine loop_at (ι := Nat × List (List UInt8)) Tryz.checked.mixed rfl [3, 7, 8, 9] (fun y => [.c (.mp (0, 0)), .c (.d (.sl (xs.map encS))), .c (.d (.i .i64 xs.length)), .c (.d (.i .i64 y.1))]) (fun y => [.mp y.2] :: S)
    (fun y => y.1 ≤ xs.length ∧ (∀ s, s ∈ y.2 ↔ s ∈ xs.take y.1) ∧ (xs.take y.1).Nodup) (fun y => xs.length - y.1) (0, []) rfl rfl ⟨Nat.zero_le _, fun s => by simp, by simp⟩ ?_
  rintro ⟨i, m⟩ ⟨p1, p2, p3⟩
  simp only at p1 p2 p3
  simp -implicitDefEqProofs (disch := omega) only [go_sem, encS]
  with_reducible refine split2 (fun hb => ?_) (fun hb => ?_) <;> have h := hb <;> (try simp only [wf_preprocess] at h) <;> simp -implicitDefEqProofs (disch := omega) only [go_sem, hb, encS] <;> (repeat (with_reducible refine And.intro ?_ ?_; focus first | omega | rfl | assumption | exact ⟨_, rfl, rfl⟩ | (simp; omega) | (simp; done)))
  · have hi : i < xs.length := by omega
    (repeat (with_reducible refine And.intro ?_ ?_; focus first | omega | rfl | assumption | exact ⟨_, rfl, rfl⟩ | (simp; omega) | (simp; done)))
    with_reducible refine split2 (fun hb => ?_) (fun hb => ?_) <;> have h := hb <;> (try simp only [wf_preprocess] at h) <;> simp -implicitDefEqProofs (disch := omega) only [go_sem, hb, encS] <;> (repeat (with_reducible refine And.intro ?_ ?_; focus first | omega | rfl | assumption | exact ⟨_, rfl, rfl⟩ | (simp; omega) | (simp; done)))
    · exact bool_eq (dec_false (not_nodup hi ((p2 _).1 h))).symm
    · refine inv_at (i + 1, addW xs[i] m) (by simp only; omega) rfl rfl ⟨by simp only; omega, fun s => ?_, ?_⟩
      · simp only
        rw [mem_addW, take_snoc hi, List.mem_append, List.mem_singleton, p2]
        exact Or.comm
      · simp only
        rw [take_snoc hi, nodup_snoc]
        exact ⟨p3, fun hx => h ((p2 _).2 hx)⟩
  · rw [List.take_of_length_le (by omega)] at p3
    exact bool_eq (dec_true p3).symm
theorem specDistinct_ok (xs : List (List UInt8)) (hl : xs.length ≤ 1073741824) : PCall Tryz.prog 64 [.c (.d (.sl (xs.map encS)))] (.c (.d (.b (dec xs.Nodup)))) := fun S => by
  refine acall_cw (rs := [.tmp 2]) Tryz.checked.mixed Tryz.func64 Tryz.ntmps64 rfl rfl rfl rfl rfl ?_
  simp -implicitDefEqProofs (disch := omega) only [go_sem, encS]
  refine loop_at (ι := Nat) Tryz.checked.mixed rfl [0, 3] (fun i => [.c (.d (.sl (xs.map encS))), .c (.d (.i .i64 i))]) (fun _ => [] :: S)
    (fun i => i ≤ xs.length ∧ (xs.take i).Nodup) (fun i => xs.length - i) 0 rfl rfl ⟨Nat.zero_le _, by simp⟩ ?_
  rintro i ⟨p1, p3⟩
  simp -implicitDefEqProofs (disch := omega) only [go_sem, encS]
  with_reducible refine split2 (fun hb => ?_) (fun hb => ?_) <;> have h := hb <;> (try simp only [wf_preprocess] at h) <;> simp -implicitDefEqProofs (disch := omega) only [go_sem, hb, encS] <;> (repeat (with_reducible refine And.intro ?_ ?_; focus first | omega | rfl | assumption | exact ⟨_, rfl, rfl⟩ | (simp; omega) | (simp; done)))
  · have hi : i < xs.length := by omega
    have hc : ∀ y ∈ xs.map encS, y.length = 1 := fun y hy => by
      obtain ⟨s, _, rfl⟩ := List.mem_map.1 hy
      rfl
    have e : (xs.map encS).take i = (xs.take i).map encS := List.map_take.symm
    refine And.intro ⟨by omega, by omega, hc⟩ ?_
    (repeat (with_reducible refine And.intro ?_ ?_; focus first | omega | rfl | assumption | exact ⟨_, rfl, rfl⟩ | (simp; omega) | (simp; done)))
    simp -implicitDefEqProofs (disch := omega) only [go_sem, Int.toNat_zero, e]
    refine call_w (l1Has_ok (xs.take i) xs[i] (by simp; omega)) ?_
    simp -implicitDefEqProofs (disch := omega) only [go_sem] <;> (repeat (with_reducible refine And.intro ?_ ?_; focus first | omega | rfl | assumption | exact ⟨_, rfl, rfl⟩ | (simp; omega) | (simp; done)))
    with_reducible refine split2 (fun hb => ?_) (fun hb => ?_) <;> have h := hb <;> (try simp only [wf_preprocess] at h) <;> simp -implicitDefEqProofs (disch := omega) only [go_sem, hb] <;> (repeat (with_reducible refine And.intro ?_ ?_; focus first | omega | rfl | assumption | exact ⟨_, rfl, rfl⟩ | (simp; omega) | (simp; done)))
    · exact bool_eq (dec_false (not_nodup hi h)).symm
    · refine inv_at (i + 1) (by omega) rfl rfl ⟨by omega, ?_⟩
      rw [take_snoc hi, nodup_snoc]
      exact ⟨p3, h⟩
  · rw [List.take_of_length_le (by omega)] at p3
    exact bool_eq (dec_true p3).symm
theorem l3Names_ok (xs : List (List UInt8)) (hl : xs.length ≤ 1073741824) (hs : ∀ s ∈ xs, s.length ≤ 4194304) : PCall Tryz.prog 63 [.c (.d (.sl (xs.map encS)))] (.c (.d (.b (xs.all validName)))) := fun S => by
  refine acall_cw (rs := [.tmp 2]) Tryz.checked.mixed Tryz.func63 Tryz.ntmps63 rfl rfl rfl rfl rfl ?_
  simp -implicitDefEqProofs (disch := omega) only [go_sem, encS]
  refine loop_at (ι := Nat) Tryz.checked.mixed rfl [0, 3] (fun i => [.c (.d (.sl (xs.map encS))), .c (.d (.i .i64 i))]) (fun _ => [] :: S)
    (fun i => i ≤ xs.length ∧ (xs.drop i).all validName = xs.all validName) (fun i => xs.length - i) 0 rfl rfl ⟨Nat.zero_le _, rfl⟩ ?_
  rintro i ⟨p1, p2⟩
  simp -implicitDefEqProofs (disch := omega) only [go_sem, encS]
  with_reducible refine split2 (fun hb => ?_) (fun hb => ?_) <;> have h := hb <;> (try simp only [wf_preprocess] at h) <;> simp -implicitDefEqProofs (disch := omega) only [go_sem, hb, encS] <;> (repeat (with_reducible refine And.intro ?_ ?_; focus first | omega | rfl | assumption | exact ⟨_, rfl, rfl⟩ | (simp; omega) | (simp; done)))
  · have hi : i < xs.length := by omega
    have hz := hs _ (List.getElem_mem hi)
    rw [List.drop_eq_getElem_cons hi, List.all_cons] at p2
    (repeat (with_reducible refine And.intro ?_ ?_; focus first | omega | rfl | assumption | exact ⟨_, rfl, rfl⟩ | (simp; omega) | (simp; done)))
    refine call_w (specValidName_ok xs[i] (by omega)) ?_
    simp -implicitDefEqProofs (disch := omega) only [go_sem] <;> (repeat (with_reducible refine And.intro ?_ ?_; focus first | omega | rfl | assumption | exact ⟨_, rfl, rfl⟩ | (simp; omega) | (simp; done)))
    with_reducible refine split2 (fun hb => ?_) (fun hb => ?_) <;> have h := hb <;> (try simp only [wf_preprocess] at h) <;> simp -implicitDefEqProofs (disch := omega) only [go_sem, hb] <;> (repeat (with_reducible refine And.intro ?_ ?_; focus first | omega | rfl | assumption | exact ⟨_, rfl, rfl⟩ | (simp; omega) | (simp; done)))
    · rw [← p2, h]; rfl
    · exact inv_at (i + 1) (by omega) rfl rfl ⟨by omega, by rw [← p2, h]; rfl⟩
  · rw [List.drop_of_length_le (by omega)] at p2
    rw [← p2]; rfl
theorem areNames_ok (xs : List (List UInt8)) (hl : xs.length ≤ 1073741824) (hs : ∀ s ∈ xs, s.length ≤ 4194304) : PCall Tryz.prog 24 [.c (.d (.sl (xs.map encS)))] (.c (.d (.b (namesOk xs)))) := fun S => by
  have hcl : ∀ s ∈ xs, PCall Tryz.prog 56 [.c (.d (.s s))] (.c (.d (.b (!validName s)))) := fun s hx S => by
    have := hs s hx
    refine acall_cw (rs := [.tmp 2]) Tryz.checked.mixed Tryz.func56 Tryz.ntmps56 rfl rfl rfl rfl rfl ?_
    simp -implicitDefEqProofs (disch := omega) only [go_sem]
    refine call_w (implValidName_ok s (by omega)) ?_
    simp -implicitDefEqProofs (disch := omega) only [go_sem] <;> (repeat (with_reducible refine And.intro ?_ ?_; focus first | omega | rfl | assumption | exact ⟨_, rfl, rfl⟩ | (simp; omega) | (simp; done)))
  have ha : (xs.any fun s => !validName s) = !xs.all validName := by rw [List.not_all_eq_any_not]
  refine acall_cw (rs := [.tmp 2]) Tryz.checked.mixed Tryz.func24 Tryz.ntmps24 rfl rfl rfl rfl rfl ?_
  simp -implicitDefEqProofs (disch := omega) only [go_sem]
  refine call_w (implDistinct_ok xs hl) ?_
  simp -implicitDefEqProofs (disch := omega) only [go_sem] <;> (repeat (with_reducible refine And.intro ?_ ?_; focus first | omega | rfl | assumption | exact ⟨_, rfl, rfl⟩ | (simp; omega) | (simp; done)))
  with_reducible refine split2 (fun hb => ?_) (fun hb => ?_) <;> have h := hb <;> (try simp only [wf_preprocess] at h) <;> simp -implicitDefEqProofs (disch := omega) only [go_sem, hb] <;> (repeat (with_reducible refine And.intro ?_ ?_; focus first | omega | rfl | assumption | exact ⟨_, rfl, rfl⟩ | (simp; omega) | (simp; done)))
  · refine call_d rfl (containsFuncstring_ok 56 [] _ xs (fun s => !validName s) hl fun s hx => FPure.of_pure (hcl s hx)) ?_
    simp -implicitDefEqProofs (disch := omega) only [go_sem]
    rw [ha]
    exact bool_eq (by unfold namesOk; rw [hb]; simp)
  · exact bool_eq (by unfold namesOk; rw [hb]; rfl)
theorem areAmong_ok (xs ys : List (List UInt8)) (hl : xs.length ≤ 1073741824) (hl' : ys.length ≤ 1073741824) : PCall Tryz.prog 89 [.c (.d (.sl (xs.map encS))), .c (.d (.sl (ys.map encS)))] (.c (.d (.b (among xs ys)))) := fun S => by
  have ha : (xs.any fun s => !dec (s ∈ ys)) = !among xs ys := by unfold among; rw [List.not_all_eq_any_not]
  have hcl : ∀ (rest : List Ab.Obj) (s : List UInt8), FPure Tryz.prog 107 [((0, 0), 0)] ((.box [.d (.sl (ys.map encS))] :: rest) :: S) [.c (.d (.s s))] (.c (.d (.b (!dec (s ∈ ys))))) := fun rest s F => by
    refine acall_cw (rs := [.tmp 3]) Tryz.checked.mixed Tryz.func107 Tryz.ntmps107 rfl rfl rfl rfl rfl ?_
    simp -implicitDefEqProofs (disch := omega) only [go_sem]
    refine call_w (containsS_ok ys s hl') ?_
    simp -implicitDefEqProofs (disch := omega) only [go_sem] <;> (repeat (with_reducible refine And.intro ?_ ?_; focus first | omega | rfl | assumption | exact ⟨_, rfl, rfl⟩ | (simp; omega) | (simp; done)))
  refine acall_cw (rs := [.tmp 4]) Tryz.checked.mixed Tryz.func89 Tryz.ntmps89 rfl rfl rfl rfl rfl ?_
  simp -implicitDefEqProofs (disch := omega) only [go_sem]
  refine call_d rfl (containsFuncstring_ok 107 [((0, 0), 0)] _ xs (fun s => !dec (s ∈ ys)) hl fun s hx => hcl [] s) ?_
  simp -implicitDefEqProofs (disch := omega) only [go_sem]
  rw [ha]
  exact bool_eq (by simp)
theorem isTypeOver_ok (t : MType) (vars : List (List UInt8)) (hsz : t.sz ≤ 4194304) (hv : vars.length ≤ 1073741824) : PCall Tryz.prog 59 [t.v, .c (.d (.sl (vars.map encS)))] (.c (.d (.b (typeOver vars t)))) := fun S => by
  have h1 := tvars_len t []
  have h2 := cnt_le t
  refine acall_cw (rs := [.tmp 4]) Tryz.checked.mixed Tryz.func59 Tryz.ntmps59 rfl rfl rfl rfl rfl ?_
  simp -implicitDefEqProofs (disch := omega) only [go_sem]
  refine call_w (implValidType_ok t hsz) ?_
  simp -implicitDefEqProofs (disch := omega) only [go_sem] <;> (repeat (with_reducible refine And.intro ?_ ?_; focus first | omega | rfl | assumption | exact ⟨_, rfl, rfl⟩ | (simp; omega) | (simp; done)))
  with_reducible refine split2 (fun hb => ?_) (fun hb => ?_) <;> have h := hb <;> (try simp only [wf_preprocess] at h) <;> simp -implicitDefEqProofs (disch := omega) only [go_sem, hb] <;> (repeat (with_reducible refine And.intro ?_ ?_; focus first | omega | rfl | assumption | exact ⟨_, rfl, rfl⟩ | (simp; omega) | (simp; done)))
  · refine call_w (implTypeVars_ok t hsz) ?_
    simp -implicitDefEqProofs (disch := omega) only [go_sem] <;> (repeat (with_reducible refine And.intro ?_ ?_; focus first | omega | rfl | assumption | exact ⟨_, rfl, rfl⟩ | (simp; omega) | (simp; done)))
    refine call_w (areAmong_ok (tvars [] t) vars (by simp at h1; omega) hv) ?_
    simp -implicitDefEqProofs (disch := omega) only [go_sem] <;> (repeat (with_reducible refine And.intro ?_ ?_; focus first | omega | rfl | assumption | exact ⟨_, rfl, rfl⟩ | (simp; omega) | (simp; done)))
    exact bool_eq (by unfold typeOver; rw [hb]; rfl)
  · exact bool_eq (by unfold typeOver; rw [hb]; rfl)
theorem areTypesOver_ok (ts : List MType) (vars : List (List UInt8)) (hl : ts.length ≤ 1073741824) (hsz : ∀ t ∈ ts, t.sz ≤ 4194304) (hv : vars.length ≤ 1073741824) : PCall Tryz.prog 25 [.c (.d (.sl (ts.map MType.enc))), .c (.d (.sl (vars.map encS)))] (.c (.d (.b (typesOver vars ts)))) := fun S => by
  have ha : (ts.any fun t => !typeOver vars t) = !typesOver vars ts := by unfold typesOver; rw [List.not_all_eq_any_not]
  have hcl : ∀ (rest : List Ab.Obj) (t : MType), t.sz ≤ 4194304 → FPure Tryz.prog 58 [((0, 0), 0)] ((.box [.d (.sl (vars.map encS))] :: rest) :: S) [t.v] (.c (.d (.b (!typeOver vars t)))) := fun rest t ht F => by
    refine acall_cw (rs := [.tmp 3]) Tryz.checked.mixed Tryz.func58 Tryz.ntmps58 rfl rfl rfl rfl rfl ?_
    simp -implicitDefEqProofs (disch := omega) only [go_sem]
    refine call_w (isTypeOver_ok t vars ht hv) ?_
    simp -implicitDefEqProofs (disch := omega) only [go_sem] <;> (repeat (with_reducible refine And.intro ?_ ?_; focus first | omega | rfl | assumption | exact ⟨_, rfl, rfl⟩ | (simp; omega) | (simp; done)))
  refine acall_cw (rs := [.tmp 4]) Tryz.checked.mixed Tryz.func25 Tryz.ntmps25 rfl rfl rfl rfl rfl ?_
  simp -implicitDefEqProofs (disch := omega) only [go_sem]
  refine call_d rfl (containsFuncType_ok 58 [((0, 0), 0)] _ ts (fun t => !typeOver vars t) hl fun t hx => hcl [] t (hsz t hx)) ?_
  simp -implicitDefEqProofs (disch := omega) only [go_sem]
  rw [ha]
  exact bool_eq (by simp)
theorem l13Words_ok (xs : List (List UInt8)) (most : Int) (hl : xs.length ≤ 1073741824) (hs : ∀ s ∈ xs, s.length ≤ 4194304) : PCall Tryz.prog 28 [.c (.d (.sl (xs.map encS))), .c (.d (.i .i64 most))] (.c (.d (.b (dec ((xs.length : Int) ≤ most) && namesOk xs)))) := fun S => by
  refine acall_cw (rs := [.tmp 4]) Tryz.checked.mixed Tryz.func28 Tryz.ntmps28 rfl rfl rfl rfl rfl ?_
  simp -implicitDefEqProofs (disch := omega) only [go_sem]
  with_reducible refine split2 (fun hb => ?_) (fun hb => ?_) <;> have h := hb <;> (try simp only [wf_preprocess] at h) <;> simp -implicitDefEqProofs (disch := omega) only [go_sem, hb] <;> (repeat (with_reducible refine And.intro ?_ ?_; focus first | omega | rfl | assumption | exact ⟨_, rfl, rfl⟩ | (simp; omega) | (simp; done)))
  · have h1 := h
    refine call_w (l3Names_ok xs hl hs) ?_
    simp -implicitDefEqProofs (disch := omega) only [go_sem] <;> (repeat (with_reducible refine And.intro ?_ ?_; focus first | omega | rfl | assumption | exact ⟨_, rfl, rfl⟩ | (simp; omega) | (simp; done)))
    with_reducible refine split2 (fun hb => ?_) (fun hb => ?_) <;> have h := hb <;> (try simp only [wf_preprocess] at h) <;> simp -implicitDefEqProofs (disch := omega) only [go_sem, hb] <;> (repeat (with_reducible refine And.intro ?_ ?_; focus first | omega | rfl | assumption | exact ⟨_, rfl, rfl⟩ | (simp; omega) | (simp; done)))
    · refine call_w (specDistinct_ok xs hl) ?_
      simp -implicitDefEqProofs (disch := omega) only [go_sem] <;> (repeat (with_reducible refine And.intro ?_ ?_; focus first | omega | rfl | assumption | exact ⟨_, rfl, rfl⟩ | (simp; omega) | (simp; done)))
      exact bool_eq (by rw [dec_true h1]; unfold namesOk; rw [hb]; simp)
    · exact bool_eq (by rw [dec_true h1]; unfold namesOk; rw [hb]; simp)
  · exact bool_eq (by rw [dec_false h]; rfl)
theorem l13Vars_ok (t : MType) (vars : List (List UInt8)) (hsz : t.sz ≤ 4194304) (hv : vars.length ≤ 1073741824) : PCall Tryz.prog 60 [t.v, .c (.d (.sl (vars.map encS)))] (.c (.d (.b (typeOver vars t)))) := fun S => by
  have h1 := tvars_len t []
  have h2 := cnt_le t
  have hlen : (tvars [] t).length ≤ 1073741824 := by simp at h1; omega
  refine acall_cw (rs := [.tmp 4]) Tryz.checked.mixed Tryz.func60 Tryz.ntmps60 rfl rfl rfl rfl rfl ?_
  simp -implicitDefEqProofs (disch := omega) only [go_sem]
  refine call_w (specTypeVars_ok t hsz) ?_
  simp -implicitDefEqProofs (disch := omega) only [go_sem] <;> (repeat (with_reducible refine And.intro ?_ ?_; focus first | omega | rfl | assumption | exact ⟨_, rfl, rfl⟩ | (simp; omega) | (simp; done)))
  generalize hxs : tvars [] t = xs at hlen
  refine loop_at (ι := Nat) Tryz.checked.mixed rfl [1, 2, 5, 6] (fun i => [.c (.d (.sl (vars.map encS))), .c (.ptr (0, 0) 0), .c (.d (.sl (xs.map encS))), .c (.d (.i .i64 i))]) (fun _ => [.box [.d (.i .i64 t.fKind), .d (.s t.fName), .d (.sl (t.fArgs.map MType.enc))]] :: S)
    (fun i => i ≤ xs.length ∧ among (xs.drop i) vars = among xs vars) (fun i => xs.length - i) 0 rfl rfl ⟨Nat.zero_le _, rfl⟩ ?_
  rintro i ⟨p1, p2⟩
  simp -implicitDefEqProofs (disch := omega) only [go_sem, encS]
  with_reducible refine split2 (fun hb => ?_) (fun hb => ?_) <;> have h := hb <;> (try simp only [wf_preprocess] at h) <;> simp -implicitDefEqProofs (disch := omega) only [go_sem, hb, encS] <;> (repeat (with_reducible refine And.intro ?_ ?_; focus first | omega | rfl | assumption | exact ⟨_, rfl, rfl⟩ | (simp; omega) | (simp; done)))
  · have hi : i < xs.length := by omega
    rw [List.drop_eq_getElem_cons hi] at p2
    have p3 : among xs vars = (dec (xs[i] ∈ vars) && among (xs.drop (i + 1)) vars) := p2.symm
    (repeat (with_reducible refine And.intro ?_ ?_; focus first | omega | rfl | assumption | exact ⟨_, rfl, rfl⟩ | (simp; omega) | (simp; done)))
    refine call_w (l1Has_ok vars xs[i] hv) ?_
    simp -implicitDefEqProofs (disch := omega) only [go_sem] <;> (repeat (with_reducible refine And.intro ?_ ?_; focus first | omega | rfl | assumption | exact ⟨_, rfl, rfl⟩ | (simp; omega) | (simp; done)))
    with_reducible refine split2 (fun hb => ?_) (fun hb => ?_) <;> have h := hb <;> (try simp only [wf_preprocess] at h) <;> simp -implicitDefEqProofs (disch := omega) only [go_sem, hb] <;> (repeat (with_reducible refine And.intro ?_ ?_; focus first | omega | rfl | assumption | exact ⟨_, rfl, rfl⟩ | (simp; omega) | (simp; done)))
    · exact bool_eq (by unfold typeOver; rw [hxs, p3, dec_false h]; simp)
    · exact inv_at (i + 1) (by omega) rfl rfl ⟨by omega, by rw [p3, dec_true h]; rfl⟩
  · rw [List.drop_of_length_le (by omega)] at p2
    have p3 : among xs vars = true := p2.symm
    (repeat (with_reducible refine And.intro ?_ ?_; focus first | omega | rfl | assumption | exact ⟨_, rfl, rfl⟩ | (simp; omega) | (simp; done)))
    refine call_w (specValidType_ok t hsz) ?_
    simp -implicitDefEqProofs (disch := omega) only [go_sem] <;> (repeat (with_reducible refine And.intro ?_ ?_; focus first | omega | rfl | assumption | exact ⟨_, rfl, rfl⟩ | (simp; omega) | (simp; done)))
    exact bool_eq (by unfold typeOver; rw [hxs, p3]; simp)
theorem l13All_ok (ts : List MType) (vars : List (List UInt8)) (hl : ts.length ≤ 1073741824) (hsz : ∀ t ∈ ts, t.sz ≤ 4194304) (hv : vars.length ≤ 1073741824) : PCall Tryz.prog 26 [.c (.d (.sl (ts.map MType.enc))), .c (.d (.sl (vars.map encS)))] (.c (.d (.b (typesOver vars ts)))) := fun S => by
  refine acall_cw (rs := [.tmp 4]) Tryz.checked.mixed Tryz.func26 Tryz.ntmps26 rfl rfl rfl rfl rfl ?_
  simp -implicitDefEqProofs (disch := omega) only [go_sem]
  refine loop_at (ι := Nat) Tryz.checked.mixed rfl [0, 1, 5] (fun i => [.c (.d (.sl (ts.map MType.enc))), .c (.d (.sl (vars.map encS))), .c (.d (.i .i64 i))]) (fun _ => [] :: S)
    (fun i => i ≤ ts.length ∧ typesOver vars (ts.drop i) = typesOver vars ts) (fun i => ts.length - i) 0 rfl rfl ⟨Nat.zero_le _, rfl⟩ ?_
  rintro i ⟨p1, p2⟩
  simp -implicitDefEqProofs (disch := omega) only [go_sem]
  with_reducible refine split2 (fun hb => ?_) (fun hb => ?_) <;> have h := hb <;> (try simp only [wf_preprocess] at h) <;> simp -implicitDefEqProofs (disch := omega) only [go_sem, hb] <;> (repeat (with_reducible refine And.intro ?_ ?_; focus first | omega | rfl | assumption | exact ⟨_, rfl, rfl⟩ | (simp; omega) | (simp; done)))
  · have hi : i < ts.length := by omega
    rw [List.drop_eq_getElem_cons hi] at p2
    have p3 : typesOver vars ts = (typeOver vars ts[i] && typesOver vars (ts.drop (i + 1))) := p2.symm
    (repeat (with_reducible refine And.intro ?_ ?_; focus first | omega | rfl | assumption | exact ⟨_, rfl, rfl⟩ | (simp; omega) | (simp; done)))
    refine call_w (l13Vars_ok ts[i] vars (hsz _ (List.getElem_mem hi)) hv) ?_
    simp -implicitDefEqProofs (disch := omega) only [go_sem] <;> (repeat (with_reducible refine And.intro ?_ ?_; focus first | omega | rfl | assumption | exact ⟨_, rfl, rfl⟩ | (simp; omega) | (simp; done)))
    with_reducible refine split2 (fun hb => ?_) (fun hb => ?_) <;> have h := hb <;> (try simp only [wf_preprocess] at h) <;> simp -implicitDefEqProofs (disch := omega) only [go_sem, hb] <;> (repeat (with_reducible refine And.intro ?_ ?_; focus first | omega | rfl | assumption | exact ⟨_, rfl, rfl⟩ | (simp; omega) | (simp; done)))
    · rw [p3, h]; rfl
    · exact inv_at (i + 1) (by omega) rfl rfl ⟨by omega, by rw [p3, h]; rfl⟩
  · rw [List.drop_of_length_le (by omega)] at p2
    rw [← p2]; rfl
end Go.Proofs.YtnceiannponbjaaGreat

namespace Go.Ab
def ops : List (List UInt8) := [[43], [45], [42], [60], [61]]
def zeroT (t : MType) : Prop := t.fKind = 0 ∧ t.fName = [] ∧ t.fArgs.length = 0
def fieldsP (e : MExpr) : Prop :=
  (1 ≤ e.fKind ∧ e.fKind ≤ 12) ∧
  (if e.fKind = 5 ∨ e.fKind = 11 then validName e.fTrait = true else e.fTrait = []) ∧
  (if e.fKind = 3 ∨ e.fKind = 4 ∨ e.fKind = 5 ∨ e.fKind = 6 ∨ e.fKind = 8 then validName e.fName = true else if e.fKind = 10 then e.fName ∈ ops else e.fName = []) ∧
  (if e.fKind = 1 then -999999 ≤ e.fN ∧ e.fN ≤ 999999 else if e.fKind = 2 then e.fN = 0 ∨ e.fN = 1 else e.fN = 0) ∧
  (if e.fKind = 12 then validType e.fType = true else zeroT e.fType) ∧
  (if e.fKind = 4 ∨ e.fKind = 6 then True else if e.fKind = 5 then 1 ≤ e.fArgs.length else if e.fKind = 7 ∨ e.fKind = 11 ∨ e.fKind = 12 then e.fArgs.length = 1 else if e.fKind = 8 ∨ e.fKind = 10 then e.fArgs.length = 2 else if e.fKind = 9 then e.fArgs.length = 3 else e.fArgs.length = 0) ∧
  (e.fKind = 7 ↔ 0 < e.fArms.length)
mutual
noncomputable def exprOk : MExpr → Bool
  | .mk k t n m ty a b => dec (fieldsP (.mk k t n m ty a b)) && (exprsOk a && armsOk b)
noncomputable def exprsOk : List MExpr → Bool
  | [] => true
  | x :: xs => exprOk x && exprsOk xs
noncomputable def armOk : MArm → Bool
  | .mk c v b => validName c && (namesOk v && exprOk b)
noncomputable def armsOk : List MArm → Bool
  | [] => true
  | x :: xs => armOk x && armsOk xs
end
end Go.Ab
namespace Go.Ab
structure Hold (p : Prop) : Prop where
  out : p
end Go.Ab

namespace Go.Ab
end Go.Ab
namespace Go.Proofs.YtnceiannponbjaaGreat
open Go Go.Ab
theorem indexByteString_x (l : List UInt8) (b : UInt8) : XCall Tryz.prog 126 [.c (.d (.s l)), .c (.d (.i .u8 b.toNat))] (.c (.d (.i .i64 (firstIdx ⟨l.toArray⟩ b)))) := by
  refine ⟨_, Extern.BytealgIndexByte.indexByte, Tryz.func126, by kernel_rfl, by kernel_rfl, by kernel_rfl, by kernel_rfl, fun w σ S β vs hS hv => ?_⟩
  obtain ⟨hl, h⟩ := hv
  obtain ⟨v0, e0, h0, _⟩ := h 0 _ rfl
  obtain ⟨v1, e1, h1, _⟩ := h 1 _ rfl
  cases h0
  cases h1
  have hvs : vs = [.string ⟨l.toArray⟩, .int .u8 b.toNat] := by
    match vs, hl, e0, e1 with
    | [x, y], _, e0, e1 => simp at e0 e1; rw [e0, e1]
  subst hvs
  refine ⟨_, run_indexByte_string _ _ w, ?_, rfl⟩
  have hb : (b.toNat : Int).toNat.toUInt8 = b := by simp
  rw [hb]
  exact .i _ _
theorem indexByte_ok (l : List UInt8) (b : UInt8) : PCall Tryz.prog 125 [.c (.d (.s l)), .c (.d (.i .u8 b.toNat))] (.c (.d (.i .i64 (firstIdx ⟨l.toArray⟩ b)))) := fun S => by
  refine acall_cw (rs := [.tmp 4]) Tryz.checked.mixed Tryz.func125 Tryz.ntmps125 rfl rfl rfl rfl rfl ?_
  simp -implicitDefEqProofs (disch := omega) only [go_sem]
  refine call_x (indexByteString_x l b) ?_
  simp -implicitDefEqProofs (disch := omega) only [go_sem]
end Go.Proofs.YtnceiannponbjaaGreat

namespace Go.Ab
theorem atoms_idx (b : UInt8) : decide (firstIdx ⟨[39, 45, 43, 42, 60, 61, 46].toArray⟩ b ≥ 0) = decide (b ∈ ([39, 45, 43, 42, 60, 61, 46] : List UInt8)) := by
  have h : ∀ n : Nat, n < 256 → decide (firstIdx ⟨[39, 45, 43, 42, 60, 61, 46].toArray⟩ (UInt8.ofNat n) ≥ 0) = decide (UInt8.ofNat n ∈ ([39, 45, 43, 42, 60, 61, 46] : List UInt8)) := by decide +kernel
  have h1 := h b.toNat (UInt8.toNat_lt b)
  rwa [UInt8.ofNat_toNat] at h1
theorem atom_mem (b : UInt8) : b ∈ ([39, 45, 43, 42, 60, 61, 46] : List UInt8) ↔ (b.toNat = 39 ∨ b.toNat = 45 ∨ b.toNat = 43 ∨ b.toNat = 42 ∨ b.toNat = 60 ∨ b.toNat = 61 ∨ b.toNat = 46) := by
  have h : ∀ n : Nat, n < 256 → (UInt8.ofNat n ∈ ([39, 45, 43, 42, 60, 61, 46] : List UInt8) ↔ (n = 39 ∨ n = 45 ∨ n = 43 ∨ n = 42 ∨ n = 60 ∨ n = 61 ∨ n = 46)) := by decide +kernel
  have h1 := h b.toNat (UInt8.toNat_lt b)
  rwa [UInt8.ofNat_toNat] at h1
theorem atomByte_iff (b : UInt8) : atomByte b = true ↔ (97 ≤ b.toNat ∧ b.toNat ≤ 122) ∨ (48 ≤ b.toNat ∧ b.toNat ≤ 57) ∨ b.toNat = 39 ∨ b.toNat = 45 ∨ b.toNat = 43 ∨ b.toNat = 42 ∨ b.toNat = 60 ∨ b.toNat = 61 ∨ b.toNat = 46 := by
  unfold atomByte
  rw [Bool.or_eq_true, Bool.or_eq_true, decide_eq_true_eq, decide_eq_true_eq, decide_eq_true_eq, atom_mem, or_assoc]
theorem all_false {s : List UInt8} {i : Nat} (hi : i < s.length) (h : atomByte s[i] = false) : s.all atomByte = false := by
  rw [List.all_eq_false]
  exact ⟨s[i], List.getElem_mem hi, by simp [h]⟩
theorem all_true {s : List UInt8} (h : ∀ j (hj : j < s.length), atomByte s[j] = true) : s.all atomByte = true := by
  rw [List.all_eq_true]
  intro b hb
  obtain ⟨j, hj, e⟩ := List.getElem_of_mem hb
  rw [← e]; exact h j hj
theorem arg_szX {x : MSExpr} {i : Nat} (hi : i < x.fList.length) (h : x.sz ≤ 67108864) : x.fList[i].sz ≤ 67108864 ∧ x.fList.length ≤ 67108864 ∧ x.fAtom.length ≤ 67108864 := by
  have := szX_mem (List.getElem_mem hi)
  rw [sx_sz, szX_rows] at h
  omega
theorem sx_szX {x : MSExpr} (h : x.sz ≤ 67108864) : x.fList.length ≤ 67108864 ∧ x.fAtom.length ≤ 67108864 := by
  rw [sx_sz, szX_rows] at h
  omega
theorem formXs_drop {l : List MSExpr} {i : Nat} (hi : i < l.length) : formXs (l.drop i) = (formX l[i] && formXs (l.drop (i + 1))) := by rw [List.drop_eq_getElem_cons hi, formXs]
theorem depthXs_drop {l : List MSExpr} {i : Nat} (hi : i < l.length) : depthXs (l.drop i) = max (depthX l[i]) (depthXs (l.drop (i + 1))) := by rw [List.drop_eq_getElem_cons hi, depthXs]
theorem nodeXs_drop {l : List MSExpr} {i : Nat} (hi : i < l.length) : nodeXs (l.drop i) = nodeX l[i] + nodeXs (l.drop (i + 1)) := by rw [List.drop_eq_getElem_cons hi, nodeXs]
theorem node_lim {x : MSExpr} (h : x.sz ≤ 67108864) : nodeX x ≤ 67108865 := by have := nodeX_sz x; omega
theorem MSExpr.lt_fl {x : MSExpr} {i : Nat} (hi : i < x.fList.length) : SizeOf.sizeOf x.fList[i] < SizeOf.sizeOf x := by
  have := List.sizeOf_lt_of_mem (List.getElem_mem hi)
  have := MSExpr.lt_List x
  omega
end Go.Ab
namespace Go.Proofs.YtnceiannponbjaaGreat
open Go Go.Ab
theorem strIndexByte_ok (l : List UInt8) (b : UInt8) : PCall Tryz.prog 124 [.c (.d (.s l)), .c (.d (.i .u8 b.toNat))] (.c (.d (.i .i64 (firstIdx ⟨l.toArray⟩ b)))) := fun S => by
  refine acall_cw (rs := [.tmp 4]) Tryz.checked.mixed Tryz.func124 Tryz.ntmps124 rfl rfl rfl rfl rfl ?_
  simp -implicitDefEqProofs (disch := omega) only [go_sem]
  refine call_w (indexByte_ok l b) ?_
  simp -implicitDefEqProofs (disch := omega) only [go_sem] <;> (repeat (with_reducible refine And.intro ?_ ?_; focus first | omega | rfl | assumption | exact ⟨_, rfl, rfl⟩ | (simp; omega) | (simp; done)))
theorem isAtomByte_ok (b : UInt8) : PCall Tryz.prog 116 [.c (.d (.i .u8 b.toNat))] (.c (.d (.b (atomByte b)))) := fun S => by
  refine acall_cw (rs := [.tmp 2]) Tryz.checked.mixed Tryz.func116 Tryz.ntmps116 rfl rfl rfl rfl rfl ?_
  simp -implicitDefEqProofs (disch := omega) only [go_sem]
  refine call_w (isLower_ok b) ?_
  simp -implicitDefEqProofs (disch := omega) only [go_sem] <;> (repeat (with_reducible refine And.intro ?_ ?_; focus first | omega | rfl | assumption | exact ⟨_, rfl, rfl⟩ | (simp; omega) | (simp; done)))
  with_reducible refine split2 (fun hb => ?_) (fun hb => ?_) <;> have h := hb <;> (try simp only [wf_preprocess] at h) <;> simp -implicitDefEqProofs (disch := omega) only [go_sem, hb] <;> (repeat (with_reducible refine And.intro ?_ ?_; focus first | omega | rfl | assumption | exact ⟨_, rfl, rfl⟩ | (simp; omega) | (simp; done)))
  · exact bool_eq ((atomByte_iff b).2 (.inl h)).symm
  have h1 := h
  refine call_w (isDigit_ok b) ?_
  simp -implicitDefEqProofs (disch := omega) only [go_sem] <;> (repeat (with_reducible refine And.intro ?_ ?_; focus first | omega | rfl | assumption | exact ⟨_, rfl, rfl⟩ | (simp; omega) | (simp; done)))
  with_reducible refine split2 (fun hb => ?_) (fun hb => ?_) <;> have h := hb <;> (try simp only [wf_preprocess] at h) <;> simp -implicitDefEqProofs (disch := omega) only [go_sem, hb] <;> (repeat (with_reducible refine And.intro ?_ ?_; focus first | omega | rfl | assumption | exact ⟨_, rfl, rfl⟩ | (simp; omega) | (simp; done)))
  · exact bool_eq ((atomByte_iff b).2 (.inr (.inl h))).symm
  have h2 := h
  refine call_w (strIndexByte_ok [39, 45, 43, 42, 60, 61, 46] b) ?_
  simp -implicitDefEqProofs (disch := omega) only [go_sem] <;> (repeat (with_reducible refine And.intro ?_ ?_; focus first | omega | rfl | assumption | exact ⟨_, rfl, rfl⟩ | (simp; omega) | (simp; done)))
  refine bool_eq ?_
  rw [atoms_idx]
  unfold atomByte
  unfold lowerB at h1
  unfold digitB at h2
  simp [h1, h2]
theorem implAtomOk (s : List UInt8) (hs : s.length ≤ 1073741824) : PCall Tryz.prog 100 [.c (.d (.s s))] (.c (.d (.b (validAtom s)))) := fun S => by
  refine acall_cw (rs := [.tmp 2]) Tryz.checked.mixed Tryz.func100 Tryz.ntmps100 rfl rfl rfl rfl rfl ?_
  simp -implicitDefEqProofs (disch := omega) only [go_sem]
  refine loop_at (ι := Nat) Tryz.checked.mixed rfl [0, 5, 6] (fun i => [.c (.d (.s s)), .c (.d (.i .i64 s.length)), .c (.d (.i .i64 i))]) (fun _ => [] :: S)
    (fun i => i ≤ s.length ∧ ∀ j, ∀ hj : j < s.length, j < i → atomByte s[j] = true) (fun i => s.length - i) 0 rfl rfl ⟨Nat.zero_le _, fun j _ h => by omega⟩ ?_
  rintro i ⟨p1, p2⟩
  simp -implicitDefEqProofs (disch := omega) only [go_sem]
  with_reducible refine split2 (fun hb => ?_) (fun hb => ?_) <;> have h := hb <;> (try simp only [wf_preprocess] at h) <;> simp -implicitDefEqProofs (disch := omega) only [go_sem, hb] <;> (repeat (with_reducible refine And.intro ?_ ?_; focus first | omega | rfl | assumption | exact ⟨_, rfl, rfl⟩ | (simp; omega) | (simp; done)))
  · have hi : i < s.length := by omega
    have e : s.getD i 0 = s[i] := by simp [List.getD, hi]
    (repeat (with_reducible refine And.intro ?_ ?_; focus first | omega | rfl | assumption | exact ⟨_, rfl, rfl⟩ | (simp; omega) | (simp; done)))
    rw [e]
    refine call_w (isAtomByte_ok s[i]) ?_
    simp -implicitDefEqProofs (disch := omega) only [go_sem] <;> (repeat (with_reducible refine And.intro ?_ ?_; focus first | omega | rfl | assumption | exact ⟨_, rfl, rfl⟩ | (simp; omega) | (simp; done)))
    with_reducible refine split2 (fun hb => ?_) (fun hb => ?_) <;> have h := hb <;> (try simp only [wf_preprocess] at h) <;> simp -implicitDefEqProofs (disch := omega) only [go_sem, hb] <;> (repeat (with_reducible refine And.intro ?_ ?_; focus first | omega | rfl | assumption | exact ⟨_, rfl, rfl⟩ | (simp; omega) | (simp; done)))
    · exact bool_eq (by unfold validAtom; rw [all_false hi h]; rfl)
    · refine inv_at (i + 1) (by omega) rfl rfl ⟨by omega, fun j hj hji => ?_⟩
      by_cases e' : j = i
      · subst e'; exact h
      · exact p2 j hj (by omega)
  · have ha := all_true (s := s) (fun j hj => p2 j hj (by omega))
    with_reducible refine split2 (fun hb => ?_) (fun hb => ?_) <;> have h := hb <;> (try simp only [wf_preprocess] at h) <;> simp -implicitDefEqProofs (disch := omega) only [go_sem, hb] <;> (repeat (with_reducible refine And.intro ?_ ?_; focus first | omega | rfl | assumption | exact ⟨_, rfl, rfl⟩ | (simp; omega) | (simp; done)))
    · refine bool_eq ?_
      unfold validAtom
      rw [ha, Bool.true_and]
      exact decide_eq_decide.2 (by omega)
    · refine bool_eq ?_
      unfold validAtom
      rw [ha, Bool.true_and]
      exact (decide_eq_false (by omega)).symm
theorem l2Byte_ok (b : UInt8) : PCall Tryz.prog 114 [.c (.d (.i .u8 b.toNat))] (.c (.d (.b (atomByte b)))) := fun S => by
  have yes : ((97 ≤ b.toNat ∧ b.toNat ≤ 122) ∨ (48 ≤ b.toNat ∧ b.toNat ≤ 57) ∨ b.toNat = 39 ∨ b.toNat = 45 ∨ b.toNat = 43 ∨ b.toNat = 42 ∨ b.toNat = 60 ∨ b.toNat = 61 ∨ b.toNat = 46) → atomByte b = true := (atomByte_iff b).2
  have no : ¬ ((97 ≤ b.toNat ∧ b.toNat ≤ 122) ∨ (48 ≤ b.toNat ∧ b.toNat ≤ 57) ∨ b.toNat = 39 ∨ b.toNat = 45 ∨ b.toNat = 43 ∨ b.toNat = 42 ∨ b.toNat = 60 ∨ b.toNat = 61 ∨ b.toNat = 46) → atomByte b = false := fun h => by
    cases hb : atomByte b with
    | false => rfl
    | true => exact absurd ((atomByte_iff b).1 hb) h
  refine acall_cw (rs := [.tmp 2]) Tryz.checked.mixed Tryz.func114 Tryz.ntmps114 rfl rfl rfl rfl rfl ?_
  simp -implicitDefEqProofs (disch := omega) only [go_sem]
  repeat' (first | (with_reducible refine split2 (fun hb => ?_) (fun hb => ?_) <;> have h := hb <;> (try simp only [wf_preprocess] at h) <;> simp -implicitDefEqProofs (disch := omega) only [go_sem, hb] <;> (repeat (with_reducible refine And.intro ?_ ?_; focus first | omega | rfl | assumption | exact ⟨_, rfl, rfl⟩ | (simp; omega) | (simp; done)))))
  all_goals first
    | exact bool_eq (yes (by omega)).symm
    | exact bool_eq (no (by omega)).symm
    | (refine bool_eq ?_; cases hb : atomByte b <;> simp only [decide_eq_true_eq, decide_eq_false_iff_not] <;> (first | (have := (atomByte_iff b).1 hb; omega) | (intro q; have := yes (by omega); rw [hb] at this; cases this)))
theorem specAtomOk (s : List UInt8) (hs : s.length ≤ 1073741824) : PCall Tryz.prog 97 [.c (.d (.s s))] (.c (.d (.b (validAtom s)))) := fun S => by
  refine acall_cw (rs := [.tmp 2]) Tryz.checked.mixed Tryz.func97 Tryz.ntmps97 rfl rfl rfl rfl rfl ?_
  simp -implicitDefEqProofs (disch := omega) only [go_sem]
  refine loop_at (ι := Nat) Tryz.checked.mixed rfl [0, 3] (fun i => [.c (.d (.s s)), .c (.d (.i .i64 i))]) (fun _ => [] :: S)
    (fun i => i ≤ s.length ∧ ∀ j, ∀ hj : j < s.length, j < i → atomByte s[j] = true) (fun i => s.length - i) 0 rfl rfl ⟨Nat.zero_le _, fun j _ h => by omega⟩ ?_
  rintro i ⟨p1, p2⟩
  simp -implicitDefEqProofs (disch := omega) only [go_sem]
  with_reducible refine split2 (fun hb => ?_) (fun hb => ?_) <;> have h := hb <;> (try simp only [wf_preprocess] at h) <;> simp -implicitDefEqProofs (disch := omega) only [go_sem, hb] <;> (repeat (with_reducible refine And.intro ?_ ?_; focus first | omega | rfl | assumption | exact ⟨_, rfl, rfl⟩ | (simp; omega) | (simp; done)))
  · have hi : i < s.length := by omega
    have e : s.getD i 0 = s[i] := by simp [List.getD, hi]
    (repeat (with_reducible refine And.intro ?_ ?_; focus first | omega | rfl | assumption | exact ⟨_, rfl, rfl⟩ | (simp; omega) | (simp; done)))
    rw [e]
    refine call_w (l2Byte_ok s[i]) ?_
    simp -implicitDefEqProofs (disch := omega) only [go_sem] <;> (repeat (with_reducible refine And.intro ?_ ?_; focus first | omega | rfl | assumption | exact ⟨_, rfl, rfl⟩ | (simp; omega) | (simp; done)))
    with_reducible refine split2 (fun hb => ?_) (fun hb => ?_) <;> have h := hb <;> (try simp only [wf_preprocess] at h) <;> simp -implicitDefEqProofs (disch := omega) only [go_sem, hb] <;> (repeat (with_reducible refine And.intro ?_ ?_; focus first | omega | rfl | assumption | exact ⟨_, rfl, rfl⟩ | (simp; omega) | (simp; done)))
    · exact bool_eq (by unfold validAtom; rw [all_false hi h]; rfl)
    · refine inv_at (i + 1) (by omega) rfl rfl ⟨by omega, fun j hj hji => ?_⟩
      by_cases e' : j = i
      · subst e'; exact h
      · exact p2 j hj (by omega)
  · have ha := all_true (s := s) (fun j hj => p2 j hj (by omega))
    refine call_w (l1In_ok s.length 1 12) ?_
    simp -implicitDefEqProofs (disch := omega) only [go_sem] <;> (repeat (with_reducible refine And.intro ?_ ?_; focus first | omega | rfl | assumption | exact ⟨_, rfl, rfl⟩ | (simp; omega) | (simp; done)))
    refine bool_eq ?_
    unfold validAtom
    rw [ha, Bool.true_and, ← decide_dec]
    exact decide_eq_decide.2 (by omega)
theorem areAtoms_all : ∀ n : Nat, (∀ x : MSExpr, SizeOf.sizeOf x < n → x.sz ≤ 67108864 → PCall Tryz.prog 80 [x.v] (.c (.d (.b (formX x))))) ∧
    (∀ xs : List MSExpr, SizeOf.sizeOf xs < n → xs.length ≤ 67108864 → (∀ t ∈ xs, t.sz ≤ 67108864) → PCall Tryz.prog 101 [.c (.d (.sl (xs.map MSExpr.enc))), .c (.fn 102 [])] (.c (.d (.b (!formXs xs)))))
  | 0 => ⟨fun x h => by omega, fun x h => by omega⟩
  | n + 1 => by
    obtain ⟨ih, ihS⟩ := areAtoms_all n
    refine ⟨fun x hn hsz S => ?_, fun xs hn hlen hsz S => ?_⟩
    · have lArgs := MSExpr.lt_List x
      have hts := sx_szX hsz
      have hall : ∀ t ∈ x.fList, t.sz ≤ 67108864 := fun t ht => by
        obtain ⟨i, hi, e⟩ := List.getElem_of_mem ht
        rw [← e]; exact (arg_szX hi hsz).1
      have tail := ihS x.fList (by omega) hts.1 hall
      have hf := formX_eq x
      refine acall_cw (rs := [.tmp 2]) Tryz.checked.mixed Tryz.func80 Tryz.ntmps80 rfl rfl rfl rfl rfl ?_
      simp -implicitDefEqProofs (disch := omega) only [go_sem]
      with_reducible refine split2 (fun hb => ?_) (fun hb => ?_) <;> have h := hb <;> (try simp only [wf_preprocess] at h) <;> simp -implicitDefEqProofs (disch := omega) only [go_sem, hb] <;> (repeat (with_reducible refine And.intro ?_ ?_; focus first | omega | rfl | assumption | exact ⟨_, rfl, rfl⟩ | (simp; omega) | (simp; done)))
      · rw [if_neg h] at hf
        refine call_w (implAtomOk x.fAtom (by omega)) ?_
        simp -implicitDefEqProofs (disch := omega) only [go_sem] <;> (repeat (with_reducible refine And.intro ?_ ?_; focus first | omega | rfl | assumption | exact ⟨_, rfl, rfl⟩ | (simp; omega) | (simp; done)))
        with_reducible refine split2 (fun hb => ?_) (fun hb => ?_) <;> have h := hb <;> (try simp only [wf_preprocess] at h) <;> simp -implicitDefEqProofs (disch := omega) only [go_sem, hb] <;> (repeat (with_reducible refine And.intro ?_ ?_; focus first | omega | rfl | assumption | exact ⟨_, rfl, rfl⟩ | (simp; omega) | (simp; done)))
        · rw [hf, h, Bool.true_and]
          exact bool_eq (decide_eq_decide.2 (by omega))
        · rw [hf, h, Bool.false_and]
      · rw [if_pos h] at hf
        refine call_w tail ?_
        simp -implicitDefEqProofs (disch := omega) only [go_sem]
        rw [hf, Bool.not_not]
    · have hcl : ∀ y ∈ xs, PCall Tryz.prog 102 [y.v] (.c (.d (.b (!formX y)))) := fun y hy S => by
        have hys := List.sizeOf_lt_of_mem hy
        refine acall_cw (rs := [.tmp 2]) Tryz.checked.mixed Tryz.func102 Tryz.ntmps102 rfl rfl rfl rfl rfl ?_
        simp -implicitDefEqProofs (disch := omega) only [go_sem]
        refine call_w (ih y (by omega) (hsz y hy)) ?_
        simp -implicitDefEqProofs (disch := omega) only [go_sem] <;> (repeat (with_reducible refine And.intro ?_ ?_; focus first | omega | rfl | assumption | exact ⟨_, rfl, rfl⟩ | (simp; omega) | (simp; done)))
      have hidx : PCall Tryz.prog 117 [.c (.d (.sl (xs.map MSExpr.enc))), .c (.fn 102 [])] (.c (.d (.i .i64 (indexP (fun y => !formX y) xs)))) := fun S => by
        refine acall_cw (rs := [.tmp 4]) Tryz.checked.mixed Tryz.func117 Tryz.ntmps117 rfl rfl rfl rfl rfl ?_
        simp -implicitDefEqProofs (disch := omega) only [go_sem]
        refine loop_at (ι := Nat) Tryz.checked.mixed rfl [0, 1, 7, 8] (fun i => [.c (.d (.sl (xs.map MSExpr.enc))), .c (.fn 102 []), .c (.d (.i .i64 xs.length)), .c (.d (.i .i64 i))]) (fun _ => [] :: S)
          (fun i => i ≤ xs.length ∧ ∀ j, ∀ hj : j < xs.length, j < i → formX xs[j] = true) (fun i => xs.length - i) 0 rfl rfl ⟨Nat.zero_le _, fun j _ h => by omega⟩ ?_
        rintro i ⟨p1, p2⟩
        simp -implicitDefEqProofs (disch := omega) only [go_sem]
        with_reducible refine split2 (fun hb => ?_) (fun hb => ?_) <;> have h := hb <;> (try simp only [wf_preprocess] at h) <;> simp -implicitDefEqProofs (disch := omega) only [go_sem, hb] <;> (repeat (with_reducible refine And.intro ?_ ?_; focus first | omega | rfl | assumption | exact ⟨_, rfl, rfl⟩ | (simp; omega) | (simp; done)))
        · have hi : i < xs.length := by omega
          (repeat (with_reducible refine And.intro ?_ ?_; focus first | omega | rfl | assumption | exact ⟨_, rfl, rfl⟩ | (simp; omega) | (simp; done)))
          refine call_w (hcl xs[i] (List.getElem_mem hi)) ?_
          simp -implicitDefEqProofs (disch := omega) only [go_sem] <;> (repeat (with_reducible refine And.intro ?_ ?_; focus first | omega | rfl | assumption | exact ⟨_, rfl, rfl⟩ | (simp; omega) | (simp; done)))
          with_reducible refine split2 (fun hb => ?_) (fun hb => ?_) <;> have h := hb <;> (try simp only [wf_preprocess] at h) <;> simp -implicitDefEqProofs (disch := omega) only [go_sem, hb] <;> (repeat (with_reducible refine And.intro ?_ ?_; focus first | omega | rfl | assumption | exact ⟨_, rfl, rfl⟩ | (simp; omega) | (simp; done)))
          · rw [indexP_here hi (fun j hj hji => by rw [p2 j hj hji]; rfl) (by rw [h]; rfl)]
          · refine inv_at (i + 1) (by omega) rfl rfl ⟨by omega, fun j hj hji => ?_⟩
            by_cases e : j = i
            · subst e; exact h
            · exact p2 j hj (by omega)
        · rw [indexP_no (fun j hj => by rw [p2 j hj (by omega)]; rfl)]
      refine acall_cw (rs := [.tmp 4]) Tryz.checked.mixed Tryz.func101 Tryz.ntmps101 rfl rfl rfl rfl rfl ?_
      simp -implicitDefEqProofs (disch := omega) only [go_sem]
      refine call_w (hidx) ?_
      simp -implicitDefEqProofs (disch := omega) only [go_sem] <;> (repeat (with_reducible refine And.intro ?_ ?_; focus first | omega | rfl | assumption | exact ⟨_, rfl, rfl⟩ | (simp; omega) | (simp; done)))
      rw [← formXs_any]
      exact bool_eq indexP_pos
theorem areAtoms_ok (x : MSExpr) (hsz : x.sz ≤ 67108864) : PCall Tryz.prog 80 [x.v] (.c (.d (.b (formX x)))) := (areAtoms_all _).1 x (Nat.lt_succ_self _) hsz
theorem implDepthX_all : ∀ n : Nat, ∀ x : MSExpr, SizeOf.sizeOf x < n → x.sz ≤ 67108864 → PCall Tryz.prog 81 [x.v] (.c (.d (.i .i64 (depthX x))))
  | 0 => fun x h => by omega
  | n + 1 => by
    have ih := implDepthX_all n
    intro x hn hsz S
    have hts := sx_szX hsz
    have hd := depthX_eq x
    have hd1 := depthX_node x
    have hd2 := node_lim hsz
    refine acall_cw (rs := [.tmp 2]) Tryz.checked.mixed Tryz.func81 Tryz.ntmps81 rfl rfl rfl rfl rfl ?_
    simp -implicitDefEqProofs (disch := omega) only [go_sem]
    with_reducible refine split2 (fun hb => ?_) (fun hb => ?_) <;> have h := hb <;> (try simp only [wf_preprocess] at h) <;> simp -implicitDefEqProofs (disch := omega) only [go_sem, hb] <;> (repeat (with_reducible refine And.intro ?_ ?_; focus first | omega | rfl | assumption | exact ⟨_, rfl, rfl⟩ | (simp; omega) | (simp; done)))
    · rw [if_neg h] at hd
      rw [hd]; rfl
    rw [if_pos h] at hd
    refine loop_at (ι := Nat × Nat) Tryz.checked.mixed rfl [3, 10, 11, 12] (fun y => [.c (.d (.i .i64 y.2)), .c (.d (.sl (x.fList.map MSExpr.enc))), .c (.d (.i .i64 x.fList.length)), .c (.d (.i .i64 y.1))]) (fun y => [.box [.d (.s x.fAtom), .d (.sl (x.fList.map MSExpr.enc))]] :: S)
      (fun y => y.1 ≤ x.fList.length ∧ depthX x = max y.2 (depthXs (x.fList.drop y.1)) + 1) (fun y => x.fList.length - y.1) (0, 0) rfl rfl ⟨Nat.zero_le _, by simp [hd]⟩ ?_
    rintro ⟨i, c⟩ ⟨p1, p2⟩
    simp only at p1 p2
    simp -implicitDefEqProofs (disch := omega) only [go_sem]
    with_reducible refine split2 (fun hb => ?_) (fun hb => ?_) <;> have h := hb <;> (try simp only [wf_preprocess] at h) <;> simp -implicitDefEqProofs (disch := omega) only [go_sem, hb] <;> (repeat (with_reducible refine And.intro ?_ ?_; focus first | omega | rfl | assumption | exact ⟨_, rfl, rfl⟩ | (simp; omega) | (simp; done)))
    · have hi : i < x.fList.length := by omega
      have hsz' := arg_szX hi hsz
      rw [depthXs_drop hi] at p2
      (repeat (with_reducible refine And.intro ?_ ?_; focus first | omega | rfl | assumption | exact ⟨_, rfl, rfl⟩ | (simp; omega) | (simp; done)))
      refine call_w (ih x.fList[i] (by have := MSExpr.lt_fl hi; omega) (by omega)) ?_
      simp -implicitDefEqProofs (disch := omega) only [go_sem] <;> (repeat (with_reducible refine And.intro ?_ ?_; focus first | omega | rfl | assumption | exact ⟨_, rfl, rfl⟩ | (simp; omega) | (simp; done)))
      rw [show max (c : Int) ((depthX x.fList[i] : Int)) = ((max c (depthX x.fList[i]) : Nat) : Int) by omega]
      exact inv_drop 1 (by decide) (i + 1, max c (depthX x.fList[i])) (by simp only; omega) rfl rfl rfl rfl ⟨by simp only; omega, by simp only; omega⟩
    · have hi : i = x.fList.length := by omega
      rw [hi, List.drop_length, depthXs] at p2
      (repeat (with_reducible refine And.intro ?_ ?_; focus first | omega | rfl | assumption | exact ⟨_, rfl, rfl⟩ | (simp; omega) | (simp; done)))
      exact int_eq (by omega)
theorem implDepthX_ok (x : MSExpr) (hsz : x.sz ≤ 67108864) : PCall Tryz.prog 81 [x.v] (.c (.d (.i .i64 (depthX x)))) := implDepthX_all _ x (Nat.lt_succ_self _) hsz
theorem implNodeX_all : ∀ n : Nat, ∀ x : MSExpr, SizeOf.sizeOf x < n → x.sz ≤ 67108864 → PCall Tryz.prog 82 [x.v] (.c (.d (.i .i64 (nodeX x))))
  | 0 => fun x h => by omega
  | n + 1 => by
    have ih := implNodeX_all n
    intro x hn hsz S
    have hts := sx_szX hsz
    have hd2 := node_lim hsz
    refine acall_cw (rs := [.tmp 2]) Tryz.checked.mixed Tryz.func82 Tryz.ntmps82 rfl rfl rfl rfl rfl ?_
    simp -implicitDefEqProofs (disch := omega) only [go_sem]
    refine loop_at (ι := Nat × Nat) Tryz.checked.mixed rfl [3, 7, 8, 9] (fun y => [.c (.d (.i .i64 y.2)), .c (.d (.sl (x.fList.map MSExpr.enc))), .c (.d (.i .i64 x.fList.length)), .c (.d (.i .i64 y.1))]) (fun y => [.box [.d (.s x.fAtom), .d (.sl (x.fList.map MSExpr.enc))]] :: S)
      (fun y => y.1 ≤ x.fList.length ∧ nodeX x = y.2 + nodeXs (x.fList.drop y.1)) (fun y => x.fList.length - y.1) (0, 1) rfl rfl ⟨Nat.zero_le _, by simp [nodeX_eq]; omega⟩ ?_
    rintro ⟨i, c⟩ ⟨p1, p2⟩
    simp only at p1 p2
    simp -implicitDefEqProofs (disch := omega) only [go_sem]
    with_reducible refine split2 (fun hb => ?_) (fun hb => ?_) <;> have h := hb <;> (try simp only [wf_preprocess] at h) <;> simp -implicitDefEqProofs (disch := omega) only [go_sem, hb] <;> (repeat (with_reducible refine And.intro ?_ ?_; focus first | omega | rfl | assumption | exact ⟨_, rfl, rfl⟩ | (simp; omega) | (simp; done)))
    · have hi : i < x.fList.length := by omega
      have hsz' := arg_szX hi hsz
      rw [nodeXs_drop hi] at p2
      (repeat (with_reducible refine And.intro ?_ ?_; focus first | omega | rfl | assumption | exact ⟨_, rfl, rfl⟩ | (simp; omega) | (simp; done)))
      refine call_w (ih x.fList[i] (by have := MSExpr.lt_fl hi; omega) (by omega)) ?_
      simp -implicitDefEqProofs (disch := omega) only [go_sem] <;> (repeat (with_reducible refine And.intro ?_ ?_; focus first | omega | rfl | assumption | exact ⟨_, rfl, rfl⟩ | (simp; omega) | (simp; done)))
      rw [show (c : Int) + (nodeX x.fList[i] : Int) = ((c + nodeX x.fList[i] : Nat) : Int) by omega]
      exact inv_drop 1 (by decide) (i + 1, c + nodeX x.fList[i]) (by simp only; omega) rfl rfl rfl rfl ⟨by simp only; omega, by simp only; omega⟩
    · have hi : i = x.fList.length := by omega
      rw [hi, List.drop_length, nodeXs] at p2
      exact int_eq (by omega)
theorem implNodeX_ok (x : MSExpr) (hsz : x.sz ≤ 67108864) : PCall Tryz.prog 82 [x.v] (.c (.d (.i .i64 (nodeX x)))) := implNodeX_all _ x (Nat.lt_succ_self _) hsz
theorem implValidX_ok (x : MSExpr) (hsz : x.sz ≤ 67108864) : PCall Tryz.prog 44 [x.v] (.c (.d (.b (validX x)))) := fun S => by
  refine acall_cw (rs := [.tmp 2]) Tryz.checked.mixed Tryz.func44 Tryz.ntmps44 rfl rfl rfl rfl rfl ?_
  simp -implicitDefEqProofs (disch := omega) only [go_sem]
  refine call_w (areAtoms_ok x hsz) ?_
  simp -implicitDefEqProofs (disch := omega) only [go_sem] <;> (repeat (with_reducible refine And.intro ?_ ?_; focus first | omega | rfl | assumption | exact ⟨_, rfl, rfl⟩ | (simp; omega) | (simp; done)))
  with_reducible refine split2 (fun hb => ?_) (fun hb => ?_) <;> have h := hb <;> (try simp only [wf_preprocess] at h) <;> simp -implicitDefEqProofs (disch := omega) only [go_sem, hb] <;> (repeat (with_reducible refine And.intro ?_ ?_; focus first | omega | rfl | assumption | exact ⟨_, rfl, rfl⟩ | (simp; omega) | (simp; done)))
  · have hf := h
    refine call_w (implDepthX_ok x hsz) ?_
    simp -implicitDefEqProofs (disch := omega) only [go_sem] <;> (repeat (with_reducible refine And.intro ?_ ?_; focus first | omega | rfl | assumption | exact ⟨_, rfl, rfl⟩ | (simp; omega) | (simp; done)))
    with_reducible refine split2 (fun hb => ?_) (fun hb => ?_) <;> have h := hb <;> (try simp only [wf_preprocess] at h) <;> simp -implicitDefEqProofs (disch := omega) only [go_sem, hb] <;> (repeat (with_reducible refine And.intro ?_ ?_; focus first | omega | rfl | assumption | exact ⟨_, rfl, rfl⟩ | (simp; omega) | (simp; done)))
    · refine call_w (implNodeX_ok x hsz) ?_
      simp -implicitDefEqProofs (disch := omega) only [go_sem] <;> (repeat (with_reducible refine And.intro ?_ ?_; focus first | omega | rfl | assumption | exact ⟨_, rfl, rfl⟩ | (simp; omega) | (simp; done)))
      refine bool_eq ?_
      unfold validX
      rw [hf, Bool.true_and]
      exact decide_eq_decide.2 (by omega)
    · refine bool_eq ?_
      unfold validX
      rw [hf, Bool.true_and]
      exact (decide_eq_false (by omega)).symm
  · refine bool_eq ?_
    unfold validX
    rw [h, Bool.false_and]
theorem l2Left_all : ∀ n : Nat, ∀ x : MSExpr, SizeOf.sizeOf x < n → ∀ l : Int, 0 ≤ l → l ≤ 1073741824 → x.sz ≤ 67108864 → PCall Tryz.prog 74 [x.v, .c (.d (.i .i64 l))] (.c (.d (.i .i64 (sub1 l (nodeX x)))))
  | 0 => fun x h => by omega
  | n + 1 => by
    have ih := l2Left_all n
    intro x hn l h0 h1 hsz S
    have hts := sx_szX hsz
    have hcn := nodeX_eq x
    refine acall_cw (rs := [.tmp 4]) Tryz.checked.mixed Tryz.func74 Tryz.ntmps74 rfl rfl rfl rfl rfl ?_
    simp -implicitDefEqProofs (disch := omega) only [go_sem]
    refine loop_at (ι := Nat × Int) Tryz.checked.mixed rfl [1, 2, 5] (fun y => [.c (.d (.i .i64 y.2)), .c (.ptr (0, 0) 0), .c (.d (.i .i64 y.1))]) (fun y => [.box [.d (.s x.fAtom), .d (.sl (x.fList.map MSExpr.enc))]] :: S)
      (fun y => y.1 ≤ x.fList.length ∧ -1 ≤ y.2 ∧ y.2 ≤ 1073741824 ∧ (0 ≤ y.2 → sub1 l (nodeX x) = sub1 y.2 (nodeXs (x.fList.drop y.1))) ∧ (y.2 < 0 → sub1 l (nodeX x) = -1)) (fun y => x.fList.length - y.1) (0, l - 1) rfl rfl ⟨Nat.zero_le _, by simp only; omega, by simp only; omega, fun h => ?_, fun h => ?_⟩ ?_
    · simp only [List.drop_zero] at h ⊢
      unfold sub1
      rw [hcn]
      split <;> split <;> omega
    · simp only at h
      exact sub1_no (by omega)
    rintro ⟨i, c⟩ ⟨p1, p2, p3, p4, p5⟩
    simp only at p1 p2 p3 p4 p5
    simp -implicitDefEqProofs (disch := omega) only [go_sem]
    with_reducible refine split2 (fun hb => ?_) (fun hb => ?_) <;> have h := hb <;> (try simp only [wf_preprocess] at h) <;> simp -implicitDefEqProofs (disch := omega) only [go_sem, hb] <;> (repeat (with_reducible refine And.intro ?_ ?_; focus first | omega | rfl | assumption | exact ⟨_, rfl, rfl⟩ | (simp; omega) | (simp; done)))
    · have hi : i < x.fList.length := by omega
      with_reducible refine split2 (fun hb => ?_) (fun hb => ?_) <;> have h := hb <;> (try simp only [wf_preprocess] at h) <;> simp -implicitDefEqProofs (disch := omega) only [go_sem, hb] <;> (repeat (with_reducible refine And.intro ?_ ?_; focus first | omega | rfl | assumption | exact ⟨_, rfl, rfl⟩ | (simp; omega) | (simp; done)))
      · have hsz' := arg_szX hi hsz
        have p6 := p4 h
        rw [nodeXs_drop hi] at p6
        (repeat (with_reducible refine And.intro ?_ ?_; focus first | omega | rfl | assumption | exact ⟨_, rfl, rfl⟩ | (simp; omega) | (simp; done)))
        refine call_w (ih x.fList[i] (by have := MSExpr.lt_fl hi; omega) c (by omega) (by omega) (by omega)) ?_
        simp -implicitDefEqProofs (disch := omega) only [go_sem] <;> (repeat (with_reducible refine And.intro ?_ ?_; focus first | omega | rfl | assumption | exact ⟨_, rfl, rfl⟩ | (simp; omega) | (simp; done)))
        refine inv_at (i + 1, sub1 c _) (by simp only; omega) rfl rfl ⟨by simp only; omega, ?_, ?_, fun h => ?_, fun h => ?_⟩
        · simp only; unfold sub1; split <;> omega
        · simp only; unfold sub1; split <;> omega
        · simp only at h ⊢
          rw [p6]
          have := sub1_nn (l := c) (a := nodeX x.fList[i]) (by omega)
          rw [this.1]
          unfold sub1
          split <;> split <;> omega
        · simp only at h ⊢
          rw [p6]
          have := sub1_neg h
          exact sub1_no (by omega)
      · have hc : c = -1 := by omega
        rw [p5 (by omega), hc]
    · have hi : i = x.fList.length := by omega
      by_cases hc : 0 ≤ c
      · rw [p4 hc, hi, List.drop_length, nodeXs, sub1_yes (by omega)]
        exact int_eq (by simp)
      · rw [p5 (by omega)]
        exact int_eq (by omega)
theorem l2Left_ok (x : MSExpr) (l : Int) (h0 : 0 ≤ l) (h1 : l ≤ 1073741824) (hsz : x.sz ≤ 67108864) : PCall Tryz.prog 74 [x.v, .c (.d (.i .i64 l))] (.c (.d (.i .i64 (sub1 l (nodeX x))))) := l2Left_all _ x (Nat.lt_succ_self _) l h0 h1 hsz
theorem l2Form_all : ∀ n : Nat, ∀ x : MSExpr, SizeOf.sizeOf x < n → x.sz ≤ 67108864 → PCall Tryz.prog 75 [x.v] (.c (.d (.b (formX x))))
  | 0 => fun x h => by omega
  | n + 1 => by
    have ih := l2Form_all n
    intro x hn hsz S
    have hts := sx_szX hsz
    have hf := formX_eq x
    refine acall_cw (rs := [.tmp 2]) Tryz.checked.mixed Tryz.func75 Tryz.ntmps75 rfl rfl rfl rfl rfl ?_
    simp -implicitDefEqProofs (disch := omega) only [go_sem]
    with_reducible refine split2 (fun hb => ?_) (fun hb => ?_) <;> have h := hb <;> (try simp only [wf_preprocess] at h) <;> simp -implicitDefEqProofs (disch := omega) only [go_sem, hb] <;> (repeat (with_reducible refine And.intro ?_ ?_; focus first | omega | rfl | assumption | exact ⟨_, rfl, rfl⟩ | (simp; omega) | (simp; done)))
    · rw [if_neg h] at hf
      refine call_w (specAtomOk x.fAtom (by omega)) ?_
      simp -implicitDefEqProofs (disch := omega) only [go_sem] <;> (repeat (with_reducible refine And.intro ?_ ?_; focus first | omega | rfl | assumption | exact ⟨_, rfl, rfl⟩ | (simp; omega) | (simp; done)))
      with_reducible refine split2 (fun hb => ?_) (fun hb => ?_) <;> have h := hb <;> (try simp only [wf_preprocess] at h) <;> simp -implicitDefEqProofs (disch := omega) only [go_sem, hb] <;> (repeat (with_reducible refine And.intro ?_ ?_; focus first | omega | rfl | assumption | exact ⟨_, rfl, rfl⟩ | (simp; omega) | (simp; done)))
      · rw [hf, h, Bool.true_and]
        exact bool_eq (decide_eq_decide.2 (by omega))
      · rw [hf, h, Bool.false_and]
    rw [if_pos h] at hf
    refine loop_at (ι := Nat) Tryz.checked.mixed rfl [1, 3] (fun y => [.c (.ptr (0, 0) 0), .c (.d (.i .i64 y))]) (fun y => [.box [.d (.s x.fAtom), .d (.sl (x.fList.map MSExpr.enc))]] :: S)
      (fun y => y ≤ x.fList.length ∧ formX x = formXs (x.fList.drop y)) (fun y => x.fList.length - y) 0 rfl rfl ⟨Nat.zero_le _, hf⟩ ?_
    rintro i ⟨p1, p2⟩
    simp -implicitDefEqProofs (disch := omega) only [go_sem]
    with_reducible refine split2 (fun hb => ?_) (fun hb => ?_) <;> have h := hb <;> (try simp only [wf_preprocess] at h) <;> simp -implicitDefEqProofs (disch := omega) only [go_sem, hb] <;> (repeat (with_reducible refine And.intro ?_ ?_; focus first | omega | rfl | assumption | exact ⟨_, rfl, rfl⟩ | (simp; omega) | (simp; done)))
    · have hi : i < x.fList.length := by omega
      have hsz' := arg_szX hi hsz
      rw [formXs_drop hi] at p2
      (repeat (with_reducible refine And.intro ?_ ?_; focus first | omega | rfl | assumption | exact ⟨_, rfl, rfl⟩ | (simp; omega) | (simp; done)))
      refine call_w (ih x.fList[i] (by have := MSExpr.lt_fl hi; omega) (by omega)) ?_
      simp -implicitDefEqProofs (disch := omega) only [go_sem] <;> (repeat (with_reducible refine And.intro ?_ ?_; focus first | omega | rfl | assumption | exact ⟨_, rfl, rfl⟩ | (simp; omega) | (simp; done)))
      with_reducible refine split2 (fun hb => ?_) (fun hb => ?_) <;> have h := hb <;> (try simp only [wf_preprocess] at h) <;> simp -implicitDefEqProofs (disch := omega) only [go_sem, hb] <;> (repeat (with_reducible refine And.intro ?_ ?_; focus first | omega | rfl | assumption | exact ⟨_, rfl, rfl⟩ | (simp; omega) | (simp; done)))
      · rw [p2, h, Bool.false_and]
      · exact inv_at (i + 1) (by omega) rfl rfl ⟨by omega, by rw [p2, h, Bool.true_and]⟩
    · have hi : i = x.fList.length := by omega
      rw [hi, List.drop_length, formXs] at p2
      rw [p2]
theorem l2Form_ok (x : MSExpr) (hsz : x.sz ≤ 67108864) : PCall Tryz.prog 75 [x.v] (.c (.d (.b (formX x)))) := l2Form_all _ x (Nat.lt_succ_self _) hsz
theorem specDepthX_all : ∀ n : Nat, ∀ x : MSExpr, SizeOf.sizeOf x < n → x.sz ≤ 67108864 → PCall Tryz.prog 76 [x.v] (.c (.d (.i .i64 (depthX x))))
  | 0 => fun x h => by omega
  | n + 1 => by
    have ih := specDepthX_all n
    intro x hn hsz S
    have hts := sx_szX hsz
    have hd := depthX_eq x
    have hd1 := depthX_node x
    have hd2 := node_lim hsz
    refine acall_cw (rs := [.tmp 2]) Tryz.checked.mixed Tryz.func76 Tryz.ntmps76 rfl rfl rfl rfl rfl ?_
    simp -implicitDefEqProofs (disch := omega) only [go_sem]
    with_reducible refine split2 (fun hb => ?_) (fun hb => ?_) <;> have h := hb <;> (try simp only [wf_preprocess] at h) <;> simp -implicitDefEqProofs (disch := omega) only [go_sem, hb] <;> (repeat (with_reducible refine And.intro ?_ ?_; focus first | omega | rfl | assumption | exact ⟨_, rfl, rfl⟩ | (simp; omega) | (simp; done)))
    · rw [if_neg h] at hd
      rw [hd]; rfl
    rw [if_pos h] at hd
    refine loop_at (ι := Nat × Nat) Tryz.checked.mixed rfl [1, 3, 4] (fun y => [.c (.ptr (0, 0) 0), .c (.d (.i .i64 y.2)), .c (.d (.i .i64 y.1))]) (fun y => [.box [.d (.s x.fAtom), .d (.sl (x.fList.map MSExpr.enc))]] :: S)
      (fun y => y.1 ≤ x.fList.length ∧ depthX x = max y.2 (depthXs (x.fList.drop y.1)) + 1) (fun y => x.fList.length - y.1) (0, 0) rfl rfl ⟨Nat.zero_le _, by simp [hd]⟩ ?_
    rintro ⟨i, c⟩ ⟨p1, p2⟩
    simp only at p1 p2
    simp -implicitDefEqProofs (disch := omega) only [go_sem]
    with_reducible refine split2 (fun hb => ?_) (fun hb => ?_) <;> have h := hb <;> (try simp only [wf_preprocess] at h) <;> simp -implicitDefEqProofs (disch := omega) only [go_sem, hb] <;> (repeat (with_reducible refine And.intro ?_ ?_; focus first | omega | rfl | assumption | exact ⟨_, rfl, rfl⟩ | (simp; omega) | (simp; done)))
    · have hi : i < x.fList.length := by omega
      have hsz' := arg_szX hi hsz
      rw [depthXs_drop hi] at p2
      (repeat (with_reducible refine And.intro ?_ ?_; focus first | omega | rfl | assumption | exact ⟨_, rfl, rfl⟩ | (simp; omega) | (simp; done)))
      refine call_w (ih x.fList[i] (by have := MSExpr.lt_fl hi; omega) (by omega)) ?_
      simp -implicitDefEqProofs (disch := omega) only [go_sem] <;> (repeat (with_reducible refine And.intro ?_ ?_; focus first | omega | rfl | assumption | exact ⟨_, rfl, rfl⟩ | (simp; omega) | (simp; done)))
      refine call_w (l1Max_ok _ _) ?_
      simp -implicitDefEqProofs (disch := omega) only [go_sem] <;> (repeat (with_reducible refine And.intro ?_ ?_; focus first | omega | rfl | assumption | exact ⟨_, rfl, rfl⟩ | (simp; omega) | (simp; done)))
      rw [show max (c : Int) ((depthX x.fList[i] : Int)) = ((max c (depthX x.fList[i]) : Nat) : Int) by omega]
      exact inv_at (i + 1, max c (depthX x.fList[i])) (by simp only; omega) rfl rfl ⟨by simp only; omega, by simp only; omega⟩
    · have hi : i = x.fList.length := by omega
      rw [hi, List.drop_length, depthXs] at p2
      (repeat (with_reducible refine And.intro ?_ ?_; focus first | omega | rfl | assumption | exact ⟨_, rfl, rfl⟩ | (simp; omega) | (simp; done)))
      exact int_eq (by omega)
theorem specDepthX_ok (x : MSExpr) (hsz : x.sz ≤ 67108864) : PCall Tryz.prog 76 [x.v] (.c (.d (.i .i64 (depthX x)))) := specDepthX_all _ x (Nat.lt_succ_self _) hsz
theorem specValidX_ok (x : MSExpr) (hsz : x.sz ≤ 67108864) : PCall Tryz.prog 38 [x.v] (.c (.d (.b (validX x)))) := fun S => by
  refine acall_cw (rs := [.tmp 2]) Tryz.checked.mixed Tryz.func38 Tryz.ntmps38 rfl rfl rfl rfl rfl ?_
  simp -implicitDefEqProofs (disch := omega) only [go_sem]
  refine call_w (l2Left_ok x 900 (by omega) (by omega) hsz) ?_
  simp -implicitDefEqProofs (disch := omega) only [go_sem] <;> (repeat (with_reducible refine And.intro ?_ ?_; focus first | omega | rfl | assumption | exact ⟨_, rfl, rfl⟩ | (simp; omega) | (simp; done)))
  with_reducible refine split2 (fun hb => ?_) (fun hb => ?_) <;> have h := hb <;> (try simp only [wf_preprocess] at h) <;> simp -implicitDefEqProofs (disch := omega) only [go_sem, hb] <;> (repeat (with_reducible refine And.intro ?_ ?_; focus first | omega | rfl | assumption | exact ⟨_, rfl, rfl⟩ | (simp; omega) | (simp; done)))
  · have h1 := (sub1_nn (l := 900) (a := nodeX x) (by omega)).2
    refine call_w (l2Form_ok x hsz) ?_
    simp -implicitDefEqProofs (disch := omega) only [go_sem] <;> (repeat (with_reducible refine And.intro ?_ ?_; focus first | omega | rfl | assumption | exact ⟨_, rfl, rfl⟩ | (simp; omega) | (simp; done)))
    with_reducible refine split2 (fun hb => ?_) (fun hb => ?_) <;> have h := hb <;> (try simp only [wf_preprocess] at h) <;> simp -implicitDefEqProofs (disch := omega) only [go_sem, hb] <;> (repeat (with_reducible refine And.intro ?_ ?_; focus first | omega | rfl | assumption | exact ⟨_, rfl, rfl⟩ | (simp; omega) | (simp; done)))
    · have hf := h
      refine call_w (specDepthX_ok x hsz) ?_
      simp -implicitDefEqProofs (disch := omega) only [go_sem] <;> (repeat (with_reducible refine And.intro ?_ ?_; focus first | omega | rfl | assumption | exact ⟨_, rfl, rfl⟩ | (simp; omega) | (simp; done)))
      refine bool_eq ?_
      unfold validX
      rw [hf, Bool.true_and]
      exact decide_eq_decide.2 (by omega)
    · refine bool_eq ?_
      unfold validX
      rw [h, Bool.false_and]
  · have h1 := sub1_neg (l := 900) (a := nodeX x) (by omega)
    refine bool_eq ?_
    unfold validX
    rw [decide_eq_false (by omega), Bool.and_false]
end Go.Proofs.YtnceiannponbjaaGreat

namespace Go.Ab
def lx (l : List MSExpr) (n : Nat) : List (List D) := labRs (l.map MSExpr.enc) n
def cntX (x : MSExpr) : Nat := cntR x.enc
def cntXs (l : List MSExpr) : Nat := cntRs (l.map MSExpr.enc)
theorem labX_eq (x : MSExpr) (n : Nat) : labR x.enc n = [.s x.fAtom, .ol n (lx x.fList (n + 1))] := by
  rw [MSExpr.enc_eq]; simp only [labR, labD, cntD, Nat.add_zero, lx]
theorem labX_atom (s : List UInt8) (n : Nat) : labR (atomX s).enc n = [.s s, .ol n []] := by rw [labX_eq]; rfl
theorem cntX_eq (x : MSExpr) : cntX x = cntXs x.fList + 1 := by
  unfold cntX cntXs
  rw [MSExpr.enc_eq]; simp only [cntR, cntD]; omega
theorem cntX_atom (s : List UInt8) : cntX (atomX s) = 1 := by rw [cntX_eq]; rfl
theorem lx_nil (n : Nat) : lx [] n = [] := rfl
theorem lx_cons (x : MSExpr) (l : List MSExpr) (n : Nat) : lx (x :: l) n = labR x.enc n :: lx l (n + cntX x) := rfl
theorem lx_append (a b : List MSExpr) (n : Nat) : lx (a ++ b) n = lx a n ++ lx b (n + cntXs a) := by unfold lx cntXs; rw [List.map_append, labRs_append]
theorem lx_length (l : List MSExpr) (n : Nat) : (lx l n).length = l.length := by unfold lx; rw [labRs_length, List.length_map]
theorem lx_rows {l : List MSExpr} {n : Nat} : ∀ r ∈ lx l n, r.length = 2 := labRs_rows fun r hr => by
  obtain ⟨z, _, rfl⟩ := List.mem_map.1 hr
  exact z.enc_length
theorem lx_snoc {l : List MSExpr} {i : Nat} (hi : i < l.length) (n : Nat) : lx (l.take i) n ++ [labR l[i].enc (n + cntXs (l.take i))] = lx (l.take (i + 1)) n := by
  rw [List.take_succ_eq_append_getElem hi, lx_append]; rfl
theorem lx_snoc' {l : List MSExpr} {i : Nat} (hi : i < l.length) (n : Nat) : lx (l.take i) n ++ [[.s l[i].fAtom, .ol (n + cntXs (l.take i)) (lx l[i].fList (n + cntXs (l.take i) + 1))]] = lx (l.take (i + 1)) n := by
  rw [← lx_snoc hi, labX_eq]
theorem lx_snocB {base l : List MSExpr} {i : Nat} (hi : i < l.length) (q : Nat) : lx (base ++ l.take i) q ++ [[.s l[i].fAtom, .ol (q + cntXs (base ++ l.take i)) (lx l[i].fList (q + cntXs (base ++ l.take i) + 1))]] = lx (base ++ l.take (i + 1)) q := by
  rw [List.take_succ_eq_append_getElem hi, ← List.append_assoc, lx_append (base ++ l.take i), lx_cons, lx_nil, labX_eq]
theorem enc_rows {l : List MSExpr} : ∀ r ∈ l.map MSExpr.enc, r.length = 2 := fun r hr => by
  obtain ⟨z, _, rfl⟩ := List.mem_map.1 hr
  exact z.enc_length
theorem cells_less' {cs cs' : List C} (hl : cs'.length = cs.length) (h : ∀ (j : Nat) (x y : C), cs[j]? = some x → cs'[j]? = some y → ∀ w σ S β v, RepC w σ S β x v → RepC w σ S β y v) : Less (.agg cs) (.agg cs') := by
  rintro w σ S β v ⟨a, ha, hc⟩
  refine ⟨a, ha, hl.trans hc.1, fun j y hy => ?_⟩
  have hj : j < cs.length := by rw [← hl]; exact (List.getElem?_eq_some_iff.1 hy).1
  obtain ⟨v, h1, h2, h3⟩ := hc.2 j _ (List.getElem?_eq_getElem hj)
  exact ⟨v, h1, h j _ y (List.getElem?_eq_getElem hj) hy w σ S β v h2, h3⟩
theorem fsl_ol {w : World} {σ : Nat → Nat} {S : Store} {β : Hs} {v : Value} (n : Nat) (h : RepC w σ S β (.fsl []) v) : RepC w σ S β (.d (.ol n [])) v := by
  obtain ⟨hd, ad, m, hval⟩ := h
  have hm : m = 0 := by rw [hval] at hd; cases hd <;> rfl
  subst hm
  rw [hval]
  exact .onil _ _ _
theorem less_x0 (s : List UInt8) (n : Nat) : Less (.agg [.d (.s s), .fsl []]) (.agg [.d (.s s), .d (.ol n [])]) := cells_less' rfl fun j x y hx hy w σ S β v hv => by
  match j, hx, hy with
  | 0, hx, hy => cases hx; cases hy; exact hv
  | 1, hx, hy => cases hx; cases hy; exact fsl_ol _ hv
  | j + 2, hx, hy => simp at hx
theorem less_xl (s : List UInt8) (n : Nat) (es : List (List D)) : Less (.agg [.d (.s s), .lfl n es]) (.agg [.d (.s s), .d (.ol n es)]) := cells_less' rfl fun j x y hx hy w σ S β v hv => by
  match j, hx, hy with
  | 0, hx, hy => cases hx; cases hy; exact hv
  | 1, hx, hy => cases hx; cases hy; exact hv.1
  | j + 2, hx, hy => simp at hx
end Go.Ab
namespace Go.Proofs.YtnceiannponbjaaGreat
open Go Go.Ab
theorem implAtom_ok (s : List UInt8) : PCall Tryz.prog 45 [.c (.d (.s s))] (.agg [.d (.s s), .fsl []]) := fun S => by
  refine acall_cw (rs := [.cell 2 31]) Tryz.checked.mixed Tryz.func45 Tryz.ntmps45 rfl rfl rfl rfl rfl ?_
  simp -implicitDefEqProofs (disch := omega) only [go_sem]
theorem implAtom_lab (s : List UInt8) (n : Nat) : PCall Tryz.prog 45 [.c (.d (.s s))] (.agg [.d (.s s), .d (.ol n [])]) := PCall.less (implAtom_ok s) (less_x0 s n)
theorem implList_d (d : D) : PCall Tryz.prog 47 [.c (.d d)] (.agg [.d (.s []), .d d]) := fun S => by
  refine acall_cw (rs := [.cell 2 31]) Tryz.checked.mixed Tryz.func47 Tryz.ntmps47 rfl rfl rfl rfl rfl ?_
  simp -implicitDefEqProofs (disch := omega) only [go_sem]
theorem implList_l0 (n : Nat) (es : List (List D)) : PCall Tryz.prog 47 [.c (.lfl n es)] (.agg [.d (.s []), .lfl n es]) := fun S => by
  refine acall_cw (rs := [.cell 2 31]) Tryz.checked.mixed Tryz.func47 Tryz.ntmps47 rfl rfl rfl rfl rfl ?_
  simp -implicitDefEqProofs (disch := omega) only [go_sem]
theorem implList_l (n : Nat) (es : List (List D)) : PCall Tryz.prog 47 [.c (.lfl n es)] (.agg [.d (.s []), .d (.ol n es)]) := PCall.less (implList_l0 n es) (less_xl [] n es)
theorem implList_t (l j : Nat) (es : List (List D)) (S : Store) : ACall Tryz.prog 47 [.c (.tsl (l, j) es)] S (fun r S' => r = .agg [.d (.s []), .tsl (l, j) es] ∧ S' = S) := by
  refine acall_cw (rs := [.cell 2 31]) Tryz.checked.mixed Tryz.func47 Tryz.ntmps47 rfl rfl rfl rfl rfl ?_
  simp -implicitDefEqProofs (disch := omega) only [go_sem]
theorem implAtoms_lab (xs : List (List UInt8)) (hx : xs.length ≤ 1073741824) (n q : Nat) : PCall Tryz.prog 83 [.c (.d (.sl (xs.map encS)))] (.c (.d (.ol n (lx (wordsX xs) q)))) := fun S => by
  refine acall_cwL (n) (rs := [.tmp 2]) Tryz.checked.mixed Tryz.func83 Tryz.ntmps83 rfl rfl rfl rfl rfl ?_
  simp -implicitDefEqProofs (disch := omega) only [go_sem]
  (repeat (with_reducible refine And.intro ?_ ?_; focus first | omega | rfl | assumption | exact ⟨_, rfl, rfl⟩ | (simp; omega) | (simp; done)))
  refine aw_ltok n 3 2 [] (.inl rfl) (by simp) ?_
  refine loop_at (ι := Nat) Tryz.checked.mixed rfl [3, 7, 8, 9] (fun i => [.c (.tsl (0, 1) (lx ((wordsX xs).take i) q)), .c (.d (.sl (xs.map encS))), .c (.d (.i .i64 xs.length)), .c (.d (.i .i64 i))]) (fun i => [.seed n, .ltok n 2 (lx ((wordsX xs).take i) q)] :: S)
    (fun i => i ≤ xs.length) (fun i => xs.length - i) 0 rfl rfl (Nat.zero_le _) ?_
  intro i hi
  simp -implicitDefEqProofs (disch := omega) only [go_sem]
  with_reducible refine split2 (fun hb => ?_) (fun hb => ?_) <;> have h := hb <;> (try simp only [wf_preprocess] at h) <;> simp -implicitDefEqProofs (disch := omega) only [go_sem, hb] <;> (repeat (with_reducible refine And.intro ?_ ?_; focus first | omega | rfl | assumption | exact ⟨_, rfl, rfl⟩ | (simp; omega) | (simp; done)))
  · have hi' : i < xs.length := by omega
    have hw : i < (wordsX xs).length := by rw [words_len]; exact hi'
    have hg : (wordsX xs)[i] = atomX xs[i] := by simp [wordsX]
    have hl : (lx ((wordsX xs).take i) q).length ≤ i := by rw [lx_length]; exact List.length_take_le _ _
    (repeat (with_reducible refine And.intro ?_ ?_; focus first | omega | rfl | assumption | exact ⟨_, rfl, rfl⟩ | (simp; omega) | (simp; done)))
    refine call_w (implAtom_lab xs[i] (q + cntXs ((wordsX xs).take i))) ?_
    simp -implicitDefEqProofs (disch := omega) only [go_sem]
    (repeat (with_reducible refine And.intro ?_ ?_; focus first | omega | rfl | assumption | exact ⟨_, rfl, rfl⟩ | (simp; omega) | (simp; done)))
    have hs := lx_snoc hw q
    rw [hg, labX_atom] at hs
    rw [hs]
    exact inv_at (i + 1) (by omega) rfl rfl (by omega)
  · have hi' : i = (wordsX xs).length := by rw [words_len]; omega
    rw [hi', List.take_length]
theorem implNameList_lab (xs : List (List UInt8)) (hx : xs.length ≤ 1073741824) (n : Nat) : PCall Tryz.prog 46 [.c (.d (.sl (xs.map encS)))] (.agg [.d (.s []), .d (.ol n (lx (wordsX xs) (n + 1)))]) := fun S => by
  refine acall_cw (rs := [.cell 2 31]) Tryz.checked.mixed Tryz.func46 Tryz.ntmps46 rfl rfl rfl rfl rfl ?_
  simp -implicitDefEqProofs (disch := omega) only [go_sem]
  refine call_w (implAtoms_lab xs hx n (n + 1)) ?_
  simp -implicitDefEqProofs (disch := omega) only [go_sem]
  refine call_w (implList_d _) ?_
  simp -implicitDefEqProofs (disch := omega) only [go_sem]
theorem implTy_all : ∀ N : Nat, (∀ x : MType, SizeOf.sizeOf x < N → ∀ n : Nat, formed x = true → x.sz ≤ 4194304 → PCall Tryz.prog 84 [x.v] (.agg [.d (.s (sxT x).fAtom), .d (.ol n (lx (sxT x).fList (n + 1)))])) ∧
    (∀ xs : List MType, SizeOf.sizeOf xs < N → ∀ n q : Nat, formeds xs = true → xs.length ≤ 4194304 → (∀ t ∈ xs, t.sz ≤ 4194304) → PCall Tryz.prog 48 [.c (.d (.sl (xs.map MType.enc)))] (.c (.d (.ol n (lx (xs.map sxT) q)))))
  | 0 => ⟨fun x h => by omega, fun x h => by omega⟩
  | N + 1 => by
    obtain ⟨ih, ihS⟩ := implTy_all N
    refine ⟨fun x hn n hf hsz => ?_, fun xs hn n q hf hlen hsz => ?_⟩
    · have lArgs := MType.lt_Args x
      have hts := ty_sz hsz
      have hx := sxT_eq x
      rw [formed_eq, Bool.and_eq_true] at hf
      have hfi := of_dec hf.1
      have hall : ∀ t ∈ x.fArgs, t.sz ≤ 4194304 := fun t ht => by
        obtain ⟨i, hi, e⟩ := List.getElem_of_mem ht
        rw [← e]; exact (arg_sz hi hsz).1
      intro S
      refine acall_cwLs (n) 1 (rs := [.cell 2 31]) Tryz.checked.mixed Tryz.func84 Tryz.ntmps84 rfl rfl rfl rfl rfl ?_
      simp -implicitDefEqProofs (disch := omega) only [go_sem]
      with_reducible refine split2 (fun hb => ?_) (fun hb => ?_) <;> have h := hb <;> (try simp only [wf_preprocess] at h) <;> simp -implicitDefEqProofs (disch := omega) only [go_sem, hb] <;> (repeat (with_reducible refine And.intro ?_ ?_; focus first | omega | rfl | assumption | exact ⟨_, rfl, rfl⟩ | (simp; omega) | (simp; done)))
      · rw [if_pos h] at hx
        rw [hx]
        (repeat (with_reducible refine And.intro ?_ ?_; focus first | omega | rfl | assumption | exact ⟨_, rfl, rfl⟩ | (simp; omega) | (simp; done)))
        refine call_w (implAtom_lab _ n) ?_
        simp -implicitDefEqProofs (disch := omega) only [go_sem]
        rfl
      have k1 := h
      rw [if_neg h] at hx
      with_reducible refine split2 (fun hb => ?_) (fun hb => ?_) <;> have h := hb <;> (try simp only [wf_preprocess] at h) <;> simp -implicitDefEqProofs (disch := omega) only [go_sem, hb] <;> (repeat (with_reducible refine And.intro ?_ ?_; focus first | omega | rfl | assumption | exact ⟨_, rfl, rfl⟩ | (simp; omega) | (simp; done)))
      · rw [if_pos h] at hx
        rw [hx]
        refine call_w (implAtom_lab _ (n + 1)) ?_
        simp -implicitDefEqProofs (disch := omega) only [go_sem]
        refine call_w (implAtom_lab _ (n + 1 + 1)) ?_
        simp -implicitDefEqProofs (disch := omega) only [go_sem]
        refine call_w (implList_l _ _) ?_
        simp -implicitDefEqProofs (disch := omega) only [go_sem]
        rfl
      have k4 := h
      rw [if_neg h] at hx
      with_reducible refine split2 (fun hb => ?_) (fun hb => ?_) <;> have h := hb <;> (try simp only [wf_preprocess] at h) <;> simp -implicitDefEqProofs (disch := omega) only [go_sem, hb] <;> (repeat (with_reducible refine And.intro ?_ ?_; focus first | omega | rfl | assumption | exact ⟨_, rfl, rfl⟩ | (simp; omega) | (simp; done)))
      · have hlen : x.fArgs.length = 1 := by omega
        obtain ⟨a, ha⟩ := List.length_eq_one_iff.1 hlen
        have ha0 : x.fArgs[0]'(by omega) = a := by simp [ha]
        rw [if_neg (by omega), if_pos h, ha] at hx
        have hfa : formed a = true := formeds_iff.1 hf.2 a (by rw [ha]; simp)
        have hsa : a.sz ≤ 4194304 := hall a (by rw [ha]; simp)
        have hla : SizeOf.sizeOf a < N := by
          have := List.sizeOf_lt_of_mem (show a ∈ x.fArgs by rw [ha]; simp)
          omega
        rw [hx]
        refine call_w (implAtom_lab _ (n + 1)) ?_
        simp -implicitDefEqProofs (disch := omega) only [go_sem]
        refine call_w (implAtom_lab _ (n + 1 + 1)) ?_
        simp -implicitDefEqProofs (disch := omega) only [go_sem, ha, List.getD_cons_zero]
        (repeat (with_reducible refine And.intro ?_ ?_; focus first | omega | rfl | assumption | exact ⟨_, rfl, rfl⟩ | (simp; omega) | (simp; done)))
        refine call_w (ih a hla (n + 1 + 1 + 1) hfa hsa) ?_
        simp -implicitDefEqProofs (disch := omega) only [go_sem]
        refine call_w (implList_l _ _) ?_
        simp -implicitDefEqProofs (disch := omega) only [go_sem]
        simp only [fAtom_list, fList_list, List.cons_append, List.nil_append, List.map_cons, List.map_nil, lx_cons, lx_nil, labX_atom, cntX_atom, labX_eq, fAtom_atom, fList_atom, wAssoc]
      have k3 := h
      with_reducible refine split2 (fun hb => ?_) (fun hb => ?_) <;> have h := hb <;> (try simp only [wf_preprocess] at h) <;> simp -implicitDefEqProofs (disch := omega) only [go_sem, hb] <;> (repeat (with_reducible refine And.intro ?_ ?_; focus first | omega | rfl | assumption | exact ⟨_, rfl, rfl⟩ | (simp; omega) | (simp; done)))
      · rw [if_pos ⟨by omega, by omega⟩] at hx
        rw [hx]
        refine call_w (implAtom_lab _ n) ?_
        simp -implicitDefEqProofs (disch := omega) only [go_sem]
        rfl
      rw [if_neg (by omega), if_neg k3] at hx
      rw [hx]
      refine call_w (implAtom_lab _ (n + 1)) ?_
      simp -implicitDefEqProofs (disch := omega) only [go_sem]
      refine call_w (ihS x.fArgs (by omega) 0 (n + 1 + 1) hf.2 hts.1 hall) ?_
      simp -implicitDefEqProofs (disch := omega) only [go_sem]
      have hl : (lx (x.fArgs.map sxT) (n + 1 + 1)).length = x.fArgs.length := by rw [lx_length, List.length_map]
      have hr := lx_rows (l := x.fArgs.map sxT) (n := n + 1 + 1)
      (repeat (with_reducible refine And.intro ?_ ?_; focus first | omega | rfl | assumption | exact ⟨_, rfl, rfl⟩ | (simp; omega) | (simp; done)))
      refine call_w (implList_d _) ?_
      simp -implicitDefEqProofs (disch := omega) only [go_sem]
      simp only [fAtom_list, fList_list, List.cons_append, List.nil_append, lx_cons, lx_nil, labX_atom, cntX_atom]
    · have hsnoc := fun (i : Nat) (hi : i < xs.length) => lx_snoc' (l := xs.map sxT) (i := i) (by rw [List.length_map]; exact hi) q
      intro S
      refine acall_cwL (n) (rs := [.tmp 2]) Tryz.checked.mixed Tryz.func48 Tryz.ntmps48 rfl rfl rfl rfl rfl ?_
      simp -implicitDefEqProofs (disch := omega) only [go_sem]
      (repeat (with_reducible refine And.intro ?_ ?_; focus first | omega | rfl | assumption | exact ⟨_, rfl, rfl⟩ | (simp; omega) | (simp; done)))
      refine aw_ltok n 3 2 [] (.inl rfl) (by simp) ?_
      refine loop_at (ι := Nat) Tryz.checked.mixed rfl [3, 7, 8, 9] (fun i => [.c (.tsl (0, 1) (lx ((xs.map sxT).take i) q)), .c (.d (.sl (xs.map MType.enc))), .c (.d (.i .i64 xs.length)), .c (.d (.i .i64 i))]) (fun i => [.seed n, .ltok n 2 (lx ((xs.map sxT).take i) q)] :: S)
        (fun i => i ≤ xs.length) (fun i => xs.length - i) 0 rfl rfl (Nat.zero_le _) ?_
      intro i hi
      simp -implicitDefEqProofs (disch := omega) only [go_sem]
      with_reducible refine split2 (fun hb => ?_) (fun hb => ?_) <;> have h := hb <;> (try simp only [wf_preprocess] at h) <;> simp -implicitDefEqProofs (disch := omega) only [go_sem, hb] <;> (repeat (with_reducible refine And.intro ?_ ?_; focus first | omega | rfl | assumption | exact ⟨_, rfl, rfl⟩ | (simp; omega) | (simp; done)))
      · have hi' : i < xs.length := by omega
        have hs := hsnoc i hi'
        rw [List.getElem_map] at hs
        have hl : (lx ((xs.map sxT).take i) q).length ≤ i := by rw [lx_length]; exact List.length_take_le _ _
        (repeat (with_reducible refine And.intro ?_ ?_; focus first | omega | rfl | assumption | exact ⟨_, rfl, rfl⟩ | (simp; omega) | (simp; done)))
        refine call_w (ih xs[i] (by have := List.sizeOf_lt_of_mem (List.getElem_mem hi'); omega) (q + cntXs ((xs.map sxT).take i)) (formeds_iff.1 hf _ (List.getElem_mem hi')) (hsz _ (List.getElem_mem hi'))) ?_
        simp -implicitDefEqProofs (disch := omega) only [go_sem]
        (repeat (with_reducible refine And.intro ?_ ?_; focus first | omega | rfl | assumption | exact ⟨_, rfl, rfl⟩ | (simp; omega) | (simp; done)))
        rw [hs]
        exact inv_drop 2 (by decide) (i + 1) (by omega) rfl rfl rfl rfl (by omega)
      · have hi' : i = (xs.map sxT).length := by rw [List.length_map]; omega
        rw [hi', List.take_length]
theorem implTys_lab (xs : List MType) (n q : Nat) (hf : formeds xs = true) (hlen : xs.length ≤ 4194304) (hsz : ∀ t ∈ xs, t.sz ≤ 4194304) : PCall Tryz.prog 48 [.c (.d (.sl (xs.map MType.enc)))] (.c (.d (.ol n (lx (xs.map sxT) q)))) := (implTy_all _).2 xs (Nat.lt_succ_self _) n q hf hlen hsz
end Go.Proofs.YtnceiannponbjaaGreat

namespace Go.Ab
theorem enc_atom (s : List UInt8) : (atomX s).enc = [.s s, .sl []] := by rw [MSExpr.enc_eq]; rfl
theorem enc_list (l : List MSExpr) : (listX l).enc = [.s [], .sl (l.map MSExpr.enc)] := by rw [MSExpr.enc_eq]; rfl
theorem encX_snoc {base l : List MSExpr} {i : Nat} (hi : i < l.length) : (base ++ l.take i).map MSExpr.enc ++ [[.s l[i].fAtom, .sl (l[i].fList.map MSExpr.enc)]] = (base ++ l.take (i + 1)).map MSExpr.enc := by
  rw [List.take_succ_eq_append_getElem hi, ← List.append_assoc, List.map_append (l₂ := [l[i]]), List.map_cons, List.map_nil, MSExpr.enc_eq]
theorem less_xf (s : List UInt8) (es : List (List D)) : Less (.agg [.d (.s s), .fsl es]) (.agg [.d (.s s), .d (.sl es)]) := cells_less' rfl fun j x y hx hy w σ S β v hv => by
  match j, hx, hy with
  | 0, hx, hy => cases hx; cases hy; exact hv
  | 1, hx, hy => cases hx; cases hy; exact hv.1
  | j + 2, hx, hy => simp at hx
theorem less_lx (x : MSExpr) (n : Nat) : Less (.agg [.d (.s x.fAtom), .d (.ol n (lx x.fList (n + 1)))]) x.v := by
  have h := less_lab (r := x.enc) (n := n)
  rw [labX_eq, MSExpr.v_eq] at h
  exact h
end Go.Ab
namespace Go.Proofs.YtnceiannponbjaaGreat
open Go Go.Ab
theorem specAtom0_ok (s : List UInt8) : PCall Tryz.prog 19 [.c (.d (.s s))] (.agg [.d (.s s), .fsl []]) := fun S => by
  refine acall_cw (rs := [.cell 2 31]) Tryz.checked.mixed Tryz.func19 Tryz.ntmps19 rfl rfl rfl rfl rfl ?_
  simp -implicitDefEqProofs (disch := omega) only [go_sem]
theorem specAtom_ok (s : List UInt8) : PCall Tryz.prog 19 [.c (.d (.s s))] (.agg [.d (.s s), .d (.sl [])]) := PCall.less (specAtom0_ok s) (less_xf s [])
theorem specList_ok (es : List (List D)) (hes : ∀ e ∈ es, e.length = 2) (hl : es.length ≤ 1073741824) : PCall Tryz.prog 18 [.c (.d (.sl es))] (.agg [.d (.s []), .d (.sl es)]) := fun S => by
  refine acall_cw (rs := [.cell 2 31]) Tryz.checked.mixed Tryz.func18 Tryz.ntmps18 rfl rfl rfl rfl rfl ?_
  simp -implicitDefEqProofs (disch := omega) only [go_sem]
  exact ⟨hes, ⟨_, rfl, rfl⟩, (fun y hy => by cases hy), hl⟩
theorem specList_esc (es : List (List D)) (hes : ∀ e ∈ es, e.length = 2) (hl : es.length ≤ 1073741824) (own0 : List Ab.Obj) (Ω : Store) : ACall Tryz.prog 18 [.c (.d (.sl es))] (own0 :: Ω)
    (fun r S' => r = .agg [.d (.s []), .tsl (0, own0.length + 1) es] ∧ S' = (own0 ++ [.box [.d (.s []), .tsl (0, own0.length + 1) es], .tok 2 es]) :: Ω) := by
  refine acall_cwe (rs := [.cell 2 31]) Tryz.checked.mixed Tryz.func18 Tryz.ntmps18 rfl rfl rfl rfl rfl ?_
  simp -implicitDefEqProofs (disch := omega) only [go_sem]
  exact ⟨hes, ⟨_, rfl, rfl⟩, (fun y hy => by cases hy), hl⟩
theorem specWords_ok (xs : List (List UInt8)) (hx : xs.length ≤ 1073741824) : PCall Tryz.prog 49 [.c (.d (.sl (xs.map encS)))] (.c (.d (.sl ((wordsX xs).map MSExpr.enc)))) := fun S => by
  refine acall_cw (rs := [.tmp 2]) Tryz.checked.mixed Tryz.func49 Tryz.ntmps49 rfl rfl rfl rfl rfl ?_
  simp -implicitDefEqProofs (disch := omega) only [go_sem]
  (repeat (with_reducible refine And.intro ?_ ?_; focus first | omega | rfl | assumption | exact ⟨_, rfl, rfl⟩ | (simp; omega) | (simp; done)))
  refine aw_tok 3 2 [] rfl (by simp) ?_
  refine loop_at (ι := Nat) Tryz.checked.mixed rfl [0, 3, 4] (fun i => [.c (.d (.sl (xs.map encS))), .c (.tsl (0, 0) (((wordsX xs).take i).map MSExpr.enc)), .c (.d (.i .i64 i))]) (fun i => [.tok 2 (((wordsX xs).take i).map MSExpr.enc)] :: S)
    (fun i => i ≤ xs.length) (fun i => xs.length - i) 0 rfl rfl (Nat.zero_le _) ?_
  intro i hi
  have hl : (((wordsX xs).take i).map MSExpr.enc).length ≤ i := by rw [List.length_map]; exact List.length_take_le _ _
  simp -implicitDefEqProofs (disch := omega) only [go_sem]
  with_reducible refine split2 (fun hb => ?_) (fun hb => ?_) <;> have h := hb <;> (try simp only [wf_preprocess] at h) <;> simp -implicitDefEqProofs (disch := omega) only [go_sem, hb] <;> (repeat (with_reducible refine And.intro ?_ ?_; focus first | omega | rfl | assumption | exact ⟨_, rfl, rfl⟩ | (simp; omega) | (simp; done)))
  · have hi' : i < xs.length := by omega
    have hs := encX_snoc (base := []) (l := wordsX xs) (i := i) (by rw [words_len]; exact hi')
    have hg : (wordsX xs)[i]'(by rw [words_len]; exact hi') = atomX xs[i] := by simp [wordsX]
    rw [hg] at hs
    simp only [List.nil_append, fAtom_atom, fList_atom, List.map_nil] at hs
    (repeat (with_reducible refine And.intro ?_ ?_; focus first | omega | rfl | assumption | exact ⟨_, rfl, rfl⟩ | (simp; omega) | (simp; done)))
    refine call_w (specAtom_ok xs[i]) ?_
    simp -implicitDefEqProofs (disch := omega) only [go_sem]
    (repeat (with_reducible refine And.intro ?_ ?_; focus first | omega | rfl | assumption | exact ⟨_, rfl, rfl⟩ | (simp; omega) | (simp; done)))
    rw [hs]
    exact inv_at (i + 1) (by omega) rfl rfl (by omega)
  · have hi' : i = (wordsX xs).length := by rw [words_len]; omega
    rw [hi', List.take_length]
theorem specNameList_ok (xs : List (List UInt8)) (hx : xs.length ≤ 1073741824) : PCall Tryz.prog 20 [.c (.d (.sl (xs.map encS)))] (.agg [.d (.s []), .d (.sl ((wordsX xs).map MSExpr.enc))]) := fun S => by
  refine acall_cw (rs := [.cell 2 31]) Tryz.checked.mixed Tryz.func20 Tryz.ntmps20 rfl rfl rfl rfl rfl ?_
  simp -implicitDefEqProofs (disch := omega) only [go_sem]
  refine call_w (specWords_ok xs hx) ?_
  simp -implicitDefEqProofs (disch := omega) only [go_sem]
theorem specTy_all : ∀ N : Nat, (∀ x : MType, SizeOf.sizeOf x < N → x.sz ≤ 4194304 → PCall Tryz.prog 50 [x.v] (.agg [.d (.s (sxT x).fAtom), .d (.sl ((sxT x).fList.map MSExpr.enc))]))
  | 0 => fun x h => by omega
  | N + 1 => by
    have ih := specTy_all N
    intro x hn hsz
    have lArgs := MType.lt_Args x
    have hts := ty_sz hsz
    have hx := sxT_eq x
    have hall : ∀ t ∈ x.fArgs, t.sz ≤ 4194304 := fun t ht => by
      obtain ⟨i, hi, e⟩ := List.getElem_of_mem ht
      rw [← e]; exact (arg_sz hi hsz).1
    intro S
    refine acall_cw (rs := [.cell 2 31]) Tryz.checked.mixed Tryz.func50 Tryz.ntmps50 rfl rfl rfl rfl rfl ?_
    simp -implicitDefEqProofs (disch := omega) only [go_sem]
    with_reducible refine split2 (fun hb => ?_) (fun hb => ?_) <;> have h := hb <;> (try simp only [wf_preprocess] at h) <;> simp -implicitDefEqProofs (disch := omega) only [go_sem, hb] <;> (repeat (with_reducible refine And.intro ?_ ?_; focus first | omega | rfl | assumption | exact ⟨_, rfl, rfl⟩ | (simp; omega) | (simp; done)))
    · rw [if_pos h] at hx
      rw [hx]
      (repeat (with_reducible refine And.intro ?_ ?_; focus first | omega | rfl | assumption | exact ⟨_, rfl, rfl⟩ | (simp; omega) | (simp; done)))
      refine call_w (specAtom_ok _) ?_
      simp -implicitDefEqProofs (disch := omega) only [go_sem]
      rfl
    rw [if_neg h] at hx
    with_reducible refine split2 (fun hb => ?_) (fun hb => ?_) <;> have h := hb <;> (try simp only [wf_preprocess] at h) <;> simp -implicitDefEqProofs (disch := omega) only [go_sem, hb] <;> (repeat (with_reducible refine And.intro ?_ ?_; focus first | omega | rfl | assumption | exact ⟨_, rfl, rfl⟩ | (simp; omega) | (simp; done)))
    · rw [if_pos h] at hx
      rw [hx]
      refine call_w (specAtom_ok _) ?_
      simp -implicitDefEqProofs (disch := omega) only [go_sem]
      refine call_w (specAtom_ok _) ?_
      simp -implicitDefEqProofs (disch := omega) only [go_sem]
      refine call_w (specList_ok _ (by simp) (by simp)) ?_
      simp -implicitDefEqProofs (disch := omega) only [go_sem]
      simp only [fAtom_list, fList_list, List.map_cons, List.map_nil, enc_atom, wDyn]
    rw [if_neg h] at hx
    have fin1 : x.fKind = 2 → x.fArgs.length = 0 → sxT x = atomX x.fName := fun a b => by rw [hx, if_pos ⟨a, b⟩]
    have fin2 : ¬ (x.fKind = 2 ∧ x.fArgs.length = 0) → sxT x = listX ((if x.fKind = 3 then [atomX wAssoc] else []) ++ [atomX x.fName] ++ x.fArgs.map sxT) := fun a => by rw [hx, if_neg a]
    clear hx
    repeat' (first | (with_reducible refine split2 (fun hb => ?_) (fun hb => ?_) <;> have h := hb <;> (try simp only [wf_preprocess] at h) <;> simp -implicitDefEqProofs (disch := omega) only [go_sem, hb] <;> (repeat (with_reducible refine And.intro ?_ ?_; focus first | omega | rfl | assumption | exact ⟨_, rfl, rfl⟩ | (simp; omega) | (simp; done)))))
    · rw [fin1 (by omega) (by omega)]
      refine call_w (specAtom_ok _) ?_
      simp -implicitDefEqProofs (disch := omega) only [go_sem]
      rfl
    · exfalso; omega
    · have hx := fin2 (by omega)
      rw [if_neg h, List.nil_append] at hx
      refine call_w (specAtom_ok _) ?_
      simp -implicitDefEqProofs (disch := omega) only [go_sem]
      (repeat (with_reducible refine And.intro ?_ ?_; focus first | omega | rfl | assumption | exact ⟨_, rfl, rfl⟩ | (simp; omega) | (simp; done)))
      refine loop_at (ι := Nat) Tryz.checked.mixed rfl [1, 2, 3, 4] (fun i => [.c (.ptr (0, 0) 0), .c (.ptr (0, 1) 0), .c (.ptr (0, 2) 0), .c (.d (.i .i64 i))])
        (fun i => [.box [.d (.i .i64 x.fKind), .d (.s x.fName), .d (.sl (x.fArgs.map MType.enc))], .box [.d (.s []), .fsl []], .box [.d (.s []), .tsl (0, 3) (([atomX x.fName] ++ (x.fArgs.map sxT).take i).map MSExpr.enc)], .tok 2 (([atomX x.fName] ++ (x.fArgs.map sxT).take i).map MSExpr.enc)] :: S)
        (fun i => i ≤ x.fArgs.length) (fun i => x.fArgs.length - i) 0 rfl ?_ (Nat.zero_le _) ?_
      · simp only [List.take_zero, List.append_nil, List.map_cons, List.map_nil, List.cons_append, List.nil_append, enc_atom] <;> (try rfl)
      intro i hi
      have hl : (([atomX x.fName] ++ (x.fArgs.map sxT).take i).map MSExpr.enc).length ≤ i + 2 := by
        rw [List.length_map, List.length_append]
        have := List.length_take_le i (x.fArgs.map sxT)
        simp only [List.length_cons, List.length_nil]; omega
      have hs := fun hi => encX_snoc (base := [atomX x.fName]) (l := x.fArgs.map sxT) (i := i) hi
      have hrw := enc_rows (l := [atomX x.fName] ++ (x.fArgs.map sxT).take i)
      generalize hR : ([atomX x.fName] ++ (x.fArgs.map sxT).take i).map MSExpr.enc = R at hl hs hrw
      simp -implicitDefEqProofs (disch := omega) only [go_sem]
      with_reducible refine split2 (fun hb => ?_) (fun hb => ?_) <;> have h := hb <;> (try simp only [wf_preprocess] at h) <;> simp -implicitDefEqProofs (disch := omega) only [go_sem, hb] <;> (repeat (with_reducible refine And.intro ?_ ?_; focus first | omega | rfl | assumption | exact ⟨_, rfl, rfl⟩ | (simp; omega) | (simp; done)))
      · have hi' : i < x.fArgs.length := by omega
        have hs' := hs (by rw [List.length_map]; exact hi')
        rw [List.getElem_map] at hs'
        (repeat (with_reducible refine And.intro ?_ ?_; focus first | omega | rfl | assumption | exact ⟨_, rfl, rfl⟩ | (simp; omega) | (simp; done)))
        refine call_w (ih x.fArgs[i] (by have := List.sizeOf_lt_of_mem (List.getElem_mem hi'); omega) (hall _ (List.getElem_mem hi'))) ?_
        simp -implicitDefEqProofs (disch := omega) only [go_sem]
        (repeat (with_reducible refine And.intro ?_ ?_; focus first | omega | rfl | assumption | exact ⟨_, rfl, rfl⟩ | (simp; omega) | (simp; done)))
        rw [hs']
        exact inv_at (i + 1) (by omega) rfl rfl (by omega)
      · have hi' : i = (x.fArgs.map sxT).length := by rw [List.length_map]; omega
        rw [hx, ← hR, hi', List.take_length]
        simp only [fAtom_list, fList_list, List.cons_append, List.nil_append]
    · have hx := fin2 (by omega)
      rw [if_pos h] at hx
      refine call_w (specAtom_ok _) ?_
      simp -implicitDefEqProofs (disch := omega) only [go_sem]
      (repeat (with_reducible refine And.intro ?_ ?_; focus first | omega | rfl | assumption | exact ⟨_, rfl, rfl⟩ | (simp; omega) | (simp; done)))
      refine call_w (specAtom_ok _) ?_
      simp -implicitDefEqProofs (disch := omega) only [go_sem]
      (repeat (with_reducible refine And.intro ?_ ?_; focus first | omega | rfl | assumption | exact ⟨_, rfl, rfl⟩ | (simp; omega) | (simp; done)))
      refine loop_at (ι := Nat) Tryz.checked.mixed rfl [1, 2, 3, 4] (fun i => [.c (.ptr (0, 0) 0), .c (.ptr (0, 1) 0), .c (.ptr (0, 2) 0), .c (.d (.i .i64 i))])
        (fun i => [.box [.d (.i .i64 x.fKind), .d (.s x.fName), .d (.sl (x.fArgs.map MType.enc))], .box [.d (.s []), .fsl []], .box [.d (.s []), .tsl (0, 3) (([atomX wAssoc, atomX x.fName] ++ (x.fArgs.map sxT).take i).map MSExpr.enc)], .tok 2 (([atomX wAssoc, atomX x.fName] ++ (x.fArgs.map sxT).take i).map MSExpr.enc)] :: S)
        (fun i => i ≤ x.fArgs.length) (fun i => x.fArgs.length - i) 0 rfl ?_ (Nat.zero_le _) ?_
      · simp only [List.take_zero, List.append_nil, List.map_cons, List.map_nil, List.cons_append, List.nil_append, enc_atom] <;> (try rfl)
      intro i hi
      have hl : (([atomX wAssoc, atomX x.fName] ++ (x.fArgs.map sxT).take i).map MSExpr.enc).length ≤ i + 2 := by
        rw [List.length_map, List.length_append]
        have := List.length_take_le i (x.fArgs.map sxT)
        simp only [List.length_cons, List.length_nil]; omega
      have hs := fun hi => encX_snoc (base := [atomX wAssoc, atomX x.fName]) (l := x.fArgs.map sxT) (i := i) hi
      have hrw := enc_rows (l := [atomX wAssoc, atomX x.fName] ++ (x.fArgs.map sxT).take i)
      generalize hR : ([atomX wAssoc, atomX x.fName] ++ (x.fArgs.map sxT).take i).map MSExpr.enc = R at hl hs hrw
      simp -implicitDefEqProofs (disch := omega) only [go_sem]
      with_reducible refine split2 (fun hb => ?_) (fun hb => ?_) <;> have h := hb <;> (try simp only [wf_preprocess] at h) <;> simp -implicitDefEqProofs (disch := omega) only [go_sem, hb] <;> (repeat (with_reducible refine And.intro ?_ ?_; focus first | omega | rfl | assumption | exact ⟨_, rfl, rfl⟩ | (simp; omega) | (simp; done)))
      · have hi' : i < x.fArgs.length := by omega
        have hs' := hs (by rw [List.length_map]; exact hi')
        rw [List.getElem_map] at hs'
        (repeat (with_reducible refine And.intro ?_ ?_; focus first | omega | rfl | assumption | exact ⟨_, rfl, rfl⟩ | (simp; omega) | (simp; done)))
        refine call_w (ih x.fArgs[i] (by have := List.sizeOf_lt_of_mem (List.getElem_mem hi'); omega) (hall _ (List.getElem_mem hi'))) ?_
        simp -implicitDefEqProofs (disch := omega) only [go_sem]
        (repeat (with_reducible refine And.intro ?_ ?_; focus first | omega | rfl | assumption | exact ⟨_, rfl, rfl⟩ | (simp; omega) | (simp; done)))
        rw [hs']
        exact inv_at (i + 1) (by omega) rfl rfl (by omega)
      · have hi' : i = (x.fArgs.map sxT).length := by rw [List.length_map]; omega
        rw [hx, ← hR, hi', List.take_length]
        simp only [fAtom_list, fList_list, List.cons_append, List.nil_append]
    · have hx := fin2 (by omega)
      rw [if_neg h, List.nil_append] at hx
      refine call_w (specAtom_ok _) ?_
      simp -implicitDefEqProofs (disch := omega) only [go_sem]
      (repeat (with_reducible refine And.intro ?_ ?_; focus first | omega | rfl | assumption | exact ⟨_, rfl, rfl⟩ | (simp; omega) | (simp; done)))
      refine loop_at (ι := Nat) Tryz.checked.mixed rfl [1, 2, 3, 4] (fun i => [.c (.ptr (0, 0) 0), .c (.ptr (0, 1) 0), .c (.ptr (0, 2) 0), .c (.d (.i .i64 i))])
        (fun i => [.box [.d (.i .i64 x.fKind), .d (.s x.fName), .d (.sl (x.fArgs.map MType.enc))], .box [.d (.s []), .fsl []], .box [.d (.s []), .tsl (0, 3) (([atomX x.fName] ++ (x.fArgs.map sxT).take i).map MSExpr.enc)], .tok 2 (([atomX x.fName] ++ (x.fArgs.map sxT).take i).map MSExpr.enc)] :: S)
        (fun i => i ≤ x.fArgs.length) (fun i => x.fArgs.length - i) 0 rfl ?_ (Nat.zero_le _) ?_
      · simp only [List.take_zero, List.append_nil, List.map_cons, List.map_nil, List.cons_append, List.nil_append, enc_atom] <;> (try rfl)
      intro i hi
      have hl : (([atomX x.fName] ++ (x.fArgs.map sxT).take i).map MSExpr.enc).length ≤ i + 2 := by
        rw [List.length_map, List.length_append]
        have := List.length_take_le i (x.fArgs.map sxT)
        simp only [List.length_cons, List.length_nil]; omega
      have hs := fun hi => encX_snoc (base := [atomX x.fName]) (l := x.fArgs.map sxT) (i := i) hi
      have hrw := enc_rows (l := [atomX x.fName] ++ (x.fArgs.map sxT).take i)
      generalize hR : ([atomX x.fName] ++ (x.fArgs.map sxT).take i).map MSExpr.enc = R at hl hs hrw
      simp -implicitDefEqProofs (disch := omega) only [go_sem]
      with_reducible refine split2 (fun hb => ?_) (fun hb => ?_) <;> have h := hb <;> (try simp only [wf_preprocess] at h) <;> simp -implicitDefEqProofs (disch := omega) only [go_sem, hb] <;> (repeat (with_reducible refine And.intro ?_ ?_; focus first | omega | rfl | assumption | exact ⟨_, rfl, rfl⟩ | (simp; omega) | (simp; done)))
      · have hi' : i < x.fArgs.length := by omega
        have hs' := hs (by rw [List.length_map]; exact hi')
        rw [List.getElem_map] at hs'
        (repeat (with_reducible refine And.intro ?_ ?_; focus first | omega | rfl | assumption | exact ⟨_, rfl, rfl⟩ | (simp; omega) | (simp; done)))
        refine call_w (ih x.fArgs[i] (by have := List.sizeOf_lt_of_mem (List.getElem_mem hi'); omega) (hall _ (List.getElem_mem hi'))) ?_
        simp -implicitDefEqProofs (disch := omega) only [go_sem]
        (repeat (with_reducible refine And.intro ?_ ?_; focus first | omega | rfl | assumption | exact ⟨_, rfl, rfl⟩ | (simp; omega) | (simp; done)))
        rw [hs']
        exact inv_at (i + 1) (by omega) rfl rfl (by omega)
      · have hi' : i = (x.fArgs.map sxT).length := by rw [List.length_map]; omega
        rw [hx, ← hR, hi', List.take_length]
        simp only [fAtom_list, fList_list, List.cons_append, List.nil_append]
theorem specTy_ok (x : MType) (hsz : x.sz ≤ 4194304) : PCall Tryz.prog 50 [x.v] (.agg [.d (.s (sxT x).fAtom), .d (.sl ((sxT x).fList.map MSExpr.enc))]) := specTy_all _ x (Nat.lt_succ_self _) hsz
theorem specTys_ok (xs : List MType) (hlen : xs.length ≤ 4194304) (hsz : ∀ t ∈ xs, t.sz ≤ 4194304) : PCall Tryz.prog 21 [.c (.d (.sl (xs.map MType.enc)))] (.c (.d (.sl ((xs.map sxT).map MSExpr.enc)))) := fun S => by
  refine acall_cw (rs := [.tmp 2]) Tryz.checked.mixed Tryz.func21 Tryz.ntmps21 rfl rfl rfl rfl rfl ?_
  simp -implicitDefEqProofs (disch := omega) only [go_sem]
  (repeat (with_reducible refine And.intro ?_ ?_; focus first | omega | rfl | assumption | exact ⟨_, rfl, rfl⟩ | (simp; omega) | (simp; done)))
  refine aw_tok 3 2 [] rfl (by simp) ?_
  refine loop_at (ι := Nat) Tryz.checked.mixed rfl [0, 3, 4] (fun i => [.c (.d (.sl (xs.map MType.enc))), .c (.tsl (0, 0) (((xs.map sxT).take i).map MSExpr.enc)), .c (.d (.i .i64 i))]) (fun i => [.tok 2 (((xs.map sxT).take i).map MSExpr.enc)] :: S)
    (fun i => i ≤ xs.length) (fun i => xs.length - i) 0 rfl rfl (Nat.zero_le _) ?_
  intro i hi
  have hl : (((xs.map sxT).take i).map MSExpr.enc).length ≤ i := by rw [List.length_map]; exact List.length_take_le _ _
  simp -implicitDefEqProofs (disch := omega) only [go_sem]
  with_reducible refine split2 (fun hb => ?_) (fun hb => ?_) <;> have h := hb <;> (try simp only [wf_preprocess] at h) <;> simp -implicitDefEqProofs (disch := omega) only [go_sem, hb] <;> (repeat (with_reducible refine And.intro ?_ ?_; focus first | omega | rfl | assumption | exact ⟨_, rfl, rfl⟩ | (simp; omega) | (simp; done)))
  · have hi' : i < xs.length := by omega
    have hs := encX_snoc (base := []) (l := xs.map sxT) (i := i) (by rw [List.length_map]; exact hi')
    rw [List.getElem_map] at hs
    simp only [List.nil_append] at hs
    (repeat (with_reducible refine And.intro ?_ ?_; focus first | omega | rfl | assumption | exact ⟨_, rfl, rfl⟩ | (simp; omega) | (simp; done)))
    refine call_w (specTy_ok xs[i] (hsz _ (List.getElem_mem hi'))) ?_
    simp -implicitDefEqProofs (disch := omega) only [go_sem]
    (repeat (with_reducible refine And.intro ?_ ?_; focus first | omega | rfl | assumption | exact ⟨_, rfl, rfl⟩ | (simp; omega) | (simp; done)))
    rw [hs]
    exact inv_at (i + 1) (by omega) rfl rfl (by omega)
  · have hi' : i = (xs.map sxT).length := by rw [List.length_map]; omega
    rw [hi', List.take_length]
theorem specIf_ok (b : Bool) (x : MSExpr) (hsz : x.sz ≤ 67108864) : PCall Tryz.prog 22 [.c (.d (.b b)), x.v] (outX b x).v := by
  have zero : PCall Tryz.prog 22 [.c (.d (.b b)), x.v] (.agg [.d (.s []), .fsl []]) → PCall Tryz.prog 22 [.c (.d (.b b)), x.v] zeroX.v := fun h => PCall.less h (less_xf [] [])
  cases b with
  | false =>
    refine zero fun S => ?_
    refine acall_cw (rs := [.cell 4 31]) Tryz.checked.mixed Tryz.func22 Tryz.ntmps22 rfl rfl rfl rfl rfl ?_
    simp -implicitDefEqProofs (disch := omega) only [go_sem]
  | true =>
    show PCall Tryz.prog 22 [.c (.d (.b true)), x.v] (ifX x).v
    unfold ifX
    cases hv : validX x with
    | false =>
      refine zero fun S => ?_
      refine acall_cw (rs := [.cell 4 31]) Tryz.checked.mixed Tryz.func22 Tryz.ntmps22 rfl rfl rfl rfl rfl ?_
      simp -implicitDefEqProofs (disch := omega) only [go_sem]
      refine call_w (specValidX_ok x hsz) ?_
      simp -implicitDefEqProofs (disch := omega) only [go_sem, hv]
    | true =>
      intro S
      refine acall_cw (rs := [.cell 4 31]) Tryz.checked.mixed Tryz.func22 Tryz.ntmps22 rfl rfl rfl rfl rfl ?_
      simp -implicitDefEqProofs (disch := omega) only [go_sem]
      refine call_w (specValidX_ok x hsz) ?_
      simp -implicitDefEqProofs (disch := omega) only [go_sem, hv]
theorem implIf_lab (x : MSExpr) (n : Nat) (hsz : x.sz ≤ 67108864) : PCall Tryz.prog 16 [.agg [.d (.s x.fAtom), .d (.ol n (lx x.fList (n + 1)))]] (.agg [.d (.s (ifX x).fAtom), .d (.ol n (lx (ifX x).fList (n + 1)))]) := by
  unfold ifX
  cases hv : validX x with
  | false =>
    refine PCall.less (fun S => ?_) (less_x0 [] n)
    refine acall_cw (rs := [.cell 2 31]) Tryz.checked.mixed Tryz.func16 Tryz.ntmps16 rfl rfl rfl rfl rfl ?_
    simp -implicitDefEqProofs (disch := omega) only [go_sem]
    refine call_l (implValidX_ok x hsz) (.cons (less_lx x n) .nil) ?_
    simp -implicitDefEqProofs (disch := omega) only [go_sem, hv]
  | true =>
    intro S
    refine acall_cw (rs := [.cell 2 31]) Tryz.checked.mixed Tryz.func16 Tryz.ntmps16 rfl rfl rfl rfl rfl ?_
    simp -implicitDefEqProofs (disch := omega) only [go_sem]
    refine call_l (implValidX_ok x hsz) (.cons (less_lx x n) .nil) ?_
    simp -implicitDefEqProofs (disch := omega) only [go_sem, hv]
end Go.Proofs.YtnceiannponbjaaGreat

namespace Go.Ab
theorem MDataType.bounds {x : MDataType} (h : x.sz ≤ 4194304) : x.fName.length ≤ 4194304 ∧ x.fVars.length ≤ 4194304 ∧ x.fConstructors.length ≤ 4194304 ∧ ∀ s ∈ x.fVars, s.length ≤ 4194304 := by
  simp only [MDataType.sz, MDataType.enc_eq, szRow, szRow_append, D.sz, List.length_map] at h
  refine ⟨by omega, by omega, by omega, fun s hs => ?_⟩
  have := strs_b hs
  omega
theorem MDataType.con_b {x : MDataType} {i : Nat} (hi : i < x.fConstructors.length) (h : x.sz ≤ 4194304) : x.fConstructors[i].sz ≤ 4194304 := by
  have hx : x.fConstructors[i].sz ≤ szRows (x.fConstructors.map MConstructor.enc) := szRows_mem (List.mem_map_of_mem (List.getElem_mem hi))
  simp only [MDataType.sz, MDataType.enc_eq, szRow, szRow_append, D.sz, List.length_map] at h
  omega
theorem MConstructor.bounds {x : MConstructor} (h : x.sz ≤ 4194304) : x.fName.length ≤ 4194304 ∧ x.fFields.length ≤ 4194304 ∧ ∀ t ∈ x.fFields, t.sz ≤ 4194304 := by
  simp only [MConstructor.sz, MConstructor.enc_eq, szRow, szRow_append, D.sz, List.length_map] at h
  refine ⟨by omega, by omega, fun t ht => ?_⟩
  have hx : t.sz ≤ szRows (x.fFields.map MType.enc) := szRows_mem (List.mem_map_of_mem ht)
  omega
noncomputable def consOk (vars : List (List UInt8)) (c : MConstructor) : Bool := dec (c.fFields.length ≤ 4) && typesOver vars c.fFields
noncomputable def consNames (d : MDataType) : List (List UInt8) := d.fConstructors.map MConstructor.fName
noncomputable def validData (d : MDataType) : Bool :=
  validName d.fName && (dec (d.fVars.length ≤ 3) && (namesOk d.fVars && (dec (1 ≤ d.fConstructors.length) && (dec (d.fConstructors.length ≤ 5) && (d.fConstructors.all (consOk d.fVars) && namesOk (consNames d))))))
end Go.Ab
namespace Go.Proofs.YtnceiannponbjaaGreat
open Go Go.Ab
theorem specValidData_ok (d : MDataType) (hsz : d.sz ≤ 4194304) : PCall Tryz.prog 10 [d.v] (.c (.d (.b (validData d)))) := fun S => by
  have hb0 := MDataType.bounds hsz
  have bad : ∀ i, ∀ hi : i < d.fConstructors.length, consOk d.fVars d.fConstructors[i] = false → validData d = false := fun i hi h => by
    have : d.fConstructors.all (consOk d.fVars) = false := Bool.eq_false_iff.2 fun hx => by
      rw [List.all_eq_true.1 hx _ (List.getElem_mem hi)] at h; cases h
    unfold validData
    rw [this]; simp
  refine acall_cw (rs := [.tmp 2]) Tryz.checked.mixed Tryz.func10 Tryz.ntmps10 rfl rfl rfl rfl rfl ?_
  simp -implicitDefEqProofs (disch := omega) only [go_sem]
  (repeat (with_reducible refine And.intro ?_ ?_; focus first | omega | rfl | assumption | exact ⟨_, rfl, rfl⟩ | (simp; omega) | (simp; done)))
  refine aw_tok 3 1 [] rfl (by simp) ?_
  refine loop_at (ι := Nat × List (List UInt8)) Tryz.checked.mixed rfl [1, 3, 4] (fun y => [.c (.ptr (0, 0) 0), .c (.tsl (0, 1) (y.2.map encS)), .c (.d (.i .i64 y.1))]) (fun y => [.box (d.enc.map .d), .tok 1 (y.2.map encS)] :: S)
    (fun y => y.1 ≤ d.fConstructors.length ∧ y.2 = (consNames d).take y.1 ∧ ∀ j, ∀ hj : j < d.fConstructors.length, j < y.1 → consOk d.fVars d.fConstructors[j] = true) (fun y => d.fConstructors.length - y.1) (0, []) rfl ?_ ⟨Nat.zero_le _, rfl, fun j _ h => by simp only at h; omega⟩ ?_
  · simp -implicitDefEqProofs (disch := omega) only [go_sem]
  rintro ⟨i, names⟩ ⟨p1, p2, p3⟩
  simp only at p1 p2 p3
  have pl : names.length ≤ d.fConstructors.length := by rw [p2]; simp [consNames]; omega
  simp -implicitDefEqProofs (disch := omega) only [go_sem]
  with_reducible refine split2 (fun hb => ?_) (fun hb => ?_) <;> have h := hb <;> (try simp only [wf_preprocess] at h) <;> simp -implicitDefEqProofs (disch := omega) only [go_sem, hb] <;> (repeat (with_reducible refine And.intro ?_ ?_; focus first | omega | rfl | assumption | exact ⟨_, rfl, rfl⟩ | (simp; omega) | (simp; done)))
  · have hi : i < d.fConstructors.length := by omega
    have hc := MConstructor.bounds (MDataType.con_b hi hsz)
    (repeat (with_reducible refine And.intro ?_ ?_; focus first | omega | rfl | assumption | exact ⟨_, rfl, rfl⟩ | (simp; omega) | (simp; done)))
    with_reducible refine split2 (fun hb => ?_) (fun hb => ?_) <;> have h := hb <;> (try simp only [wf_preprocess] at h) <;> simp -implicitDefEqProofs (disch := omega) only [go_sem, hb] <;> (repeat (with_reducible refine And.intro ?_ ?_; focus first | omega | rfl | assumption | exact ⟨_, rfl, rfl⟩ | (simp; omega) | (simp; done)))
    · rw [bad i hi (by unfold consOk; rw [dec_false (by omega)]; rfl)]
    have h1 := h
    (repeat (with_reducible refine And.intro ?_ ?_; focus first | omega | rfl | assumption | exact ⟨_, rfl, rfl⟩ | (simp; omega) | (simp; done)))
    refine call_w (l13All_ok d.fConstructors[i].fFields d.fVars (by omega) hc.2.2 (by omega)) ?_
    simp -implicitDefEqProofs (disch := omega) only [go_sem] <;> (repeat (with_reducible refine And.intro ?_ ?_; focus first | omega | rfl | assumption | exact ⟨_, rfl, rfl⟩ | (simp; omega) | (simp; done)))
    with_reducible refine split2 (fun hb => ?_) (fun hb => ?_) <;> have h := hb <;> (try simp only [wf_preprocess] at h) <;> simp -implicitDefEqProofs (disch := omega) only [go_sem, hb] <;> (repeat (with_reducible refine And.intro ?_ ?_; focus first | omega | rfl | assumption | exact ⟨_, rfl, rfl⟩ | (simp; omega) | (simp; done)))
    · rw [bad i hi (by unfold consOk; rw [h]; simp)]
    have h2 := h
    (repeat (with_reducible refine And.intro ?_ ?_; focus first | omega | rfl | assumption | exact ⟨_, rfl, rfl⟩ | (simp; omega) | (simp; done)))
    rw [show List.map encS names ++ [[D.s d.fConstructors[i].fName]] = List.map encS (names ++ [d.fConstructors[i].fName]) by simp [encS]]
    exact inv_at (i + 1, names ++ [d.fConstructors[i].fName]) (by simp only; omega) rfl rfl ⟨by simp only; omega, by simp only; rw [p2, take_snoc (by simpa [consNames] using hi)]; simp [consNames], fun j hj hji => by
      simp only at hji
      by_cases e : j = i
      · subst e; unfold consOk; rw [h2, dec_true (by omega)]; rfl
      · exact p3 j hj (by omega)⟩
  have hi : i = d.fConstructors.length := by omega
  have hn : names = consNames d := by rw [p2, List.take_of_length_le (by simp [consNames]; omega)]
  have hall : d.fConstructors.all (consOk d.fVars) = true := List.all_eq_true.2 fun c hc => by
    obtain ⟨j, hj, e⟩ := List.getElem_of_mem hc
    rw [← e]; exact p3 j hj (by omega)
  have hnl : ∀ s ∈ names, s.length ≤ 4194304 := fun s hs => by
    rw [hn] at hs
    obtain ⟨c, hc, e⟩ := List.mem_map.1 hs
    obtain ⟨j, hj, e'⟩ := List.getElem_of_mem hc
    rw [← e, ← e']; exact (MConstructor.bounds (MDataType.con_b hj hsz)).1
  have hlen : names.length = d.fConstructors.length := by rw [hn]; simp [consNames]
  refine call_w (specValidName_ok d.fName (by omega)) ?_
  simp -implicitDefEqProofs (disch := omega) only [go_sem] <;> (repeat (with_reducible refine And.intro ?_ ?_; focus first | omega | rfl | assumption | exact ⟨_, rfl, rfl⟩ | (simp; omega) | (simp; done)))
  with_reducible refine split2 (fun hb => ?_) (fun hb => ?_) <;> have h := hb <;> (try simp only [wf_preprocess] at h) <;> simp -implicitDefEqProofs (disch := omega) only [go_sem, hb] <;> (repeat (with_reducible refine And.intro ?_ ?_; focus first | omega | rfl | assumption | exact ⟨_, rfl, rfl⟩ | (simp; omega) | (simp; done)))
  · have h1 := h
    refine call_w (l13Words_ok d.fVars 3 (by omega) hb0.2.2.2) ?_
    simp -implicitDefEqProofs (disch := omega) only [go_sem] <;> (repeat (with_reducible refine And.intro ?_ ?_; focus first | omega | rfl | assumption | exact ⟨_, rfl, rfl⟩ | (simp; omega) | (simp; done)))
    with_reducible refine split2 (fun hb => ?_) (fun hb => ?_) <;> have h := hb <;> (try simp only [wf_preprocess] at h) <;> simp -implicitDefEqProofs (disch := omega) only [go_sem, hb] <;> (repeat (with_reducible refine And.intro ?_ ?_; focus first | omega | rfl | assumption | exact ⟨_, rfl, rfl⟩ | (simp; omega) | (simp; done)))
    · have h2 := h
      with_reducible refine split2 (fun hb => ?_) (fun hb => ?_) <;> have h := hb <;> (try simp only [wf_preprocess] at h) <;> simp -implicitDefEqProofs (disch := omega) only [go_sem, hb] <;> (repeat (with_reducible refine And.intro ?_ ?_; focus first | omega | rfl | assumption | exact ⟨_, rfl, rfl⟩ | (simp; omega) | (simp; done)))
      · have h3 := h
        refine call_w (l13Words_ok names 5 (by omega) hnl) ?_
        simp -implicitDefEqProofs (disch := omega) only [go_sem] <;> (repeat (with_reducible refine And.intro ?_ ?_; focus first | omega | rfl | assumption | exact ⟨_, rfl, rfl⟩ | (simp; omega) | (simp; done)))
        refine bool_eq ?_
        rw [Bool.and_eq_true] at h2
        have h4 := of_dec h2.1
        unfold validData
        rw [h1, h2.2, hall, ← hn, dec_true (show d.fVars.length ≤ 3 by omega), dec_true (show 1 ≤ d.fConstructors.length by omega), hlen]
        simp only [Bool.true_and]
        congr 1
        exact dec_congr ⟨fun h => by omega, fun h => by omega⟩
      · refine bool_eq ?_
        unfold validData
        rw [dec_false (show ¬ 1 ≤ d.fConstructors.length by omega)]; simp
    · refine bool_eq ?_
      unfold validData
      have h2 : (dec (d.fVars.length ≤ 3) && namesOk d.fVars) = false := by
        rw [← h]; congr 1; exact dec_congr ⟨fun h => by omega, fun h => by omega⟩
      rw [← Bool.and_assoc (dec (d.fVars.length ≤ 3)), h2]; simp
  · exact bool_eq (by unfold validData; rw [h]; rfl)
theorem implValidData_ok (d : MDataType) (hsz : d.sz ≤ 4194304) : PCall Tryz.prog 9 [d.v] (.c (.d (.b (validData d)))) := fun S => by
  have hb0 := MDataType.bounds hsz
  have bad : ∀ i, ∀ hi : i < d.fConstructors.length, consOk d.fVars d.fConstructors[i] = false → validData d = false := fun i hi h => by
    have : d.fConstructors.all (consOk d.fVars) = false := Bool.eq_false_iff.2 fun hx => by
      rw [List.all_eq_true.1 hx _ (List.getElem_mem hi)] at h; cases h
    unfold validData
    rw [this]; simp
  refine acall_cw (rs := [.tmp 2]) Tryz.checked.mixed Tryz.func9 Tryz.ntmps9 rfl rfl rfl rfl rfl ?_
  simp -implicitDefEqProofs (disch := omega) only [go_sem]
  refine call_w (implValidName_ok d.fName (by omega)) ?_
  simp -implicitDefEqProofs (disch := omega) only [go_sem] <;> (repeat (with_reducible refine And.intro ?_ ?_; focus first | omega | rfl | assumption | exact ⟨_, rfl, rfl⟩ | (simp; omega) | (simp; done)))
  with_reducible refine split2 (fun hb => ?_) (fun hb => ?_) <;> have h := hb <;> (try simp only [wf_preprocess] at h) <;> simp -implicitDefEqProofs (disch := omega) only [go_sem, hb] <;> (repeat (with_reducible refine And.intro ?_ ?_; focus first | omega | rfl | assumption | exact ⟨_, rfl, rfl⟩ | (simp; omega) | (simp; done)))
  · exact bool_eq (by unfold validData; rw [h]; rfl)
  have h1 := h
  with_reducible refine split2 (fun hb => ?_) (fun hb => ?_) <;> have h := hb <;> (try simp only [wf_preprocess] at h) <;> simp -implicitDefEqProofs (disch := omega) only [go_sem, hb] <;> (repeat (with_reducible refine And.intro ?_ ?_; focus first | omega | rfl | assumption | exact ⟨_, rfl, rfl⟩ | (simp; omega) | (simp; done)))
  · exact bool_eq (by unfold validData; rw [dec_false (show ¬ d.fVars.length ≤ 3 by omega)]; simp)
  have h2 := h
  refine call_w (areNames_ok d.fVars (by omega) hb0.2.2.2) ?_
  simp -implicitDefEqProofs (disch := omega) only [go_sem] <;> (repeat (with_reducible refine And.intro ?_ ?_; focus first | omega | rfl | assumption | exact ⟨_, rfl, rfl⟩ | (simp; omega) | (simp; done)))
  with_reducible refine split2 (fun hb => ?_) (fun hb => ?_) <;> have h := hb <;> (try simp only [wf_preprocess] at h) <;> simp -implicitDefEqProofs (disch := omega) only [go_sem, hb] <;> (repeat (with_reducible refine And.intro ?_ ?_; focus first | omega | rfl | assumption | exact ⟨_, rfl, rfl⟩ | (simp; omega) | (simp; done)))
  · exact bool_eq (by unfold validData; rw [h]; simp)
  have h3 := h
  with_reducible refine split2 (fun hb => ?_) (fun hb => ?_) <;> have h := hb <;> (try simp only [wf_preprocess] at h) <;> simp -implicitDefEqProofs (disch := omega) only [go_sem, hb] <;> (repeat (with_reducible refine And.intro ?_ ?_; focus first | omega | rfl | assumption | exact ⟨_, rfl, rfl⟩ | (simp; omega) | (simp; done)))
  · exact bool_eq (by unfold validData; rw [dec_false (show ¬ 1 ≤ d.fConstructors.length by omega)]; simp)
  have h4 := h
  with_reducible refine split2 (fun hb => ?_) (fun hb => ?_) <;> have h := hb <;> (try simp only [wf_preprocess] at h) <;> simp -implicitDefEqProofs (disch := omega) only [go_sem, hb] <;> (repeat (with_reducible refine And.intro ?_ ?_; focus first | omega | rfl | assumption | exact ⟨_, rfl, rfl⟩ | (simp; omega) | (simp; done)))
  · exact bool_eq (by unfold validData; rw [dec_false (show ¬ d.fConstructors.length ≤ 5 by omega)]; simp)
  have h5 := h
  (repeat (with_reducible refine And.intro ?_ ?_; focus first | omega | rfl | assumption | exact ⟨_, rfl, rfl⟩ | (simp; omega) | (simp; done)))
  refine aw_tok 3 1 [] rfl (by simp) ?_
  refine loop_at (ι := Nat × List (List UInt8)) Tryz.checked.mixed rfl [1, 3, 36, 37, 38] (fun y => [.c (.ptr (0, 0) 0), .c (.tsl (0, 1) (y.2.map encS)), .c (.d (.sl (d.fConstructors.map MConstructor.enc))), .c (.d (.i .i64 d.fConstructors.length)), .c (.d (.i .i64 y.1))]) (fun y => [.box (d.enc.map .d), .tok 1 (y.2.map encS)] :: S)
    (fun y => y.1 ≤ d.fConstructors.length ∧ y.2 = (consNames d).take y.1 ∧ ∀ j, ∀ hj : j < d.fConstructors.length, j < y.1 → consOk d.fVars d.fConstructors[j] = true) (fun y => d.fConstructors.length - y.1) (0, []) rfl ?_ ⟨Nat.zero_le _, rfl, fun j _ h => by simp only at h; omega⟩ ?_
  · simp -implicitDefEqProofs (disch := omega) only [go_sem]
  rintro ⟨i, names⟩ ⟨p1, p2, p3⟩
  simp only at p1 p2 p3
  have pl : names.length ≤ d.fConstructors.length := by rw [p2]; simp [consNames]; omega
  simp -implicitDefEqProofs (disch := omega) only [go_sem]
  with_reducible refine split2 (fun hb => ?_) (fun hb => ?_) <;> have h := hb <;> (try simp only [wf_preprocess] at h) <;> simp -implicitDefEqProofs (disch := omega) only [go_sem, hb] <;> (repeat (with_reducible refine And.intro ?_ ?_; focus first | omega | rfl | assumption | exact ⟨_, rfl, rfl⟩ | (simp; omega) | (simp; done)))
  · have hi : i < d.fConstructors.length := by omega
    have hc := MConstructor.bounds (MDataType.con_b hi hsz)
    (repeat (with_reducible refine And.intro ?_ ?_; focus first | omega | rfl | assumption | exact ⟨_, rfl, rfl⟩ | (simp; omega) | (simp; done)))
    with_reducible refine split2 (fun hb => ?_) (fun hb => ?_) <;> have h := hb <;> (try simp only [wf_preprocess] at h) <;> simp -implicitDefEqProofs (disch := omega) only [go_sem, hb] <;> (repeat (with_reducible refine And.intro ?_ ?_; focus first | omega | rfl | assumption | exact ⟨_, rfl, rfl⟩ | (simp; omega) | (simp; done)))
    · rw [bad i hi (by unfold consOk; rw [dec_false (by omega)]; rfl)]
    have k1 := h
    (repeat (with_reducible refine And.intro ?_ ?_; focus first | omega | rfl | assumption | exact ⟨_, rfl, rfl⟩ | (simp; omega) | (simp; done)))
    refine call_w (areTypesOver_ok d.fConstructors[i].fFields d.fVars (by omega) hc.2.2 (by omega)) ?_
    simp -implicitDefEqProofs (disch := omega) only [go_sem] <;> (repeat (with_reducible refine And.intro ?_ ?_; focus first | omega | rfl | assumption | exact ⟨_, rfl, rfl⟩ | (simp; omega) | (simp; done)))
    with_reducible refine split2 (fun hb => ?_) (fun hb => ?_) <;> have h := hb <;> (try simp only [wf_preprocess] at h) <;> simp -implicitDefEqProofs (disch := omega) only [go_sem, hb] <;> (repeat (with_reducible refine And.intro ?_ ?_; focus first | omega | rfl | assumption | exact ⟨_, rfl, rfl⟩ | (simp; omega) | (simp; done)))
    · rw [bad i hi (by unfold consOk; rw [h]; simp)]
    have k2 := h
    (repeat (with_reducible refine And.intro ?_ ?_; focus first | omega | rfl | assumption | exact ⟨_, rfl, rfl⟩ | (simp; omega) | (simp; done)))
    rw [show List.map encS names ++ [[D.s d.fConstructors[i].fName]] = List.map encS (names ++ [d.fConstructors[i].fName]) by simp [encS]]
    exact inv_drop 2 (by decide) (i + 1, names ++ [d.fConstructors[i].fName]) (by simp only; omega) rfl rfl rfl rfl ⟨by simp only; omega, by simp only; rw [p2, take_snoc (by simpa [consNames] using hi)]; simp [consNames], fun j hj hji => by
      simp only at hji
      by_cases e : j = i
      · subst e; unfold consOk; rw [k2, dec_true (by omega)]; rfl
      · exact p3 j hj (by omega)⟩
  have hi : i = d.fConstructors.length := by omega
  have hn : names = consNames d := by rw [p2, List.take_of_length_le (by simp [consNames]; omega)]
  have hall : d.fConstructors.all (consOk d.fVars) = true := List.all_eq_true.2 fun c hc => by
    obtain ⟨j, hj, e⟩ := List.getElem_of_mem hc
    rw [← e]; exact p3 j hj (by omega)
  have hnl : ∀ s ∈ names, s.length ≤ 4194304 := fun s hs => by
    rw [hn] at hs
    obtain ⟨c, hc, e⟩ := List.mem_map.1 hs
    obtain ⟨j, hj, e'⟩ := List.getElem_of_mem hc
    rw [← e, ← e']; exact (MConstructor.bounds (MDataType.con_b hj hsz)).1
  refine call_w (areNames_ok names (by omega) hnl) ?_
  simp -implicitDefEqProofs (disch := omega) only [go_sem] <;> (repeat (with_reducible refine And.intro ?_ ?_; focus first | omega | rfl | assumption | exact ⟨_, rfl, rfl⟩ | (simp; omega) | (simp; done)))
  exact bool_eq (by unfold validData; rw [h1, h3, hall, ← hn, dec_true (show d.fVars.length ≤ 3 by omega), dec_true (show 1 ≤ d.fConstructors.length by omega), dec_true (show d.fConstructors.length ≤ 5 by omega)]; simp)
end Go.Proofs.YtnceiannponbjaaGreat

namespace Go.Ab
def wData : List UInt8 := [100, 97, 116, 97]
def sxC (c : MConstructor) : MSExpr := listX ([atomX c.fName] ++ c.fFields.map sxT)
def baseD (d : MDataType) : List MSExpr := [atomX wData, atomX d.fName, listX (wordsX d.fVars)]
def sxD (d : MDataType) : MSExpr := listX (baseD d ++ d.fConstructors.map sxC)
noncomputable def outD (d : MDataType) : MSExpr := outX (validData d) (sxD d)
theorem outD_sz {d : MDataType} (h : d.sz ≤ 1048576) : (outD d).sz ≤ 1048576 := Nat.le_trans (outX_sz _ _) (by decide)
def szC : List MConstructor → Nat
  | [] => 0
  | x :: xs => x.sz + szC xs
theorem szC_rows : ∀ l, szRows (l.map MConstructor.enc) = szC l
  | [] => rfl
  | x :: xs => by rw [List.map_cons, szRows, szC, szC_rows xs]; rfl
theorem con_sz_eq (x : MConstructor) : x.sz = x.fName.length + (x.fFields.length + szT x.fFields) := by
  rw [← szT_rows]; simp only [MConstructor.sz, MConstructor.enc_eq, szRow, D.sz, List.length_map]; omega
theorem data_sz_eq (x : MDataType) : x.sz = x.fName.length + (x.fVars.length + (x.fVars.map List.length).sum) + (x.fConstructors.length + szC x.fConstructors) := by
  rw [← szC_rows, ← szRows_encS]; simp only [MDataType.sz, MDataType.enc_eq, szRow, D.sz, List.length_map]; omega
theorem sxC_le (c : MConstructor) : (sxC c).sz ≤ 1 + 16 * c.sz := by
  have := sxT_map_le c.fFields
  rw [sxC, sz_list, szX_append, List.length_append, List.length_map, con_sz_eq]
  simp [szX, sz_atom]; omega
theorem sxCs_le : ∀ l : List MConstructor, szX (l.map sxC) ≤ l.length + 16 * szC l
  | [] => by simp [szX]
  | c :: l => by
    have h1 := sxC_le c
    have h2 := sxCs_le l
    rw [List.map_cons, szX, szC, List.length_cons]; omega
theorem sxD_le (d : MDataType) : (sxD d).sz ≤ 7 + 16 * d.sz := by
  have := sxCs_le d.fConstructors
  rw [sxD, sz_list, szX_append, List.length_append, List.length_map, data_sz_eq]
  simp [baseD, szX, sz_atom, sz_list, words_len, szX_words, wData]; omega
theorem base_rows (n : Nat) (a b : List UInt8) (w : List (List UInt8)) : lx [atomX a, atomX b, listX (wordsX w)] (n + 1) = [[.s a, .ol (n + 1) []], [.s b, .ol (n + 1 + 1) []], [.s [], .ol (n + 1 + 1 + 1) (lx (wordsX w) (n + 1 + 1 + 1 + 1))]] := by
  simp only [lx_cons, lx_nil, labX_eq, fAtom_atom, fList_atom, fAtom_list, fList_list, cntX_atom]
theorem typesOver_formed {vars : List (List UInt8)} {ts : List MType} (h : typesOver vars ts = true) : formeds ts = true := formeds_iff.2 fun t ht => by
  have := List.all_eq_true.1 h t ht
  unfold typeOver at this
  rw [Bool.and_eq_true] at this
  exact valid_formed this.1
theorem validData_cons {d : MDataType} (h : validData d = true) : ∀ c ∈ d.fConstructors, formeds c.fFields = true := fun c hc => by
  have h1 : d.fConstructors.all (consOk d.fVars) = true := by
    unfold validData at h
    simp only [Bool.and_eq_true] at h
    simp_all
  have h2 := List.all_eq_true.1 h1 c hc
  unfold consOk at h2
  rw [Bool.and_eq_true] at h2
  exact typesOver_formed h2.2
theorem ty_mem_sz {l : List MType} {t : MType} (h : t ∈ l) : t.sz ≤ szT l := by
  rw [← szT_rows]; exact szRows_mem (List.mem_map_of_mem h)
theorem con_mem_sz {l : List MConstructor} {t : MConstructor} (h : t ∈ l) : t.sz ≤ szC l := by
  rw [← szC_rows]; exact szRows_mem (List.mem_map_of_mem h)
end Go.Ab
namespace Go.Proofs.YtnceiannponbjaaGreat
open Go Go.Ab
theorem implEncData_lab (d : MDataType) (n : Nat) (hv : validData d = true) (hsz : d.sz ≤ 1048576) : PCall Tryz.prog 17 [d.v] (.agg [.d (.s []), .d (.ol n (lx (sxD d).fList (n + 1)))]) := fun S => by
  have hdz := data_sz_eq d
  have hfo := validData_cons hv
  have hlen : d.fConstructors.length ≤ 1048576 := by omega
  obtain ⟨L, hL⟩ : ∃ L : Nat → Nat, L = fun i => n + 1 + cntXs (baseD d ++ (d.fConstructors.map sxC).take i) := ⟨_, rfl⟩
  obtain ⟨T, hT⟩ : ∃ T : Nat → List (List D), T = fun i => lx (baseD d ++ (d.fConstructors.map sxC).take i) (n + 1) := ⟨_, rfl⟩
  have hT0 : T 0 = [[.s wData, .ol (n + 1) []], [.s d.fName, .ol (n + 1 + 1) []], [.s [], .ol (n + 1 + 1 + 1) (lx (wordsX d.fVars) (n + 1 + 1 + 1 + 1))]] := by
    rw [hT]; simp only [List.take_zero, List.append_nil]; exact base_rows _ _ _ _
  have hTl : ∀ i, (T i).length ≤ i + 3 := fun i => by
    rw [hT]; simp only [lx_length, List.length_append]
    have := List.length_take_le i (d.fConstructors.map sxC)
    simp [baseD]; omega
  have hTs : ∀ i (hi : i < d.fConstructors.length), T i ++ [[.s [], .ol (L i) (lx ([atomX d.fConstructors[i].fName] ++ d.fConstructors[i].fFields.map sxT) (L i + 1))]] = T (i + 1) := fun i hi => by
    have := lx_snocB (base := baseD d) (l := d.fConstructors.map sxC) (i := i) (by rw [List.length_map]; exact hi) (n + 1)
    rw [List.getElem_map] at this
    rw [hT, hL]; exact this
  have hTr : ∀ i, ∀ r ∈ T i, r.length = 2 := fun i => by rw [hT]; exact lx_rows
  have hTe : T d.fConstructors.length = lx (sxD d).fList (n + 1) := by
    rw [hT]; simp only
    rw [List.take_of_length_le (by simp)]; rfl
  clear hT hL
  refine acall_cwLs (n) 1 (rs := [.cell 2 31]) Tryz.checked.mixed Tryz.func17 Tryz.ntmps17 rfl rfl rfl rfl rfl ?_
  simp -implicitDefEqProofs (disch := omega) only [go_sem]
  refine call_w (implAtom_lab _ (n + 1)) ?_
  simp -implicitDefEqProofs (disch := omega) only [go_sem]
  refine call_w (implAtom_lab _ (n + 1 + 1)) ?_
  simp -implicitDefEqProofs (disch := omega) only [go_sem]
  refine call_w (implNameList_lab d.fVars (by omega) (n + 1 + 1 + 1)) ?_
  simp -implicitDefEqProofs (disch := omega) only [go_sem]
  (repeat (with_reducible refine And.intro ?_ ?_; focus first | omega | rfl | assumption | exact ⟨_, rfl, rfl⟩ | (simp; omega) | (simp; done)))
  refine aw_ltok n 3 2 (T 0) (.inl ?_) (hTr 0) ?_
  · rw [hT0]; rfl
  refine aw_reseed (L 0) ?_
  refine loop_at (ι := Nat) Tryz.checked.mixed rfl [2, 3, 15, 16, 17] (fun i => [.c (.ptr (0, 3) 0), .c (.tsl (0, 4) (T i)), .c (.d (.sl (d.fConstructors.map MConstructor.enc))), .c (.d (.i .i64 d.fConstructors.length)), .c (.d (.i .i64 i))])
    (fun i => [.seed (L i), .seed 1, .box [.d (.s d.fName), .d (.sl (d.fVars.map encS)), .d (.sl (d.fConstructors.map MConstructor.enc))], .box [.d (.s []), .fsl []], .ltok n 2 (T i)] :: S)
    (fun i => i ≤ d.fConstructors.length) (fun i => d.fConstructors.length - i) 0 rfl rfl (Nat.zero_le _) ?_
  intro i hi
  have hl := hTl i
  simp -implicitDefEqProofs (disch := omega) only [go_sem]
  with_reducible refine split2 (fun hb => ?_) (fun hb => ?_) <;> have h := hb <;> (try simp only [wf_preprocess] at h) <;> simp -implicitDefEqProofs (disch := omega) only [go_sem, hb] <;> (repeat (with_reducible refine And.intro ?_ ?_; focus first | omega | rfl | assumption | exact ⟨_, rfl, rfl⟩ | (simp; omega) | (simp; done)))
  · have hi' : i < d.fConstructors.length := by omega
    have hm := List.getElem_mem hi'
    have hcz := con_mem_sz hm
    have hce := con_sz_eq d.fConstructors[i]
    have hs := hTs i hi'
    (repeat (with_reducible refine And.intro ?_ ?_; focus first | omega | rfl | assumption | exact ⟨_, rfl, rfl⟩ | (simp; omega) | (simp; done)))
    refine call_w (implAtom_lab _ (L i + 1)) ?_
    simp -implicitDefEqProofs (disch := omega) only [go_sem]
    refine call_w (implTys_lab d.fConstructors[i].fFields 0 (L i + 1 + 1) (hfo _ hm) (by omega) (fun t ht => by have := ty_mem_sz ht; omega)) ?_
    simp -implicitDefEqProofs (disch := omega) only [go_sem]
    have hr := lx_rows (l := d.fConstructors[i].fFields.map sxT) (n := L i + 1 + 1)
    have hl2 : (lx (d.fConstructors[i].fFields.map sxT) (L i + 1 + 1)).length = d.fConstructors[i].fFields.length := by rw [lx_length, List.length_map]
    (repeat (with_reducible refine And.intro ?_ ?_; focus first | omega | rfl | assumption | exact ⟨_, rfl, rfl⟩ | (simp; omega) | (simp; done)))
    refine call_w (implList_d _) ?_
    simp -implicitDefEqProofs (disch := omega) only [go_sem]
    (repeat (with_reducible refine And.intro ?_ ?_; focus first | omega | rfl | assumption | exact ⟨_, rfl, rfl⟩ | (simp; omega) | (simp; done)))
    simp only [List.cons_append, List.nil_append, lx_cons, labX_atom, cntX_atom] at hs
    rw [hs]
    refine inv_seed (L (i + 1)) 4 (by decide) (i + 1) (by omega) rfl rfl ?_ rfl (by omega)
    simp [tmRefs, zipTm, V.refs, C.refs, refK]
  · have hi' : i = d.fConstructors.length := by omega
    refine call_d rfl (implList_t 0 4 _ _) ?_
    simp -implicitDefEqProofs (disch := omega) only [go_sem]
    rw [hi', hTe]
theorem implData_lab (d : MDataType) (n : Nat) (hsz : d.sz ≤ 1048576) : PCall Tryz.prog 6 [d.v] (.agg [.d (.s (outD d).fAtom), .d (.ol n (lx (outD d).fList (n + 1)))]) := by
  have hz := sxD_le d
  unfold outD
  cases hv : validData d with
  | false =>
    rw [outX]
    refine PCall.less (fun S => ?_) (less_x0 [] n)
    refine acall_cw (rs := [.cell 2 31]) Tryz.checked.mixed Tryz.func6 Tryz.ntmps6 rfl rfl rfl rfl rfl ?_
    simp -implicitDefEqProofs (disch := omega) only [go_sem]
    refine call_w (implValidData_ok d (by omega)) ?_
    simp -implicitDefEqProofs (disch := omega) only [go_sem, hv]
  | true =>
    intro S
    refine acall_cw (rs := [.cell 2 31]) Tryz.checked.mixed Tryz.func6 Tryz.ntmps6 rfl rfl rfl rfl rfl ?_
    simp -implicitDefEqProofs (disch := omega) only [go_sem]
    refine call_w (implValidData_ok d (by omega)) ?_
    simp -implicitDefEqProofs (disch := omega) only [go_sem, hv]
    refine call_w (implEncData_lab d n hv hsz) ?_
    simp -implicitDefEqProofs (disch := omega) only [go_sem]
    refine call_w (implIf_lab (sxD d) n (by omega)) ?_
    simp -implicitDefEqProofs (disch := omega) only [go_sem]
    rfl
theorem specData_ok (d : MDataType) (hsz : d.sz ≤ 1048576) : PCall Tryz.prog 8 [d.v] (outD d).v := fun S => by
  have hz := sxD_le d
  have hdz := data_sz_eq d
  obtain ⟨T, hT⟩ : ∃ T : Nat → List (List D), T = fun i => (baseD d ++ (d.fConstructors.map sxC).take i).map MSExpr.enc := ⟨_, rfl⟩
  have hT0 : T 0 = [[.s wData, .sl []], [.s d.fName, .sl []], [.s [], .sl ((wordsX d.fVars).map MSExpr.enc)]] := by
    rw [hT]; simp only [List.take_zero, List.append_nil, baseD, List.map_cons, List.map_nil, enc_atom, enc_list]
  have hTl : ∀ i, (T i).length ≤ i + 3 := fun i => by
    rw [hT]; simp only [List.length_map, List.length_append]
    have := List.length_take_le i (d.fConstructors.map sxC)
    simp [baseD]; omega
  have hTs : ∀ i (hi : i < d.fConstructors.length), T i ++ [[.s [], .sl (([atomX d.fConstructors[i].fName] ++ d.fConstructors[i].fFields.map sxT).map MSExpr.enc)]] = T (i + 1) := fun i hi => by
    have := encX_snoc (base := baseD d) (l := d.fConstructors.map sxC) (i := i) (by rw [List.length_map]; exact hi)
    rw [List.getElem_map] at this
    rw [hT]; exact this
  have hTr : ∀ i, ∀ r ∈ T i, r.length = 2 := fun i => by rw [hT]; exact enc_rows
  have hTe : T d.fConstructors.length = (sxD d).fList.map MSExpr.enc := by
    rw [hT]; simp only
    rw [List.take_of_length_le (by simp)]; rfl
  clear hT
  refine acall_cw (rs := [.cell 2 31]) Tryz.checked.mixed Tryz.func8 Tryz.ntmps8 rfl rfl rfl rfl rfl ?_
  simp -implicitDefEqProofs (disch := omega) only [go_sem]
  refine call_w (specAtom_ok _) ?_
  simp -implicitDefEqProofs (disch := omega) only [go_sem]
  refine call_w (specAtom_ok _) ?_
  simp -implicitDefEqProofs (disch := omega) only [go_sem]
  refine call_w (specNameList_ok d.fVars (by omega)) ?_
  simp -implicitDefEqProofs (disch := omega) only [go_sem]
  have hE := fun own0 Ω => specList_esc (T 0) (hTr 0) (by have := hTl 0; omega) own0 Ω
  simp only [hT0] at hE
  refine call_m [false] rfl (hE _ _) ?_
  simp -implicitDefEqProofs (disch := omega) only [go_sem]
  refine loop_at (ι := Nat) Tryz.checked.mixed rfl [1, 2, 3, 4] (fun i => [.c (.ptr (0, 0) 0), .c (.ptr (0, 1) 0), .c (.ptr (0, 4) 0), .c (.d (.i .i64 i))])
    (fun i => [.box [.d (.s d.fName), .d (.sl (d.fVars.map encS)), .d (.sl (d.fConstructors.map MConstructor.enc))], .box [.d (.s []), .fsl []], .box [.d (.s []), .tsl (0, 3) (T 0)], .tok 2 (T i), .box [.d (.s []), .tsl (0, 3) (T i)]] :: S)
    (fun i => i ≤ d.fConstructors.length) (fun i => d.fConstructors.length - i) 0 rfl (by simp only [hT0] <;> (try rfl)) (Nat.zero_le _) ?_
  intro i hi
  have hl := hTl i
  simp -implicitDefEqProofs (disch := omega) only [go_sem]
  with_reducible refine split2 (fun hb => ?_) (fun hb => ?_) <;> have h := hb <;> (try simp only [wf_preprocess] at h) <;> simp -implicitDefEqProofs (disch := omega) only [go_sem, hb] <;> (repeat (with_reducible refine And.intro ?_ ?_; focus first | omega | rfl | assumption | exact ⟨_, rfl, rfl⟩ | (simp; omega) | (simp; done)))
  · have hi' : i < d.fConstructors.length := by omega
    have hm := List.getElem_mem hi'
    have hcz := con_mem_sz hm
    have hce := con_sz_eq d.fConstructors[i]
    have hs := hTs i hi'
    (repeat (with_reducible refine And.intro ?_ ?_; focus first | omega | rfl | assumption | exact ⟨_, rfl, rfl⟩ | (simp; omega) | (simp; done)))
    refine call_w (specAtom_ok _) ?_
    simp -implicitDefEqProofs (disch := omega) only [go_sem]
    (repeat (with_reducible refine And.intro ?_ ?_; focus first | omega | rfl | assumption | exact ⟨_, rfl, rfl⟩ | (simp; omega) | (simp; done)))
    refine call_w (specTys_ok d.fConstructors[i].fFields (by omega) (fun t ht => by have := ty_mem_sz ht; omega)) ?_
    simp -implicitDefEqProofs (disch := omega) only [go_sem]
    have hr := enc_rows (l := d.fConstructors[i].fFields.map sxT)
    have hl2 : ((d.fConstructors[i].fFields.map sxT).map MSExpr.enc).length = d.fConstructors[i].fFields.length := by rw [List.length_map, List.length_map]
    (repeat (with_reducible refine And.intro ?_ ?_; focus first | omega | rfl | assumption | exact ⟨_, rfl, rfl⟩ | (simp; omega) | (simp; done)))
    simp only [List.cons_append, List.nil_append, List.map_cons, enc_atom] at hs
    rw [hs]
    exact inv_drop 5 (by decide) (i + 1) (by omega) rfl rfl rfl rfl (by omega)
  · have hi' : i = d.fConstructors.length := by omega
    subst hi'
    rw [hTe]
    refine call_w (specValidData_ok d (by omega)) ?_
    simp -implicitDefEqProofs (disch := omega) only [go_sem]
    refine call_w (specIf_ok (validData d) (sxD d) (by omega)) ?_
    simp -implicitDefEqProofs (disch := omega) only [go_sem]
    rfl
end Go.Proofs.YtnceiannponbjaaGreat

namespace Go.Ab
section
variable {P : Program} {N : Nat} {w w' : World} {σ σ' : Nat → Nat} {S S' : Store} {β β' : Hs} {s : St} {a : Act}
def C.mv (n j m : Nat) : C → C
  | .msl (0, i) => if i = m then .msl (0, j) else if i < n ∧ i ≠ j then .msl (0, i) else .any
  | .tsl (0, i) es => if i < n ∧ i ≠ j then .tsl (0, i) es else .any
  | .ptr (0, i) off => if i < n ∧ i ≠ j then .ptr (0, i) off else .any
  | .eptr (0, i) x off => if i < n ∧ i ≠ j then .eptr (0, i) x off else .any
  | .mp (0, i) => if i < n ∧ i ≠ j then .mp (0, i) else .any
  | .fn _ _ => .any
  | .xp (0, i) r p => if i < n ∧ i ≠ j then .xp (0, i) r p else .any
  | .xq (0, i) r p z x off => if i < n ∧ i ≠ j then .xq (0, i) r p z x off else .any
  | c => c
end
end Go.Ab

namespace Go.Ab
section
variable {P : Program} {N : Nat} {S : Store}
theorem no_root (r : Nat) (T : Value) (h : rootAt undef r = some T) : False := by cases h
theorem aw_rows {c : Code} {Q : Exit → St → Prop} {tm : List (Nat × V)} {Ω : Store} (h : AW P N c Q ⟨tm, [.xf []] :: Ω⟩) : AW P N c Q ⟨tm, [] :: Ω⟩ := by
  refine aw_ghost h fun a w σ β hR => ?_
  obtain ⟨bo, bΩ, rfl, hlen⟩ := frames hR
  obtain ⟨hS', hk, hst⟩ := hR.S.push (o := .xf []) (h := undef) (Grow.refl hR.S.live) hlen
    ⟨fun r es e => by simp at e, fun r T e => (no_root r T e).elim, fun b hb => by obtain ⟨r, T, e, _⟩ := hb; exact (no_root r T e).elim, fun r r' T T' x _ e _ _ _ => no_root r T e⟩
    (fun b hb => by obtain ⟨r, T, e, _⟩ := hb; exact (no_root r T e).elim)
  exact ⟨σ, _, ⟨hR.size, hR.defers, hS', fun u => (hR.T u).mono (Near.refl _ _) hk⟩, hst, Keep.refl _ _⟩
end
end Go.Ab

namespace Go.Ab
section
variable {P : Program} {S S' : Store} {f : FuncId} {args : List V}
end
section
variable {w : World} {σ : Nat → Nat}
mutual
theorem sg_D {σ2 : Nat → Nat} {lo : Nat} (hs : ∀ b c t fz m, w.heap[b]? = some (.cells c t fz) → σ b = c.size + 1 + m → lo ≤ m → σ2 b = σ b) : ∀ (d : D) (n : Nat) (v : Value), lo ≤ n → plD d = true → RepD w σ (labD d n) v → RepD w σ2 (labD d n) v
  | .sl es, n, v, hn, hp, h => by
    rw [labD] at h ⊢
    have hrec := sg_Rs hs es (n + 1)
    generalize labRs es (n + 1) = q at h hrec ⊢
    cases h with
    | onil n a cap => exact .onil n a cap
    | ol n b off cap z q vals c t hcap hlen hb hσ hfit hc hv hx => exact .ol n b off cap z q vals c t hcap hlen hb ((hs b c t _ _ hb hσ hn).trans hσ) hfit hc (hrec vals (by omega) (by simpa [plD] using hp) hv) hx
  | .ol m es, n, v, hn, hp, h => by simp [plD] at hp
  | .b x, n, v, hn, hp, h => by rw [labD] at h ⊢; cases h; constructor
  | .i k x, n, v, hn, hp, h => by rw [labD] at h ⊢; cases h; constructor
  | .s l, n, v, hn, hp, h => by rw [labD] at h ⊢; cases h; constructor
  | .o u, n, v, hn, hp, h => by simp [plD] at hp
theorem sg_R {σ2 : Nat → Nat} {lo : Nat} (hs : ∀ b c t fz m, w.heap[b]? = some (.cells c t fz) → σ b = c.size + 1 + m → lo ≤ m → σ2 b = σ b) : ∀ (r : List D) (n : Nat) (vals : Nat → Value), lo ≤ n → plR r = true → (∀ (j : Nat) (d : D), (labR r n)[j]? = some d → RepD w σ d (vals j)) →
    ∀ (j : Nat) (d : D), (labR r n)[j]? = some d → RepD w σ2 d (vals j)
  | [], n, vals, hn, hp, h, j, d, hd => by simp [labR] at hd
  | a :: r, n, vals, hn, hp, h, j, d, hd => by
    rw [plR, Bool.and_eq_true] at hp
    rw [labR] at h hd
    cases j with
    | zero =>
      simp at hd; subst hd
      exact sg_D hs a n _ hn hp.1 (h 0 _ rfl)
    | succ j => exact sg_R hs r (n + cntD a) (fun i => vals (i + 1)) (by omega) hp.2 (fun i d hi => h (i + 1) d hi) j d hd
theorem sg_Rs {σ2 : Nat → Nat} {lo : Nat} (hs : ∀ b c t fz m, w.heap[b]? = some (.cells c t fz) → σ b = c.size + 1 + m → lo ≤ m → σ2 b = σ b) : ∀ (rs : List (List D)) (n : Nat) (vals : Nat → Value), lo ≤ n → plRs rs = true → (∀ (j : Nat) (d : D), (labRs rs n).flatten[j]? = some d → RepD w σ d (vals j)) →
    ∀ (j : Nat) (d : D), (labRs rs n).flatten[j]? = some d → RepD w σ2 d (vals j)
  | [], n, vals, hn, hp, h, j, d, hd => by simp [labRs] at hd
  | r :: rs, n, vals, hn, hp, h, j, d, hd => by
    rw [plRs, Bool.and_eq_true] at hp
    rw [labRs, List.flatten_cons] at h hd
    by_cases hj : j < (labR r n).length
    · rw [List.getElem?_append_left hj] at hd
      exact sg_R hs r n vals hn hp.1 (fun j d hd => h j d (by rw [List.getElem?_append_left (List.getElem?_eq_some_iff.1 hd).1]; exact hd)) j d hd
    · rw [List.getElem?_append_right (by omega)] at hd
      have := sg_Rs hs rs (n + cntR r) (fun i => vals ((labR r n).length + i)) (by omega) hp.2 (fun j d hd => h _ d (by rw [List.getElem?_append_right (by omega), Nat.add_sub_cancel_left]; exact hd)) (j - (labR r n).length) d hd
      rwa [show (labR r n).length + (j - (labR r n).length) = j by omega] at this
end
end
section
variable {P : Program}
theorem ACall.ownRow {f : FuncId} {args : List V} {own0 : List Obj} {Ω : Store} {a : List UInt8} {es : List (List D)} {z : Nat} (hne : es ≠ []) (hz : ∀ e ∈ es, e.length = z) (hp : plRs es = true)
    (h : ∀ n, PCall P f (args.map pureV) (.agg ((labR [.s a, .sl es] n).map .d))) :
    ACall P f args (own0 :: Ω) (fun r' S' => r' = .agg [.d (.s a), .msl (0, own0.length)] ∧ S' = (own0 ++ [.mrow z es]) :: Ω) := by
  refine ⟨(h 0 []).1, fun w σ β vs hS hargs => ?_⟩
  obtain ⟨n, hn⟩ := bound_of σ w.heap.size
  have hargs0 : RepVs w σ [] [] (args.map pureV) vs := by
    refine ⟨by rw [List.length_map]; exact hargs.1, fun j x hx => ?_⟩
    rw [List.getElem?_map] at hx
    cases ha : args[j]? with
    | none => rw [ha] at hx; cases hx
    | some y =>
      rw [ha] at hx; cases hx
      obtain ⟨v, h1, h2⟩ := hargs.2 j y ha
      exact ⟨v, h1, pure_rep h2 _ _⟩
  refine ((h n []).2 w σ [] vs (repS_empty hS.live hS.glob) hargs0).mono fun e w' ⟨v, r', S', σ', β', he, hS', hk, hst, hv, hr', hS2⟩ => ?_
  subst hr'; subst hS2
  obtain ⟨av, rfl, hcs⟩ := hv
  obtain ⟨v0, e0, e1, e2⟩ := hcs.2 0 _ rfl
  obtain ⟨v1, g0, g1, g2⟩ := hcs.2 1 _ rfl
  have hsl : av.toList.length = 2 := hcs.1.symm
  have hql := labRs_length es (n + 1)
  have hrows := fun zz => rows_lab (z := zz) (rs := es) (n := n + 1)
  have her := fun (σ2 : Nat → Nat) (vals : Nat → Value) => er_Rs (w := w') (σ := σ2) es (n + 1) vals
  have hsg := fun (σ2 : Nat → Nat) (hs : ∀ b c t fz m, w'.heap[b]? = some (.cells c t fz) → σ' b = c.size + 1 + m → n + 1 ≤ m → σ2 b = σ' b) (vals : Nat → Value) => sg_Rs (w := w') (σ := σ') hs es (n + 1) vals (Nat.le_refl _) hp
  have g1' : RepD w' σ' (.ol n (labRs es (n + 1))) v1 := g1
  generalize labRs es (n + 1) = q at g1' hql hrows her hsg
  cases g1' with
  | onil _ ad cap => exact absurd (List.eq_nil_of_length_eq_zero (by simpa using hql.symm)) hne
  | ol _ b off cap esz _ vals c t hcap hlen hb hσ hfit hc hvv hx =>
  obtain ⟨rfl, hfit2⟩ := hx
  have hzz : esz = z := by
    have h1 := hrows esz hlen
    cases es with
    | nil => exact absurd rfl hne
    | cons y ys => rw [← h1 y (by simp), hz y (by simp)]
  subst hzz
  have hfresh : w.heap.size ≤ b := Nat.le_of_not_lt fun hlt => by
    have h1 := (hst.far b hlt no_own0).2
    have h2 := hn b hlt
    omega
  have hblt := lt_of_some hb
  let σ2 : Nat → Nat := fun x => if x = b then 0 else σ' x
  have hg : Grow w σ w' σ2 := ⟨hst.size, hst.os, hst.output, fun x hx => by
    obtain ⟨h1, h2⟩ := hst.far x hx no_own0
    exact ⟨h1, (if_neg (by omega)).trans h2⟩, fun x => by
    rcases hS'.live x with hb | hb
    · exact .inl hb
    · right; show (if x = b then 0 else σ' x) = 0; rw [hb]; split <;> rfl⟩
  have hch := (her σ2 vals (hsg σ2 (fun b1 c1 t1 fz1 m h1 h2 h3 => by
    have : b1 ≠ b := by
      rintro rfl
      rw [hb] at h1; cases h1
      omega
    exact if_neg this) vals hvv)).2
  cases β with
  | nil => have := hS.shape.1; simp at this
  | cons bo bΩ =>
  have hlen' : bo.length = own0.length := by
    obtain ⟨gr, g1, g2⟩ := hS.shape.2 0 own0 rfl
    simp at g1; rw [g1]; exact g2
  rw [hql] at hcap hfit hc g0
  obtain ⟨hS3, hk3, hst3⟩ := hS.push (o := .mrow esz es) (h := .slice (some ⟨b, 0, none⟩) es.length cap) hg hlen'
    ⟨hz, _, cap, rfl, hcap, .inr ⟨b, c, t, rfl, hb, if_pos rfl, hfit2, fun j d hd => ⟨vals j, by
      have := hc j (by have := (List.getElem?_eq_some_iff.1 hd).1; rwa [flat_len es esz hz] at this)
      rwa [Nat.zero_add] at this, hch j d hd⟩⟩⟩ (fun x hx => by
      simp only [owns, blk] at hx
      split at hx
      · cases hx
      · cases hx; exact hfresh)
  refine ⟨_, .agg [.d (.s a), .msl (0, own0.length)], _, σ2, (bo ++ [_]) :: bΩ, he, hS3, hk3, hst3, ⟨av, rfl, hsl.symm, fun j x hx => ?_⟩, rfl, rfl⟩
  match j, hx with
  | 0, hx =>
    cases hx
    exact ⟨v0, e0, by cases e1; constructor, e2⟩
  | 1, hx =>
    cases hx
    exact ⟨_, g0, ⟨_, getO_push_new _ _ _, fun _ _ _ => by rw [← hlen', getO_push_new]⟩, rfl⟩
  | j + 2, hx => simp at hx
end
section
variable {P : Program} {N : Nat} {S : Store} {s : St}
theorem acall_aw {f : FuncId} {fn : Func} {c : Code} {args : List V} {post : V → Store → Prop} {rs : List ResultVar} (_ : P.follows .mixedOrders = true) (hf : P.funcs[f]? = some fn) (hN : fn.ntmps = N)
    (hb : fn.body = some c) (hn : (fn.name == "runtime.NumGoroutine") = false) (hr : fn.results.toList = rs) (hl : Nat.ble args.length N = true) (_ : (0 : Nat) = 0)
    (h : AW P N c (retF P rs post) ⟨argTm (args.map (V.up 1)) 0, [] :: S⟩) : ACall P f args S post := by
  subst hN
  subst hr
  exact acall_enter hf hb hn (Nat.le_of_ble_eq_true hl) (aw_end frzAll_ghost h)
theorem aw_seqC (T : List TypeId) {x y : Code} {Q : Exit → St → Prop} (hmix : P.follows .mixedOrders = true) (hok : codeOkC T N x = true) (h : CWC P N T x (thenK (AW P N y Q) Q) s) : AW P N (.seq x y) Q s := aw_seq (cwc_sound hmix x _ s hok h)
theorem aw_fin (T : List TypeId) {x : Code} {Q : Exit → St → Prop} (hmix : P.follows .mixedOrders = true) (hok : codeOkC T N x = true) (h : CWC P N T x Q s) : AW P N x Q s := cwc_sound hmix x _ s hok h
theorem aw_yes {c : Operand} {x y : Code} {Q : Exit → St → Prop} (hc : ev s.tm c = .c (.d (.b true))) (h : AW P N x Q s) : AW P N (.cond c x y) Q s := aw_cond hc (fun _ => h) (fun h => by cases h)
theorem aw_not {c : Operand} {x y : Code} {Q : Exit → St → Prop} (hc : ev s.tm c = .c (.d (.b false))) (h : AW P N y Q s) : AW P N (.cond c x y) Q s := aw_cond hc (fun h => by cases h) (fun _ => h)
end
section
variable {P : Program} {N : Nat} {S : Store}
theorem acall_cwRc (T : List TypeId) {f : FuncId} {fn : Func} {c : Code} {args : List V} {post : V → Store → Prop} {rs : List ResultVar} (hmix : P.follows .mixedOrders = true) (hf : P.funcs[f]? = some fn) (hN : fn.ntmps = N)
    (hb : fn.body = some c) (hn : (fn.name == "runtime.NumGoroutine") = false) (hr : fn.results.toList = rs) (hl : Nat.ble args.length N = true) (hok : codeOkC T N c = true)
    (h : CWC P N T c (retF P rs post) ⟨argTm (args.map (V.up 1)) 0, [.xf []] :: S⟩) : ACall P f args S post := by
  subst hN
  subst hr
  exact acall_enter hf hb hn (Nat.le_of_ble_eq_true hl) (aw_rows (aw_end frzAll_ghost (cwc_sound hmix c _ _ hok h)))
end
section
variable {P : Program} {S S1 : Store}
theorem ACall.of_le {f : FuncId} {args : List V} {t : V} (h : ACall P f args S fun r S' => Less r t ∧ S' = S1) : ACall P f args S fun r S' => r = t ∧ S' = S1 :=
  ⟨h.1, fun w σ β vs hS hv => (h.2 w σ β vs hS hv).mono fun e w' ⟨v, r, S', σ', β', h1, h2, h3, h4, h5, h6, h7⟩ => ⟨v, t, S', σ', β', h1, h2, h3, h4, h6 _ _ _ _ _ h5, rfl, h7⟩⟩
theorem less_pure {r t : V} (h : pureV r = t) : Less r t := fun w σ S β v hr => by
  rw [← h]
  exact pure_rep hr _ _
end
attribute [go_sem] Bool.or_false Bool.false_or Bool.true_or Bool.or_true
end Go.Ab

namespace Go.Ab
def nilC : MConstructor := ⟨[110, 105, 108], []⟩
def consC : MConstructor := ⟨[99, 111, 110, 115], [varT [97], conT [108, 105, 115, 116] [varT [97]]]⟩
def ctorL : List (List UInt8) := [[99, 111, 110, 115], [], [111, 110, 101]]
theorem short_ctor : Short8 ctorL := by unfold Short8; decide
def dataK {bs : List Int} (k : Int) (c : Cu bs) : MDataType × Cu bs :=
  if k = 0 then (⟨[108, 105, 115, 116], [[97], (pickD abL c).1], [nilC, consC]⟩, (pickD abL c).2) else
  if k = 1 then (⟨[108, 105, 115, 116], [[97]], [nilC, consC].take (belowD 2 c).1.toNat⟩, (belowD 2 c).2) else
  if k = 2 then (⟨[108, 105, 115, 116], [[97]], [⟨[110, 105, 108], [(freeD 2 c).1]⟩, consC]⟩, (freeD 2 c).2) else
  if k = 3 then (⟨[108, 105, 115, 116], [[97]], [⟨(pickD ctorL c).1, []⟩, consC]⟩, (pickD ctorL c).2) else
  (⟨[108, 105, 115, 116], [[97]], [nilC, consC]⟩, c)
def dataX {bs : List Int} (c : Cu bs) : MDataType × Cu bs := dataK (belowD 10 c).1 (belowD 10 c).2
theorem con_mk_sz (s : List UInt8) (l : List MType) : (MConstructor.mk s l).sz = s.length + (l.length + szT l) := con_sz_eq _
theorem consC_sz : consC.sz = 13 := by
  rw [con_sz_eq]
  simp only [consC, szT, sz_var, sz_con1, List.length_cons, List.length_nil]
theorem nilC_sz : nilC.sz = 3 := by rw [con_sz_eq]; simp [nilC, szT]
theorem dataX_sz {bs : List Int} (c : Cu bs) : (dataX c).1.sz ≤ 300 := by
  unfold dataX
  generalize (belowD 10 c).1 = k
  generalize (belowD 10 c).2 = c1
  have h1 := pickD_len c1 short_ab
  have h2 := pickD_len c1 short_ctor
  have h3 := freeD_sz 2 c1
  have h4 : szC ([nilC, consC].take (belowD 2 c1).1.toNat) ≤ 16 := by
    have := belowD_rng (n := 2) c1 (by omega)
    have : (belowD 2 c1).1.toNat = 0 ∨ (belowD 2 c1).1.toNat = 1 := by omega
    rcases this with e | e <;> rw [e] <;> simp [szC, nilC_sz]
  have h5 : ([nilC, consC].take (belowD 2 c1).1.toNat).length ≤ 2 := List.length_take_le' _ _
  unfold dataK
  split
  · simp only [data_sz_eq, szC, consC_sz, nilC_sz, List.map_cons, List.map_nil, List.sum_cons, List.sum_nil, List.length_cons, List.length_nil]; omega
  split
  · simp only [data_sz_eq, List.map_cons, List.map_nil, List.sum_cons, List.sum_nil, List.length_cons, List.length_nil]; omega
  split
  · simp only [data_sz_eq, szC, con_mk_sz, szT, consC_sz, nilC_sz, List.map_cons, List.map_nil, List.sum_cons, List.sum_nil, List.length_cons, List.length_nil]; omega
  split
  · simp only [data_sz_eq, szC, con_mk_sz, szT, consC_sz, nilC_sz, List.map_cons, List.map_nil, List.sum_cons, List.sum_nil, List.length_cons, List.length_nil]; omega
  · simp only [data_sz_eq, szC, consC_sz, nilC_sz, List.map_cons, List.map_nil, List.sum_cons, List.sum_nil, List.length_cons, List.length_nil]; omega
end Go.Ab

namespace Go.Ab
section
variable {P : Program} {w w' : World} {σ σ' : Nat → Nat} {S : Store} {β : Hs}
end
end Go.Ab

namespace Go.Ab
section
variable {P : Program} {w w' : World} {σ σ' : Nat → Nat} {β : Hs}
theorem box_tok {own : List Obj} {Ω : Store} (lab : Option Nat) (j i esz : Nat) (es : List (List D)) (cs : List C) (hj : own[j]? = some (.box cs)) (hi : cs[i]? = some (match lab with | some n => .lfl n es | none => .fsl es)) (hes : ∀ e ∈ es, e.length = esz) (hS : RepS w σ (own :: Ω) β) :
    ∃ β', RepS w σ ((own.set j (.box (cs.set i (.tsl (0, own.length) es))) ++ [tokO lab esz es]) :: Ω) β' ∧ Step (own :: Ω) β σ w ((own.set j (.box (cs.set i (.tsl (0, own.length) es))) ++ [tokO lab esz es]) :: Ω) β' σ w ∧ Keep (own :: Ω) β ((own.set j (.box (cs.set i (.tsl (0, own.length) es))) ++ [tokO lab esz es]) :: Ω) β' := by
  cases β with
  | nil => have := hS.shape.1; simp at this
  | cons bo bΩ =>
  have hlen : bo.length = own.length := by
    obtain ⟨gr, g1, g2⟩ := hS.shape.2 0 own rfl
    simp at g1; rw [g1]; exact g2
  have hjl := (List.getElem?_eq_some_iff.1 hj).1
  have hg0 : getO (own :: Ω) (0, j) = some (.box cs) := by rw [getO_zero]; exact hj
  obtain ⟨hb, hbo, hr⟩ := hS.obj (0, j) _ hg0
  obtain ⟨b, cv, ty, rfl, hbc, hσ, hcs⟩ := hr
  have hcs : RepCs w σ (own :: Ω) (bo :: bΩ) cs cv.toList := hcs
  obtain ⟨v, hv, hc0, hone⟩ := hcs.2 i _ hi
  have hx : ∃ ad : Option Addr, RepD w σ (.sl es) v ∧ v = .slice ad es.length es.length ∧ ∀ n, lab = some n → RepD w σ (.ol n es) v := by
    cases lab with
    | none =>
      obtain ⟨hd, ad, n, hval⟩ := hc0
      have hn : n = es.length := by rw [hval] at hd; cases hd <;> rfl
      exact ⟨ad, hd, by rw [hval, hn], fun n e => by cases e⟩
    | some n =>
      obtain ⟨hd, ad, m, hval⟩ := hc0
      have hn : m = es.length := by
        have := rep_ol hd
        rw [hval] at this
        cases this <;> rfl
      exact ⟨ad, rep_ol hd, by rw [hval, hn], fun n' e => by cases e; exact hd⟩
  obtain ⟨ad, hd, hval, hol⟩ := hx
  have hg : Grow w σ w σ := Grow.refl hS.live
  obtain ⟨hS', hk, hst⟩ := hS.push (o := tokO lab esz es) (h := v) hg hlen (by
    cases lab with
    | none => exact ⟨hd, hes, ad, es.length, hval, Nat.le_refl _, .inl rfl⟩
    | some n => exact ⟨hd, hes, ad, es.length, hval, Nat.le_refl _, .inl ⟨rfl, hol n rfl⟩⟩) (fun b hb => by
    rw [hval] at hb
    cases lab <;> cases ad <;> simp [tokO, owns, blk] at hb)
  have hk1 : getO ((own ++ [tokO lab esz es]) :: Ω) (0, j) = some (.box cs) := getO_push _ _ _ _ _ hg0
  have hh1 : getO ((bo ++ [v]) :: bΩ) (0, j) = some (.pointer (some ⟨b, 0, none⟩)) := getO_push _ _ _ _ _ hbo
  have hko : KeepO (.box cs) (some (Value.pointer (some ⟨b, 0, none⟩))) (.box (cs.set i (.tsl (0, own.length) es))) (some (Value.pointer (some ⟨b, 0, none⟩))) := .inr ⟨⟨_, rfl⟩, rfl⟩
  have hK : Keep ((own ++ [tokO lab esz es]) :: Ω) ((bo ++ [v]) :: bΩ) (setO ((own ++ [tokO lab esz es]) :: Ω) (0, j) (.box (cs.set i (.tsl (0, own.length) es)))) (setO ((bo ++ [v]) :: bΩ) (0, j) (.pointer (some ⟨b, 0, none⟩))) := by
    intro k1 o1 e1
    by_cases e : k1 = (0, j)
    · subst e
      rw [hk1] at e1; cases e1
      exact ⟨_, getO_setO_eq _ _ _ _ hk1, by rw [hh1, getO_setO_eq _ _ _ _ hh1]; exact hko⟩
    · exact ⟨o1, (getO_setO_ne _ _ _ _ (Ne.symm e)).trans e1, by rw [getO_setO_ne _ _ _ _ (Ne.symm e)]; exact .refl _ _⟩
  have hne : (0, own.length) ≠ (0, j) := fun e => by injection e with _ e; omega
  obtain ⟨hS2, hk2, hst2⟩ := hS'.set (w' := w) (σ' := σ) (o' := .box (cs.set i (.tsl (0, own.length) es))) (h' := .pointer (some ⟨b, 0, none⟩)) hk1 hh1 (Nat.le_refl _) rfl rfl (Near.refl _ _) hS'.live (fun _ _ _ => ⟨rfl, rfl⟩) hko
    ⟨b, cv, ty, rfl, hbc, hσ, by
      refine ⟨by rw [List.length_set]; exact hcs.1, fun m x hm => ?_⟩
      rw [List.getElem?_set] at hm
      by_cases e : i = m
      · subst e
        rw [if_pos rfl] at hm
        split at hm
        · cases hm
          refine ⟨v, hv, ⟨hd, tokO lab esz es, ?_, fun a1 b1 e1 => ?_⟩, hone⟩
          · show getO (setO _ (0, j) _) (0, own.length) = _
            rw [getO_setO_ne _ _ _ _ (Ne.symm hne), getO_push_new]
          · obtain ⟨_, rfl⟩ := istok_of e1
            refine ⟨Nat.le_refl _, fun _ => ?_⟩
            show getO (setO _ (0, j) _) (0, own.length) = _
            rw [getO_setO_ne _ _ _ _ (Ne.symm hne), ← hlen, getO_push_new]
        · cases hm
      · rw [if_neg e] at hm
        obtain ⟨u, hu, hc, ho⟩ := hcs.2 m x hm
        exact ⟨u, hu, (hc.mono (Near.refl _ _) hk).mono (Near.refl _ _) hK, ho⟩⟩ (fun _ e => .inl e)
  have est : setO ((own ++ [tokO lab esz es]) :: Ω) (0, j) (.box (cs.set i (.tsl (0, own.length) es))) = (own.set j (.box (cs.set i (.tsl (0, own.length) es))) ++ [tokO lab esz es]) :: Ω := by
    rw [setO, List.set_append_left _ _ hjl]
  rw [est] at hS2 hk2 hst2
  exact ⟨_, hS2, hst.trans hst2, hk.trans hk2⟩
end
end Go.Ab

namespace Go.Ab
section
variable {P : Program} {w w' : World} {σ σ' : Nat → Nat} {β : Hs} {N : Nat}
def CellLe (x y : C) : Prop := ∀ w σ S β v, RepC w σ S β x v → RepC w σ S β y v
theorem CellLe.refl (x : C) : CellLe x x := fun _ _ _ _ _ h => h
theorem cell_nil_lfl (n : Nat) : CellLe (.fsl []) (.lfl n []) := fun w σ S β v h => by
  obtain ⟨hd, a, m, hv⟩ := h
  have hm : m = 0 := by rw [hv] at hd; cases hd <;> rfl
  subst hm
  exact ⟨by rw [hv]; exact .onil _ _ _, a, 0, hv⟩
theorem cell_nil_ol (n : Nat) : CellLe (.fsl []) (.d (.ol n [])) := fun w σ S β v h => (cell_nil_lfl n w σ S β v h).1
theorem cell_fsl (es : List (List D)) : CellLe (.fsl es) (.d (.sl es)) := fun w σ S β v h => h.1
theorem cell_ol (n : Nat) (es : List (List D)) : CellLe (.d (.ol n es)) (.d (.sl es)) := fun w σ S β v h => rep_ol h
inductive CellsLe : List C → List C → Prop
  | nil : CellsLe [] []
  | cons {x y : C} {xs ys : List C} : CellLe x y → CellsLe xs ys → CellsLe (x :: xs) (y :: ys)
theorem CellsLe.refl : ∀ xs, CellsLe xs xs
  | [] => .nil
  | x :: xs => .cons (.refl x) (CellsLe.refl xs)
theorem CellsLe.length : ∀ {xs ys : List C}, CellsLe xs ys → xs.length = ys.length
  | _, _, .nil => rfl
  | _, _, .cons _ h => by rw [List.length_cons, List.length_cons, CellsLe.length h]
theorem CellsLe.at : ∀ {xs ys : List C}, CellsLe xs ys → ∀ (j : Nat) (x y : C), xs[j]? = some x → ys[j]? = some y → CellLe x y
  | _, _, .nil, j, x, y, h, _ => by simp at h
  | _, _, .cons a h, 0, x, y, h1, h2 => by simp at h1 h2; subst h1; subst h2; exact a
  | _, _, .cons a h, j + 1, x, y, h1, h2 => CellsLe.at h j x y (by simpa using h1) (by simpa using h2)
theorem CellsLe.less {xs ys : List C} (h : CellsLe xs ys) : Less (.agg xs) (.agg ys) := by
  rintro w σ S β v ⟨a, ha, hc⟩
  refine ⟨a, ha, h.length.symm.trans hc.1, fun j y hy => ?_⟩
  have hj : j < xs.length := by rw [h.length]; exact (List.getElem?_eq_some_iff.1 hy).1
  obtain ⟨v, h1, h2, h3⟩ := hc.2 j _ (List.getElem?_eq_getElem hj)
  exact ⟨v, h1, h.at j _ y (List.getElem?_eq_getElem hj) hy w σ S β v h2, h3⟩
theorem CellsLe.reps {xs ys : List C} (h : CellsLe xs ys) {w : World} {σ : Nat → Nat} {S : Store} {β : Hs} {vs : List Value} (hc : RepCs w σ S β xs vs) : RepCs w σ S β ys vs := by
  refine ⟨h.length.symm.trans hc.1, fun j y hy => ?_⟩
  have hj : j < xs.length := by rw [h.length]; exact (List.getElem?_eq_some_iff.1 hy).1
  obtain ⟨v, h1, h2, h3⟩ := hc.2 j _ (List.getElem?_eq_getElem hj)
  exact ⟨v, h1, h.at j _ y (List.getElem?_eq_getElem hj) hy w σ S β v h2, h3⟩
theorem box_less {own : List Obj} {Ω : Store} (j : Nat) (cs cs' : List C) (hj : own[j]? = some (.box cs)) (hle : CellsLe cs cs') (hS : RepS w σ (own :: Ω) β) :
    ∃ β', RepS w σ ((own.set j (.box cs')) :: Ω) β' ∧ Step (own :: Ω) β σ w ((own.set j (.box cs')) :: Ω) β' σ w ∧ Keep (own :: Ω) β ((own.set j (.box cs')) :: Ω) β' ∧ tail1 β' = tail1 β ∧ β'.length = β.length := by
  cases β with
  | nil => have := hS.shape.1; simp at this
  | cons bo bΩ =>
  have hg0 : getO (own :: Ω) (0, j) = some (.box cs) := by rw [getO_zero]; exact hj
  obtain ⟨hb, hbo, hr⟩ := hS.obj (0, j) _ hg0
  obtain ⟨b, cv, ty, rfl, hbc, hσ, hcs⟩ := hr
  have hcs : RepCs w σ (own :: Ω) (bo :: bΩ) cs cv.toList := hcs
  have hko : KeepO (.box cs) (some (Value.pointer (some ⟨b, 0, none⟩))) (.box cs') (some (Value.pointer (some ⟨b, 0, none⟩))) := .inr ⟨⟨_, rfl⟩, rfl⟩
  have hK : Keep (own :: Ω) (bo :: bΩ) (setO (own :: Ω) (0, j) (.box cs')) (setO (bo :: bΩ) (0, j) (.pointer (some ⟨b, 0, none⟩))) := by
    intro k1 o1 e1
    by_cases e : k1 = (0, j)
    · subst e
      rw [hg0] at e1; cases e1
      exact ⟨_, getO_setO_eq _ _ _ _ hg0, by rw [hbo, getO_setO_eq _ _ _ _ hbo]; exact hko⟩
    · exact ⟨o1, (getO_setO_ne _ _ _ _ (Ne.symm e)).trans e1, by rw [getO_setO_ne _ _ _ _ (Ne.symm e)]; exact .refl _ _⟩
  obtain ⟨hS2, hk2, hst2⟩ := hS.set (w' := w) (σ' := σ) (o' := .box cs') (h' := .pointer (some ⟨b, 0, none⟩)) hg0 hbo (Nat.le_refl _) rfl rfl (Near.refl _ _) hS.live (fun _ _ _ => ⟨rfl, rfl⟩) hko
    ⟨b, cv, ty, rfl, hbc, hσ, by
      have h1 := hle.reps hcs
      refine ⟨h1.1, fun m x hm => ?_⟩
      obtain ⟨u, hu, hc, ho⟩ := h1.2 m x hm
      exact ⟨u, hu, hc.mono (Near.refl _ _) hK, ho⟩⟩ (fun _ e => .inl e)
  have est : setO (own :: Ω) (0, j) (.box cs') = (own.set j (.box cs')) :: Ω := rfl
  rw [est] at hS2 hk2 hst2
  exact ⟨_, hS2, hst2, hk2, rfl, by simp [setO]⟩
theorem boxless_ghost {tm : List (Nat × V)} {own : List Obj} {Ω : Store} (j : Nat) (cs cs' : List C) (hj : own[j]? = some (.box cs)) (hle : CellsLe cs cs') : Ghost N ⟨tm, own :: Ω⟩ ⟨tm, (own.set j (.box cs')) :: Ω⟩ := by
  intro a w σ β hR
  obtain ⟨β', hS, hst, hk, ht, _⟩ := box_less j cs cs' hj hle hR.S
  refine ⟨σ, β', ⟨hR.size, hR.defers, hS, fun u => (hR.T u).mono (Near.refl _ _) hk⟩, hst, ?_⟩
  rw [ht]; exact Keep.refl _ _
theorem boxtok_ghost {tm : List (Nat × V)} {own : List Obj} {Ω : Store} (lab : Option Nat) (j i esz : Nat) (es : List (List D)) (cs : List C) (hj : own[j]? = some (.box cs)) (hi : cs[i]? = some (match lab with | some n => .lfl n es | none => .fsl es)) (hes : ∀ e ∈ es, e.length = esz) :
    Ghost N ⟨tm, own :: Ω⟩ ⟨tm, (own.set j (.box (cs.set i (.tsl (0, own.length) es))) ++ [tokO lab esz es]) :: Ω⟩ := by
  intro a w σ β hR
  obtain ⟨β', hS, hst, hk⟩ := box_tok lab j i esz es cs hj hi hes hR.S
  refine ⟨σ, β', ⟨hR.size, hR.defers, hS, fun u => (hR.T u).mono (Near.refl _ _) hk⟩, hst, ?_⟩
  intro k o hko
  obtain ⟨o', h1, h2⟩ := hk (k.1 + 1, k.2) o (by
    obtain ⟨l, i⟩ := k
    show getO (own :: Ω) (l + 1, i) = _
    rw [getO_succ]; exact hko)
  obtain ⟨bo, bΩ, rfl, _⟩ := frames hR
  have h3 := hS.shape.1
  cases β' with
  | nil => simp at h3
  | cons bo' bΩ' =>
    rw [getO_succ] at h1
    rw [getO_succ, getO_succ] at h2
    exact ⟨o', h1, h2⟩
theorem aw_boxless {c : Code} {Q : Exit → St → Prop} {tm : List (Nat × V)} {own : List Obj} {Ω : Store} (j : Nat) (cs cs' : List C) (hj : own[j]? = some (.box cs)) (hle : CellsLe cs cs') (h : AW P N c Q ⟨tm, (own.set j (.box cs')) :: Ω⟩) : AW P N c Q ⟨tm, own :: Ω⟩ := aw_ghost h (boxless_ghost j cs cs' hj hle)
theorem cells_set {x y : C} (hle : CellLe x y) : ∀ (i : Nat) (cs : List C), cs[i]? = some x → CellsLe cs (cs.set i y)
  | 0, [], h => by simp at h
  | 0, z :: cs, h => by simp at h; subst h; exact .cons hle (.refl cs)
  | i + 1, [], h => by simp at h
  | i + 1, z :: cs, h => .cons (.refl z) (cells_set hle i cs (by simpa using h))
theorem aw_boxltok {c : Code} {Q : Exit → St → Prop} {tm : List (Nat × V)} {own : List Obj} {Ω : Store} (n j i esz : Nat) (cs : List C) (hj : own[j]? = some (.box cs)) (hi : cs[i]? = some (.fsl []))
    (h : AW P N c Q ⟨tm, (own.set j (.box (cs.set i (.tsl (0, own.length) []))) ++ [.ltok n esz []]) :: Ω⟩) : AW P N c Q ⟨tm, own :: Ω⟩ := by
  have hjl := (List.getElem?_eq_some_iff.1 hj).1
  have hil := (List.getElem?_eq_some_iff.1 hi).1
  refine aw_boxless j cs (cs.set i (.lfl n [])) hj (cells_set (cell_nil_lfl n) i cs hi) ?_
  refine aw_ghost ?_ (boxtok_ghost (some n) j i esz [] (cs.set i (.lfl n [])) (by rw [List.getElem?_set_self hjl]) (by rw [List.getElem?_set_self hil]) (by simp))
  rw [List.set_set, List.set_set, List.length_set]
  exact h
theorem aw_boxtok {c : Code} {Q : Exit → St → Prop} {tm : List (Nat × V)} {own : List Obj} {Ω : Store} (j i esz : Nat) (cs : List C) (hj : own[j]? = some (.box cs)) (hi : cs[i]? = some (.fsl []))
    (h : AW P N c Q ⟨tm, (own.set j (.box (cs.set i (.tsl (0, own.length) []))) ++ [.tok esz []]) :: Ω⟩) : AW P N c Q ⟨tm, own :: Ω⟩ :=
  aw_ghost h (boxtok_ghost none j i esz [] cs hj hi (by simp))
def DLe (x y : D) : Prop := ∀ w σ v, RepD w σ x v → RepD w σ y v
theorem DLe.refl (x : D) : DLe x x := fun _ _ _ h => h
theorem dle_lab (d : D) (n : Nat) : DLe (labD d n) d := fun w σ v h => er_D d n v h
inductive RowLe : List D → List D → Prop
  | nil : RowLe [] []
  | cons {x y : D} {xs ys : List D} : DLe x y → RowLe xs ys → RowLe (x :: xs) (y :: ys)
theorem RowLe.refl : ∀ r, RowLe r r
  | [] => .nil
  | x :: xs => .cons (.refl x) (RowLe.refl xs)
theorem RowLe.length : ∀ {r r' : List D}, RowLe r r' → r.length = r'.length
  | _, _, .nil => rfl
  | _, _, .cons _ h => by rw [List.length_cons, List.length_cons, h.length]
theorem RowLe.at : ∀ {r r' : List D}, RowLe r r' → ∀ (j : Nat) (y : D), r'[j]? = some y → ∃ x, r[j]? = some x ∧ DLe x y
  | _, _, .nil, j, y, h => by simp at h
  | _, _, .cons a h, 0, y, h2 => by simp at h2; subst h2; exact ⟨_, rfl, a⟩
  | _, _, .cons a h, j + 1, y, h2 => h.at j y (by simpa using h2)
theorem RowLe.append : ∀ {a a' b b' : List D}, RowLe a a' → RowLe b b' → RowLe (a ++ b) (a' ++ b')
  | _, _, _, _, .nil, h => h
  | _, _, _, _, .cons x h, k => .cons x (h.append k)
inductive RowsLe : List (List D) → List (List D) → Prop
  | nil : RowsLe [] []
  | cons {x y : List D} {xs ys : List (List D)} : RowLe x y → RowsLe xs ys → RowsLe (x :: xs) (y :: ys)
theorem RowsLe.length : ∀ {r r' : List (List D)}, RowsLe r r' → r.length = r'.length
  | _, _, .nil => rfl
  | _, _, .cons _ h => by rw [List.length_cons, List.length_cons, h.length]
theorem RowsLe.snoc : ∀ {a b : List (List D)} {x y : List D}, RowsLe a b → RowLe x y → RowsLe (a ++ [x]) (b ++ [y])
  | _, _, _, _, .nil, h => .cons h .nil
  | _, _, _, _, .cons z h, k => .cons z (h.snoc k)
theorem RowsLe.rows {z : Nat} : ∀ {a b : List (List D)}, RowsLe a b → (∀ r ∈ b, r.length = z) → ∀ r ∈ a, r.length = z
  | _, _, .nil, h, r, hr => by cases hr
  | _, _, .cons x h, k, r, hr => by
    rcases List.mem_cons.1 hr with rfl | hr
    · rw [x.length]; exact k _ (by simp)
    · exact h.rows (fun r hr => k r (by simp [hr])) r hr
theorem RowsLe.flat : ∀ {a b : List (List D)}, RowsLe a b → RowLe a.flatten b.flatten
  | _, _, .nil => .nil
  | _, _, .cons x h => by rw [List.flatten_cons, List.flatten_cons]; exact x.append h.flat
theorem RowsLe.rep {a b : List (List D)} (h : RowsLe a b) {w : World} {σ : Nat → Nat} {v : Value} (hr : RepD w σ (.sl a) v) : RepD w σ (.sl b) v := by
  cases hr with
  | nil ad cap =>
    cases h
    exact .nil ad cap
  | sl b0 off cap esz es vals c t fz hcap hlen hb hσ hc hv =>
    have hl := h.length
    rw [hl] at hcap hσ hc ⊢
    have hlb : ∀ e ∈ b, e.length = esz := fun e he => by
      obtain ⟨i, hi, rfl⟩ := List.getElem_of_mem he
      have : ∀ {a b : List (List D)} (h : RowsLe a b) (i : Nat) (hi : i < b.length) (hi' : i < a.length), RowLe a[i] b[i] := by
        intro a b h
        induction h with
        | nil => intro i hi; simp at hi
        | cons x h ih => intro i hi hi'; cases i with
          | zero => exact x
          | succ i => exact ih i (by simpa using hi) (by simpa using hi')
      have h1 := this h i hi (by omega)
      rw [← h1.length]; exact hlen _ (List.getElem_mem _)
    refine .sl b0 off cap esz b vals c t fz hcap hlb hb hσ hc fun j d hd => ?_
    obtain ⟨x, hx, hle⟩ := h.flat.at j d hd
    exact hle w σ _ (hv j x hx)
inductive CompsLe : List (Bool × List C) → List (Bool × List C) → Prop
  | nil : CompsLe [] []
  | cons {b : Bool} {cs cs' : List C} {xs ys : List (Bool × List C)} : CellsLe cs cs' → CompsLe xs ys → CompsLe ((b, cs) :: xs) ((b, cs') :: ys)
theorem CompsLe.refl : ∀ xs, CompsLe xs xs
  | [] => .nil
  | (b, cs) :: xs => .cons (.refl cs) (CompsLe.refl xs)
theorem CompsLe.length : ∀ {xs ys : List (Bool × List C)}, CompsLe xs ys → xs.length = ys.length
  | _, _, .nil => rfl
  | _, _, .cons _ h => by rw [List.length_cons, List.length_cons, h.length]
theorem CompsLe.at : ∀ {xs ys : List (Bool × List C)}, CompsLe xs ys → ∀ (j : Nat) (y : Bool × List C), ys[j]? = some y → ∃ cs, xs[j]? = some (y.1, cs) ∧ CellsLe cs y.2
  | _, _, .nil, j, y, h => by simp at h
  | _, _, .cons a h, 0, y, h2 => by simp at h2; subst h2; exact ⟨_, rfl, a⟩
  | _, _, .cons a h, j + 1, y, h2 => h.at j y (by simpa using h2)
theorem CompsLe.less {xs ys : List (Bool × List C)} (h : CompsLe xs ys) : Less (.tup xs) (.tup ys) := by
  rintro w σ S β v ⟨a, ha, hl, hc⟩
  refine ⟨a, ha, h.length.symm.trans hl, fun j y hy => ?_⟩
  obtain ⟨cs, h1, h2⟩ := h.at j y hy
  obtain ⟨u, hu, hr⟩ := hc j _ h1
  refine ⟨u, hu, ?_⟩
  obtain ⟨b, cs'⟩ := y
  cases b with
  | true =>
    obtain ⟨a', e, hcs⟩ := hr
    exact ⟨a', e, h2.reps hcs⟩
  | false =>
    obtain ⟨x, e, hx, ho⟩ := hr
    simp only at e h2
    subst e
    cases h2 with
    | cons hxy hn =>
      cases hn
      exact ⟨_, rfl, hxy w σ S β u hx, ho⟩
theorem PCall.of_le {f : FuncId} {args : List V} {t : V} (h : ∀ S, ACall P f args S fun r S' => Less r t ∧ S' = S) : PCall P f args t := fun S =>
  ⟨(h S).1, fun w σ β vs hS hv => ((h S).2 w σ β vs hS hv).mono fun e w' ⟨v, r, S', σ', β', h1, h2, h3, h4, h5, h6, h7⟩ => ⟨v, t, S', σ', β', h1, h2, h3, h4, h6 _ _ _ _ _ h5, rfl, h7⟩⟩
theorem tup1_less {cs cs' : List C} {xs : List (Bool × List C)} (h : ∀ w σ S β vs, RepCs w σ S β cs vs → RepCs w σ S β cs' vs) : Less (.tup ((true, cs) :: xs)) (.tup ((true, cs') :: xs)) := by
  rintro w σ S β v ⟨a, ha, hl, hc⟩
  obtain ⟨u, hu, a', rfl, hcs⟩ := hc 0 _ rfl
  refine ⟨a, ha, hl, fun j y hy => ?_⟩
  cases j with
  | zero =>
    simp at hy; subst hy
    exact ⟨_, hu, a', rfl, h _ _ _ _ _ hcs⟩
  | succ j => exact hc (j + 1) y (by simpa using hy)
theorem less_refl (v : V) : Less v v := fun _ _ _ _ _ h => h
end
end Go.Ab

namespace Go.Ab
theorem DLe.trans {a b c : D} (h : DLe a b) (k : DLe b c) : DLe a c := fun w σ v x => k w σ v (h w σ v x)
theorem RowLe.trans : ∀ {a b c : List D}, RowLe a b → RowLe b c → RowLe a c
  | _, _, _, .nil, .nil => .nil
  | _, _, _, .cons x h, .cons y k => .cons (x.trans y) (h.trans k)
theorem RowsLe.trans : ∀ {a b c : List (List D)}, RowsLe a b → RowsLe b c → RowsLe a c
  | _, _, _, .nil, .nil => .nil
  | _, _, _, .cons x h, .cons y k => .cons (x.trans y) (h.trans k)
theorem RowsLe.at {a b : List (List D)} (h : RowsLe a b) : ∀ (i : Nat) (hi : i < b.length) (hi' : i < a.length), RowLe a[i] b[i] := by
  induction h with
  | nil => intro i hi; simp at hi
  | cons x h ih => intro i hi hi'; cases i with
    | zero => exact x
    | succ i => exact ih i (by simpa using hi) (by simpa using hi')
theorem CellLe.trans {a b c : C} (h : CellLe a b) (k : CellLe b c) : CellLe a c := fun w σ S β v x => k w σ S β v (h w σ S β v x)
end Go.Ab

namespace Go.Proofs.YtnceiannponbjaaGreat
open Go Go.Ab
theorem l2Copy_all : ∀ N : Nat, ∀ x : MSExpr, SizeOf.sizeOf x < N → ∀ n : Nat, x.sz ≤ 1048576 → PCall Tryz.prog 69 [x.v] (.agg ((labR x.enc n).map .d))
  | 0 => fun x h => by omega
  | N + 1 => by
    have ih := l2Copy_all N
    intro x hx n hsz S
    have hxl := MSExpr.lt_List x
    rw [sx_sz, szX_rows] at hsz
    obtain ⟨L, hL⟩ : ∃ L : Nat → Nat, L = fun i => n + 1 + cntXs (x.fList.take i) := ⟨_, rfl⟩
    obtain ⟨T, hT⟩ : ∃ T : Nat → List (List D), T = fun i => lx (x.fList.take i) (n + 1) := ⟨_, rfl⟩
    have hT0 : T 0 = [] := by rw [hT]; rfl
    have hTl : ∀ i, (T i).length ≤ i := fun i => by rw [hT]; simp only [lx_length]; exact List.length_take_le _ _
    have hTs : ∀ i (hi : i < x.fList.length), T i ++ [labR x.fList[i].enc (L i)] = T (i + 1) := fun i hi => by rw [hT, hL]; exact lx_snoc hi (n + 1)
    have hTe : T x.fList.length = lx x.fList (n + 1) := by rw [hT]; simp only [List.take_length]
    clear hT hL
    rw [labX_eq, ← hTe]
    refine acall_cwL (n) (rs := [.cell 2 31]) Tryz.checked.mixed Tryz.func69 Tryz.ntmps69 rfl rfl rfl rfl rfl ?_
    simp -implicitDefEqProofs (disch := omega) only [go_sem]
    refine aw_boxltok n 3 1 2 _ rfl rfl ?_
    refine loop_at (ι := Nat) Tryz.checked.mixed rfl [1, 2, 3, 4] (fun i => [.c (.ptr (0, 1) 0), .c (.ptr (0, 2) 0), .c (.ptr (0, 3) 0), .c (.d (.i .i64 i))])
      (fun i => [.seed n, .box [.d (.s x.fAtom), .d (.sl (x.fList.map MSExpr.enc))], .box [.d (.s []), .fsl []], .box [.d (.s x.fAtom), .tsl (0, 4) (T i)], .ltok n 2 (T i)] :: S)
      (fun i => i ≤ x.fList.length) (fun i => x.fList.length - i) 0 rfl (by rw [hT0]; rfl) (Nat.zero_le _) ?_
    intro i hi
    have hl := hTl i
    simp -implicitDefEqProofs (disch := omega) only [go_sem]
    with_reducible refine split2 (fun hb => ?_) (fun hb => ?_) <;> have h := hb <;> (try simp only [wf_preprocess] at h) <;> simp -implicitDefEqProofs (disch := omega) only [go_sem, hb] <;> (repeat (with_reducible refine And.intro ?_ ?_; focus first | omega | rfl | assumption | exact ⟨_, rfl, rfl⟩ | (simp; omega) | (simp; done)))
    · have hi' : i < x.fList.length := by omega
      have hm := List.getElem_mem hi'
      have hs := hTs i hi'
      have hz := szX_mem hm
      (repeat (with_reducible refine And.intro ?_ ?_; focus first | omega | rfl | assumption | exact ⟨_, rfl, rfl⟩ | (simp; omega) | (simp; done)))
      refine call_w (ih x.fList[i] (by have := List.sizeOf_lt_of_mem hm; omega) (L i) (by omega)) ?_
      obtain ⟨row, hrow⟩ : ∃ row, row = labR x.fList[i].enc (L i) := ⟨_, rfl⟩
      have hrl : row.length = 2 := by rw [hrow, labR_length, MSExpr.enc_length]
      rw [← hrow] at hs ⊢
      simp -implicitDefEqProofs (disch := omega) only [go_sem, hrl, mapM_toD]
      (repeat (with_reducible refine And.intro ?_ ?_; focus first | omega | rfl | assumption | exact ⟨_, rfl, rfl⟩ | (simp; omega) | (simp; done)))
      rw [hs]
      exact inv_drop 5 (by decide) (i + 1) (by omega) rfl rfl rfl rfl (by omega)
    · have hi' : i = x.fList.length := by omega
      subst hi'
      first | done | rfl
theorem l2Copy_lab (x : MSExpr) (n : Nat) (hsz : x.sz ≤ 1048576) : PCall Tryz.prog 69 [x.v] (.agg ((labR x.enc n).map .d)) := l2Copy_all _ x (Nat.lt_succ_self _) n hsz
theorem l2Copy_ok (x : MSExpr) (hsz : x.sz ≤ 1048576) : PCall Tryz.prog 69 [x.v] x.v := by
  have := PCall.less (l2Copy_lab x 0 hsz) less_lab
  rw [MSExpr.v_eq] at this
  exact this
theorem l2Copy_esc (x : MSExpr) (hsz : x.sz ≤ 1048576) (S : Store) : Esc Tryz.prog 69 [x.v] S (fun r own S1 => S1 = S ∧ ∃ y, r = .agg ([.d (.s x.fAtom)] ++ y :: []) ∧ SlOf own y 2 (x.fList.map MSExpr.enc)) := by
  rw [sx_sz, szX_rows] at hsz
  obtain ⟨T, hT⟩ : ∃ T : Nat → List (List D), T = fun i => (x.fList.take i).map MSExpr.enc := ⟨_, rfl⟩
  have hT0 : T 0 = [] := by rw [hT]; rfl
  have hTl : ∀ i, (T i).length ≤ i := fun i => by rw [hT]; simp only [List.length_map]; exact List.length_take_le _ _
  have hTs : ∀ i (hi : i < x.fList.length), T i ++ [[.s x.fList[i].fAtom, .sl (x.fList[i].fList.map MSExpr.enc)]] = T (i + 1) := fun i hi => by
    rw [hT]; simp only [List.take_succ_eq_append_getElem hi, List.map_append, List.map_cons, List.map_nil, MSExpr.enc_eq]
  have hTe : T x.fList.length = x.fList.map MSExpr.enc := by rw [hT]; simp only [List.take_length]
  clear hT
  refine esc_cw (rs := [.cell 2 31]) Tryz.checked.mixed Tryz.func69 Tryz.ntmps69 rfl rfl rfl rfl rfl ?_
  simp -implicitDefEqProofs (disch := omega) only [go_sem]
  refine aw_boxtok 2 1 2 _ rfl rfl ?_
  refine loop_at (ι := Nat) Tryz.checked.mixed rfl [1, 2, 3, 4] (fun i => [.c (.ptr (0, 0) 0), .c (.ptr (0, 1) 0), .c (.ptr (0, 2) 0), .c (.d (.i .i64 i))])
    (fun i => [.box [.d (.s x.fAtom), .d (.sl (x.fList.map MSExpr.enc))], .box [.d (.s []), .fsl []], .box [.d (.s x.fAtom), .tsl (0, 3) (T i)], .tok 2 (T i)] :: S)
    (fun i => i ≤ x.fList.length) (fun i => x.fList.length - i) 0 rfl (by rw [hT0]; rfl) (Nat.zero_le _) ?_
  intro i hi
  have hl := hTl i
  simp -implicitDefEqProofs (disch := omega) only [go_sem]
  with_reducible refine split2 (fun hb => ?_) (fun hb => ?_) <;> have h := hb <;> (try simp only [wf_preprocess] at h) <;> simp -implicitDefEqProofs (disch := omega) only [go_sem, hb] <;> (repeat (with_reducible refine And.intro ?_ ?_; focus first | omega | rfl | assumption | exact ⟨_, rfl, rfl⟩ | (simp; omega) | (simp; done)))
  · have hi' : i < x.fList.length := by omega
    have hm := List.getElem_mem hi'
    have hs := hTs i hi'
    have hz := szX_mem hm
    (repeat (with_reducible refine And.intro ?_ ?_; focus first | omega | rfl | assumption | exact ⟨_, rfl, rfl⟩ | (simp; omega) | (simp; done)))
    refine call_w (l2Copy_ok x.fList[i] (by omega)) ?_
    simp -implicitDefEqProofs (disch := omega) only [go_sem]
    (repeat (with_reducible refine And.intro ?_ ?_; focus first | omega | rfl | assumption | exact ⟨_, rfl, rfl⟩ | (simp; omega) | (simp; done)))
    rw [hs]
    exact inv_drop 4 (by decide) (i + 1) (by omega) rfl rfl rfl rfl (by omega)
  · have hi' : i = x.fList.length := by omega
    subst hi'
    rw [← hTe]
    exact ⟨_, rfl, .inl ⟨3, rfl, rfl⟩⟩
theorem l2Sx_ok {bs : List Int} (hB : Bytes bs) : ∀ (n : Nat) (c : Cu bs) (l j : Nat) (S : Store), getO S (l, j) = some (.box (cur c)) → n ≤ 16 →
    ACall Tryz.prog 70 [.c (.ptr (l, j) 0), .c (.d (.i .i64 n))] S (fun r S1 => r = (sxN n c).1.v ∧ S1 = setO S (l, j) (.box (cur (sxN n c).2))) := by
  intro n
  induction n with
  | zero =>
    intro c l j S hk hn
    have g : ∀ x : Ab.Obj, getO (setO S (l, j) x) (l, j) = some x := fun x => getO_setO_eq _ _ _ _ hk
    rw [sxN]
    have d0 : decide (((0 : Nat) : Int) ≤ 0) = true := rfl
    refine acall_cwc [39] (rs := [.cell 4 31]) Tryz.checked.mixed Tryz.func70 Tryz.ntmps70 rfl rfl rfl rfl rfl ?_
    simp -implicitDefEqProofs (disch := omega) only [go_sem, d0]
    refine call_m [true] rfl (l1Pick_ok hB c (1 + l) j _ sxL (by rw [getO_up1]; exact hk) (by decide) (by decide)) ?_
    simp -implicitDefEqProofs (disch := omega) only [go_sem, setO_up1]
    refine call_w (specAtom_ok _) ?_
    simp -implicitDefEqProofs (disch := omega) only [go_sem, setO_up1]
    first | done | exact ⟨rfl, rfl⟩ | rfl
  | succ n ih =>
    intro c l j S hk hn
    have g : ∀ x : Ab.Obj, getO (setO S (l, j) x) (l, j) = some x := fun x => getO_setO_eq _ _ _ _ hk
    rw [sxN]
    have d0 : decide (((n + 1 : Nat) : Int) ≤ 0) = false := decide_eq_false (by omega)
    have d1 : ((n + 1 : Nat) : Int) - 1 = (n : Int) := by omega
    obtain ⟨c1, hc1⟩ : ∃ c1, c1 = (onceD 2 c).2 := ⟨_, rfl⟩
    obtain ⟨o, ho⟩ : ∃ o, o = (onceD 2 c).1 := ⟨_, rfl⟩
    have hx := belowD_rng (n := 4) c1 (by omega)
    obtain ⟨k, hkd⟩ : ∃ k : Nat, (belowD 4 c1).1 = (k : Int) := ⟨(belowD 4 c1).1.toNat, by omega⟩
    obtain ⟨c2, hc2⟩ : ∃ c2, c2 = (belowD 4 c1).2 := ⟨_, rfl⟩
    rw [← ho, ← hc1, hkd, ← hc2, Int.toNat_natCast]
    rw [hkd] at hx
    have q1 := l1Once_ok hB c (1 + l) j ([.box [.d (.s []), .fsl []]] :: S) 2 (by rw [getO_up1]; exact hk) (by omega) (by omega)
    rw [← ho, ← hc1, setO_up1] at q1
    obtain ⟨Q, hQ⟩ : ∃ Q, Q = (if o = true then (atomX (pickD sxL c1).1, (pickD sxL c1).2) else (listX (manyX (sxN n) k [] c2).1, (manyX (sxN n) k [] c2).2)) := ⟨_, rfl⟩
    rw [← hQ]
    refine acall_cwc [39] (rs := [.cell 4 31]) Tryz.checked.mixed Tryz.func70 Tryz.ntmps70 rfl rfl rfl rfl rfl ?_
    simp -implicitDefEqProofs (disch := omega) only [go_sem, d0]
    refine call_d rfl q1 ?_
    simp -implicitDefEqProofs (disch := omega) only [go_sem, setO_up1]
    cases o with
    | true =>
      rw [if_pos rfl] at hQ
      subst hQ
      simp -implicitDefEqProofs (disch := omega) only [go_sem, setO_up1]
      refine call_m [true] rfl (l1Pick_ok hB c1 (1 + l) j _ sxL (by rw [getO_up1]; exact g _) (by decide) (by decide)) ?_
      simp -implicitDefEqProofs (disch := omega) only [go_sem, setO_up1, setO_twice]
      refine call_w (specAtom_ok _) ?_
      simp -implicitDefEqProofs (disch := omega) only [go_sem, setO_up1, setO_twice]
      first | done | exact ⟨rfl, rfl⟩ | rfl
    | false =>
      rw [if_neg (by decide)] at hQ
      simp -implicitDefEqProofs (disch := omega) only [go_sem, setO_up1]
      refine call_d rfl (l1Below_ok hB c1 (1 + l) j _ 4 (by rw [getO_up1]; exact g _) (by omega) (by omega)) ?_
      rw [hkd, ← hc2]
      simp -implicitDefEqProofs (disch := omega) only [go_sem, setO_up1, setO_twice]
      refine aw_boxtok 1 1 2 _ rfl rfl ?_
      refine loop_atC [39] Tryz.checked.mixed rfl [0, 1, 4, 5, 6, 7] (ι := Nat × List MSExpr × Cu bs) (fun x => [.c (.ptr (1 + l, j) 0), .c (.d (.i .i64 (n + 1 : Nat))), .c (.ptr (0, 0) 0), .c (.ptr (0, 1) 0), .c (.d (.i .i64 k)), .c (.d (.i .i64 x.1))])
        (fun x => [.box [.d (.s []), .fsl []], .box [.d (.s []), .tsl (0, 2) (x.2.1.map MSExpr.enc)], .tok 2 (x.2.1.map MSExpr.enc)] :: setO S (l, j) (.box (cur x.2.2)))
        (fun x => x.1 ≤ k ∧ manyX (sxN n) (k - x.1) x.2.1 x.2.2 = manyX (sxN n) k [] c2 ∧ x.2.1.length ≤ x.1) (fun x => k - x.1) (0, [], c2) rfl rfl ⟨Nat.zero_le _, rfl, Nat.le_refl _⟩ ?_
      rintro ⟨i, out, d⟩ ⟨p1, p2, p3⟩
      simp only at p1 p2 p3
      simp -implicitDefEqProofs (disch := omega) only [go_sem, setO_up1, setO_twice, d1]
      with_reducible refine split2 (fun hb => ?_) (fun hb => ?_) <;> have h := hb <;> (try simp only [wf_preprocess] at h) <;> simp -implicitDefEqProofs (disch := omega) only [go_sem, hb, setO_up1, setO_twice, d1] <;> (repeat (with_reducible refine And.intro ?_ ?_; focus first | omega | rfl | assumption | exact ⟨_, rfl, rfl⟩ | (simp; omega) | (simp; done)))
      · have ek : k - i = (k - (i + 1)) + 1 := by omega
        rw [ek, manyX] at p2
        refine call_d rfl (ih d (1 + l) j _ (by rw [getO_up1]; exact g _) (by omega)) ?_
        simp -implicitDefEqProofs (disch := omega) only [go_sem, setO_up1, setO_twice, d1]
        (repeat (with_reducible refine And.intro ?_ ?_; focus first | omega | rfl | assumption | exact ⟨_, rfl, rfl⟩ | (simp; omega) | (simp; done)))
        refine ⟨by cases l <;> rfl, ?_⟩
        simp -implicitDefEqProofs (disch := omega) only [go_sem, setO_up1, setO_twice, d1]
        refine inv_drop 3 (by decide) (i + 1, out ++ [(sxN n d).1], (sxN n d).2) (by simp only; omega) rfl ?_ (by cases l <;> rfl) rfl ⟨by simp only; omega, p2, by rw [List.length_append]; simp only [List.length_cons, List.length_nil]; omega⟩
        simp only [List.map_append, List.map_cons, List.map_nil, MSExpr.enc_eq]
        first | done | rfl | (cases l <;> rfl)
      · have ei : k - i = 0 := by omega
        rw [ei, manyX] at p2
        rw [← p2] at hQ
        subst hQ
        first | done | exact ⟨rfl, rfl⟩ | exact ⟨less_refl _, rfl⟩
end Go.Proofs.YtnceiannponbjaaGreat

