/-
  SEVERAL TEXTS IN ONE (merged by program): contracts and models, each with its own heading.
-/
import Derived.Test.YtnleocfkdidhoaaPartChC
set_option linter.unusedSimpArgs false
set_option linter.unusedVariables false
set_option maxRecDepth 8000
set_option maxRecDepth 4000
namespace Go.Proofs.Ytnleocfkdidhoaa
open Go Go.Ab
theorem markExpr_all : ∀ n : Nat, (∀ xs : List MExpr, SizeOf.sizeOf xs < n → ∀ (k : Int) (l j r : Nat) (p : List (Nat × Nat)) (S : Store) (rs : List (List (List D))), getO S (l, j) = some (.xf rs) → atR rs r p = some (xs.map MExpr.enc) → 0 ≤ k ∧ k + mcRs (xs.map MExpr.enc) ≤ 4611686018427387904 → ACall Try.prog 64 [.c (.xp (l, j) r p), .c (.d (.i .i64 k))] S (fun res S' => res = .c (.d (.i .i64 (k + mcRs (xs.map MExpr.enc)))) ∧ S' = setO S (l, j) (.xf (updR rs r p (mkRs (xs.map MExpr.enc) k))))) ∧
    (∀ xs : List MArm, SizeOf.sizeOf xs < n → ∀ (k : Int) (l j r : Nat) (p : List (Nat × Nat)) (S : Store) (rs : List (List (List D))), getO S (l, j) = some (.xf rs) → atR rs r p = some (xs.map MArm.enc) → 0 ≤ k ∧ k + mcRs (xs.map MArm.enc) ≤ 4611686018427387904 → ACall Try.prog 65 [.c (.xp (l, j) r p), .c (.d (.i .i64 k))] S (fun res S' => res = .c (.d (.i .i64 (k + mcRs (xs.map MArm.enc)))) ∧ S' = setO S (l, j) (.xf (updR rs r p (mkRs (xs.map MArm.enc) k)))))
  | 0 => ⟨fun xs h => by omega, fun xs h => by omega⟩
  | n + 1 => by
    obtain ⟨ihExpr, ihArm⟩ := markExpr_all n
    refine ⟨fun xs hn k l j r p S rs hS hp hk => ?_, fun xs hn k l j r p S rs hS hp hk => ?_⟩
    · have hlen := len_mc (f := MExpr.enc) (fun x => by simp only [MExpr.enc_eq, MType.enc_eq, encS, encI, List.cons_append, List.nil_append, mcR, mcD]; omega) xs
      obtain ⟨rows, hr⟩ : ∃ rows, rows = xs.map MExpr.enc := ⟨_, rfl⟩
      have hl : rows.length = xs.length := by rw [hr, List.length_map]
      rw [← hr] at hp hk hlen ⊢
      have ht : ∀ x : Ab.Obj, getO (setO S (l, j) x) (l, j) = some x := fun x => getO_setO_eq _ _ _ _ hS
      have hA : ∀ new, atR (updR rs r p new) r p = some new := fun new => atR_updR hp
      have hU : ∀ a b, updR (updR rs r p a) r p b = updR rs r p b := fun a b => updR_updR hp
      refine acall_cw (rs := [.tmp 4]) Try.checked.mixed Try.func64 Try.ntmps64 rfl rfl rfl rfl rfl ?_
      simp -implicitDefEqProofs (disch := omega) only [go_sem]
      refine loop_at (ι := Nat) Try.checked.mixed rfl [0, 1, 5] (fun i => [.c (.xp (1 + l, j) r p), .c (.d (.i .i64 (k + mcRs (rows.take i)))), .c (.d (.i .i64 i))])
        (fun i => [] :: setO S (l, j) (.xf (updR rs r p (mkTo rows k i)))) (fun i => i ≤ xs.length) (fun i => xs.length - i) 0 ?_ ?_ (Nat.zero_le _) ?_
      · have z0 : k + ((mcRs (rows.take 0) : Nat) : Int) = k := by simp [mcRs]
        rw [z0]
        rfl
      · rw [mkTo_zero, updR_same hp, setO_self _ _ hS]
      intro i hi
      simp -implicitDefEqProofs (disch := omega) only [go_sem, ht, hA, mkTo_length, hl]
      with_reducible refine split2 (fun hb => ?_) (fun hb => ?_) <;> have h := hb <;> try simp only [wf_preprocess] at h
      · have hi : i < xs.length := by omega
        have hir : i < rows.length := by omega
        obtain ⟨x, hx⟩ : ∃ x, x = xs[i] := ⟨_, rfl⟩
        have e1 : rows[i] = [.i .i64 x.fKind, .s x.fTrait, .s x.fName, .i .i64 x.fN, .i .i64 x.fType.fKind, .s x.fType.fName, .sl (x.fType.fArgs.map MType.enc), .sl (x.fArgs.map MExpr.enc), .sl (x.fArms.map MArm.enc)] := by
          simp only [hr, List.getElem_map, ← hx]
          simp only [MExpr.enc_eq, MType.enc_eq, encS, encI, List.cons_append, List.nil_append]
        have hm := mcRs_take hir
        have hle := mcRs_le (rows := rows) (i := i + 1)
        rw [hm, e1] at hle
        rw [e1] at hm
        simp only [mcR, mcD] at hle hm
        have hK : k + ((mcRs (rows.take (i + 1)) : Nat) : Int) = k + ((mcRs (rows.take i) : Nat) : Int) + 1 + 1 + 1 + 1 + 1 + 1 + ((mcRs (x.fType.fArgs.map MType.enc) : Nat) : Int) + ((mcRs (x.fArgs.map MExpr.enc) : Nat) : Int) + ((mcRs (x.fArms.map MArm.enc) : Nat) : Int) := by rw [hm]; omega
        have e2 := mkTo_at (k := k) hir
        rw [e1] at e2
        have hC : ∀ row o, cellAt (mkAt rows k i row) i o = row[o]? := fun row o => mkAt_cell hir
        have hG : ∀ row, (mkAt rows k i row).getD i [] = row := fun row => mkAt_get hir
        simp -implicitDefEqProofs (disch := omega) only [go_sem, hb, ht, hA, hU, e2, hC, hG, mkAt_set, mkAt_length, hl, setO_twice, isSD]
        (repeat (with_reducible refine And.intro ?_ ?_; focus first | omega | rfl | assumption | exact ⟨_, rfl, rfl⟩ | (simp; omega) | (simp; done)))
        refine call_w (markText_ok (k + ((mcRs (rows.take i) : Nat) : Int) + 1) (by omega)) ?_
        simp -implicitDefEqProofs (disch := omega) only [go_sem, hb, ht, hA, hU, e2, hC, hG, mkAt_set, mkAt_length, hl, setO_twice, isSD]
        (repeat (with_reducible refine And.intro ?_ ?_; focus first | omega | rfl | assumption | exact ⟨_, rfl, rfl⟩ | (simp; omega) | (simp; done)))
        refine call_w (markText_ok (k + ((mcRs (rows.take i) : Nat) : Int) + 1 + 1) (by omega)) ?_
        simp -implicitDefEqProofs (disch := omega) only [go_sem, hb, ht, hA, hU, e2, hC, hG, mkAt_set, mkAt_length, hl, setO_twice, isSD]
        (repeat (with_reducible refine And.intro ?_ ?_; focus first | omega | rfl | assumption | exact ⟨_, rfl, rfl⟩ | (simp; omega) | (simp; done)))
        refine call_w (markText_ok (k + ((mcRs (rows.take i) : Nat) : Int) + 1 + 1 + 1 + 1 + 1) (by omega)) ?_
        simp -implicitDefEqProofs (disch := omega) only [go_sem, hb, ht, hA, hU, e2, hC, hG, mkAt_set, mkAt_length, hl, setO_twice, isSD]
        (repeat (with_reducible refine And.intro ?_ ?_; focus first | omega | rfl | assumption | exact ⟨_, rfl, rfl⟩ | (simp; omega) | (simp; done)))
        refine call_d rfl (sub_mk hS hp hir (by rfl) (fun S' rs' g1 g2 => markTypeS_ok x.fType.fArgs (k + ((mcRs (rows.take i) : Nat) : Int) + 1 + 1 + 1 + 1 + 1 + 1) (1 + l) j r _ S' rs' g1 g2 (by omega))) ?_
        simp -implicitDefEqProofs (disch := omega) only [go_sem, hb, ht, hA, hU, e2, hC, hG, mkAt_set, mkAt_length, hl, setO_twice, isSD]
        (repeat (with_reducible refine And.intro ?_ ?_; focus first | omega | rfl | assumption | exact ⟨_, rfl, rfl⟩ | (simp; omega) | (simp; done)))
        refine call_d rfl (sub_mk hS hp hir (by rfl) (fun S' rs' g1 g2 => ihExpr x.fArgs (by have := List.sizeOf_lt_of_mem (List.getElem_mem hi); rw [← hx] at this; have := MExpr.lt_Args x; omega) (k + ((mcRs (rows.take i) : Nat) : Int) + 1 + 1 + 1 + 1 + 1 + 1 + ((mcRs (x.fType.fArgs.map MType.enc) : Nat) : Int)) (1 + l) j r _ S' rs' g1 g2 (by omega))) ?_
        simp -implicitDefEqProofs (disch := omega) only [go_sem, hb, ht, hA, hU, e2, hC, hG, mkAt_set, mkAt_length, hl, setO_twice, isSD]
        (repeat (with_reducible refine And.intro ?_ ?_; focus first | omega | rfl | assumption | exact ⟨_, rfl, rfl⟩ | (simp; omega) | (simp; done)))
        refine call_d rfl (sub_mk hS hp hir (by rfl) (fun S' rs' g1 g2 => ihArm x.fArms (by have := List.sizeOf_lt_of_mem (List.getElem_mem hi); rw [← hx] at this; have := MExpr.lt_Arms x; omega) (k + ((mcRs (rows.take i) : Nat) : Int) + 1 + 1 + 1 + 1 + 1 + 1 + ((mcRs (x.fType.fArgs.map MType.enc) : Nat) : Int) + ((mcRs (x.fArgs.map MExpr.enc) : Nat) : Int)) (1 + l) j r _ S' rs' g1 g2 (by omega))) ?_
        simp -implicitDefEqProofs (disch := omega) only [go_sem, hb, ht, hA, hU, e2, hC, hG, mkAt_set, mkAt_length, hl, setO_twice, isSD]
        (repeat (with_reducible refine And.intro ?_ ?_; focus first | omega | rfl | assumption | exact ⟨_, rfl, rfl⟩ | (simp; omega) | (simp; done)))
        refine inv_at (i + 1) (by omega) (by rw [hK]; rfl) ?_ (by omega)
        have h3 := mkAt_to (k := k) hir
        rw [e1] at h3
        simp only [mkR, mkD] at h3
        rw [← h3]
        all_goals rfl
      · simp -implicitDefEqProofs (disch := omega) only [go_sem, hb]
        have hi : i = xs.length := by omega
        rw [mkTo_all (by omega), List.take_of_length_le (by omega)]
        all_goals (first | rfl | exact ⟨rfl, rfl⟩)
    · have hlen := len_mc (f := MArm.enc) (fun x => by simp only [MArm.enc_eq, MExpr.enc_eq, MType.enc_eq, encS, encI, List.cons_append, List.nil_append, mcR, mcD]; omega) xs
      obtain ⟨rows, hr⟩ : ∃ rows, rows = xs.map MArm.enc := ⟨_, rfl⟩
      have hl : rows.length = xs.length := by rw [hr, List.length_map]
      rw [← hr] at hp hk hlen ⊢
      have ht : ∀ x : Ab.Obj, getO (setO S (l, j) x) (l, j) = some x := fun x => getO_setO_eq _ _ _ _ hS
      have hA : ∀ new, atR (updR rs r p new) r p = some new := fun new => atR_updR hp
      have hU : ∀ a b, updR (updR rs r p a) r p b = updR rs r p b := fun a b => updR_updR hp
      refine acall_cw (rs := [.tmp 4]) Try.checked.mixed Try.func65 Try.ntmps65 rfl rfl rfl rfl rfl ?_
      simp -implicitDefEqProofs (disch := omega) only [go_sem]
      refine loop_at (ι := Nat) Try.checked.mixed rfl [0, 1, 5] (fun i => [.c (.xp (1 + l, j) r p), .c (.d (.i .i64 (k + mcRs (rows.take i)))), .c (.d (.i .i64 i))])
        (fun i => [] :: setO S (l, j) (.xf (updR rs r p (mkTo rows k i)))) (fun i => i ≤ xs.length) (fun i => xs.length - i) 0 ?_ ?_ (Nat.zero_le _) ?_
      · have z0 : k + ((mcRs (rows.take 0) : Nat) : Int) = k := by simp [mcRs]
        rw [z0]
        rfl
      · rw [mkTo_zero, updR_same hp, setO_self _ _ hS]
      intro i hi
      simp -implicitDefEqProofs (disch := omega) only [go_sem, ht, hA, mkTo_length, hl]
      with_reducible refine split2 (fun hb => ?_) (fun hb => ?_) <;> have h := hb <;> try simp only [wf_preprocess] at h
      · have hi : i < xs.length := by omega
        have hir : i < rows.length := by omega
        obtain ⟨x, hx⟩ : ∃ x, x = xs[i] := ⟨_, rfl⟩
        have e1 : rows[i] = [.s x.fConstructor, .sl (x.fVars.map encS), .i .i64 x.fBody.fKind, .s x.fBody.fTrait, .s x.fBody.fName, .i .i64 x.fBody.fN, .i .i64 x.fBody.fType.fKind, .s x.fBody.fType.fName, .sl (x.fBody.fType.fArgs.map MType.enc), .sl (x.fBody.fArgs.map MExpr.enc), .sl (x.fBody.fArms.map MArm.enc)] := by
          simp only [hr, List.getElem_map, ← hx]
          simp only [MArm.enc_eq, MExpr.enc_eq, MType.enc_eq, encS, encI, List.cons_append, List.nil_append]
        have hm := mcRs_take hir
        have hle := mcRs_le (rows := rows) (i := i + 1)
        rw [hm, e1] at hle
        rw [e1] at hm
        simp only [mcR, mcD] at hle hm
        have hK : k + ((mcRs (rows.take (i + 1)) : Nat) : Int) = k + ((mcRs (rows.take i) : Nat) : Int) + 1 + ((mcRs (x.fVars.map encS) : Nat) : Int) + 1 + 1 + 1 + 1 + 1 + 1 + ((mcRs (x.fBody.fType.fArgs.map MType.enc) : Nat) : Int) + ((mcRs (x.fBody.fArgs.map MExpr.enc) : Nat) : Int) + ((mcRs (x.fBody.fArms.map MArm.enc) : Nat) : Int) := by rw [hm]; omega
        have e2 := mkTo_at (k := k) hir
        rw [e1] at e2
        have hC : ∀ row o, cellAt (mkAt rows k i row) i o = row[o]? := fun row o => mkAt_cell hir
        have hG : ∀ row, (mkAt rows k i row).getD i [] = row := fun row => mkAt_get hir
        simp -implicitDefEqProofs (disch := omega) only [go_sem, hb, ht, hA, hU, e2, hC, hG, mkAt_set, mkAt_length, hl, setO_twice, isSD]
        (repeat (with_reducible refine And.intro ?_ ?_; focus first | omega | rfl | assumption | exact ⟨_, rfl, rfl⟩ | (simp; omega) | (simp; done)))
        refine call_w (markText_ok (k + ((mcRs (rows.take i) : Nat) : Int)) (by omega)) ?_
        simp -implicitDefEqProofs (disch := omega) only [go_sem, hb, ht, hA, hU, e2, hC, hG, mkAt_set, mkAt_length, hl, setO_twice, isSD]
        (repeat (with_reducible refine And.intro ?_ ?_; focus first | omega | rfl | assumption | exact ⟨_, rfl, rfl⟩ | (simp; omega) | (simp; done)))
        refine call_d rfl (sub_mk hS hp hir (by rfl) (fun S' rs' g1 g2 => markStringS_ok x.fVars (k + ((mcRs (rows.take i) : Nat) : Int) + 1) (1 + l) j r _ S' rs' g1 g2 (by omega))) ?_
        simp -implicitDefEqProofs (disch := omega) only [go_sem, hb, ht, hA, hU, e2, hC, hG, mkAt_set, mkAt_length, hl, setO_twice, isSD]
        (repeat (with_reducible refine And.intro ?_ ?_; focus first | omega | rfl | assumption | exact ⟨_, rfl, rfl⟩ | (simp; omega) | (simp; done)))
        refine call_w (markText_ok (k + ((mcRs (rows.take i) : Nat) : Int) + 1 + ((mcRs (x.fVars.map encS) : Nat) : Int) + 1) (by omega)) ?_
        simp -implicitDefEqProofs (disch := omega) only [go_sem, hb, ht, hA, hU, e2, hC, hG, mkAt_set, mkAt_length, hl, setO_twice, isSD]
        (repeat (with_reducible refine And.intro ?_ ?_; focus first | omega | rfl | assumption | exact ⟨_, rfl, rfl⟩ | (simp; omega) | (simp; done)))
        refine call_w (markText_ok (k + ((mcRs (rows.take i) : Nat) : Int) + 1 + ((mcRs (x.fVars.map encS) : Nat) : Int) + 1 + 1) (by omega)) ?_
        simp -implicitDefEqProofs (disch := omega) only [go_sem, hb, ht, hA, hU, e2, hC, hG, mkAt_set, mkAt_length, hl, setO_twice, isSD]
        (repeat (with_reducible refine And.intro ?_ ?_; focus first | omega | rfl | assumption | exact ⟨_, rfl, rfl⟩ | (simp; omega) | (simp; done)))
        refine call_w (markText_ok (k + ((mcRs (rows.take i) : Nat) : Int) + 1 + ((mcRs (x.fVars.map encS) : Nat) : Int) + 1 + 1 + 1 + 1 + 1) (by omega)) ?_
        simp -implicitDefEqProofs (disch := omega) only [go_sem, hb, ht, hA, hU, e2, hC, hG, mkAt_set, mkAt_length, hl, setO_twice, isSD]
        (repeat (with_reducible refine And.intro ?_ ?_; focus first | omega | rfl | assumption | exact ⟨_, rfl, rfl⟩ | (simp; omega) | (simp; done)))
        refine call_d rfl (sub_mk hS hp hir (by rfl) (fun S' rs' g1 g2 => markTypeS_ok x.fBody.fType.fArgs (k + ((mcRs (rows.take i) : Nat) : Int) + 1 + ((mcRs (x.fVars.map encS) : Nat) : Int) + 1 + 1 + 1 + 1 + 1 + 1) (1 + l) j r _ S' rs' g1 g2 (by omega))) ?_
        simp -implicitDefEqProofs (disch := omega) only [go_sem, hb, ht, hA, hU, e2, hC, hG, mkAt_set, mkAt_length, hl, setO_twice, isSD]
        (repeat (with_reducible refine And.intro ?_ ?_; focus first | omega | rfl | assumption | exact ⟨_, rfl, rfl⟩ | (simp; omega) | (simp; done)))
        refine call_d rfl (sub_mk hS hp hir (by rfl) (fun S' rs' g1 g2 => ihExpr x.fBody.fArgs (by have := List.sizeOf_lt_of_mem (List.getElem_mem hi); rw [← hx] at this; have := MArm.lt_Body x; have := MExpr.lt_Args x.fBody; omega) (k + ((mcRs (rows.take i) : Nat) : Int) + 1 + ((mcRs (x.fVars.map encS) : Nat) : Int) + 1 + 1 + 1 + 1 + 1 + 1 + ((mcRs (x.fBody.fType.fArgs.map MType.enc) : Nat) : Int)) (1 + l) j r _ S' rs' g1 g2 (by omega))) ?_
        simp -implicitDefEqProofs (disch := omega) only [go_sem, hb, ht, hA, hU, e2, hC, hG, mkAt_set, mkAt_length, hl, setO_twice, isSD]
        (repeat (with_reducible refine And.intro ?_ ?_; focus first | omega | rfl | assumption | exact ⟨_, rfl, rfl⟩ | (simp; omega) | (simp; done)))
        refine call_d rfl (sub_mk hS hp hir (by rfl) (fun S' rs' g1 g2 => ihArm x.fBody.fArms (by have := List.sizeOf_lt_of_mem (List.getElem_mem hi); rw [← hx] at this; have := MArm.lt_Body x; have := MExpr.lt_Arms x.fBody; omega) (k + ((mcRs (rows.take i) : Nat) : Int) + 1 + ((mcRs (x.fVars.map encS) : Nat) : Int) + 1 + 1 + 1 + 1 + 1 + 1 + ((mcRs (x.fBody.fType.fArgs.map MType.enc) : Nat) : Int) + ((mcRs (x.fBody.fArgs.map MExpr.enc) : Nat) : Int)) (1 + l) j r _ S' rs' g1 g2 (by omega))) ?_
        simp -implicitDefEqProofs (disch := omega) only [go_sem, hb, ht, hA, hU, e2, hC, hG, mkAt_set, mkAt_length, hl, setO_twice, isSD]
        (repeat (with_reducible refine And.intro ?_ ?_; focus first | omega | rfl | assumption | exact ⟨_, rfl, rfl⟩ | (simp; omega) | (simp; done)))
        refine inv_at (i + 1) (by omega) (by rw [hK]; rfl) ?_ (by omega)
        have h3 := mkAt_to (k := k) hir
        rw [e1] at h3
        simp only [mkR, mkD] at h3
        rw [← h3]
        all_goals rfl
      · simp -implicitDefEqProofs (disch := omega) only [go_sem, hb]
        have hi : i = xs.length := by omega
        rw [mkTo_all (by omega), List.take_of_length_le (by omega)]
        all_goals (first | rfl | exact ⟨rfl, rfl⟩)
theorem markExprS_ok (xs : List MExpr) : ∀ (k : Int) (l j r : Nat) (p : List (Nat × Nat)) (S : Store) (rs : List (List (List D))), getO S (l, j) = some (.xf rs) → atR rs r p = some (xs.map MExpr.enc) → 0 ≤ k ∧ k + mcRs (xs.map MExpr.enc) ≤ 4611686018427387904 → ACall Try.prog 64 [.c (.xp (l, j) r p), .c (.d (.i .i64 k))] S (fun res S' => res = .c (.d (.i .i64 (k + mcRs (xs.map MExpr.enc)))) ∧ S' = setO S (l, j) (.xf (updR rs r p (mkRs (xs.map MExpr.enc) k)))) := (markExpr_all _).1 xs (Nat.lt_succ_self _)
theorem markArmS_ok (xs : List MArm) : ∀ (k : Int) (l j r : Nat) (p : List (Nat × Nat)) (S : Store) (rs : List (List (List D))), getO S (l, j) = some (.xf rs) → atR rs r p = some (xs.map MArm.enc) → 0 ≤ k ∧ k + mcRs (xs.map MArm.enc) ≤ 4611686018427387904 → ACall Try.prog 65 [.c (.xp (l, j) r p), .c (.d (.i .i64 k))] S (fun res S' => res = .c (.d (.i .i64 (k + mcRs (xs.map MArm.enc)))) ∧ S' = setO S (l, j) (.xf (updR rs r p (mkRs (xs.map MArm.enc) k)))) := (markExpr_all _).2 xs (Nat.lt_succ_self _)
theorem markExpr_ok (x : MExpr) (k : Int) (l j b : Nat) (S : Store) (rs : List (List (List D))) (hS : getO S (l, j) = some (.xf rs)) (h6 : atR rs (b + 6) [] = some (x.fType.fArgs.map MType.enc)) (h7 : atR rs (b + 7) [] = some (x.fArgs.map MExpr.enc)) (h8 : atR rs (b + 8) [] = some (x.fArms.map MArm.enc)) (hk : 0 ≤ k ∧ k + ((mcRs (x.fType.fArgs.map MType.enc) : Nat) : Int) + ((mcRs (x.fArgs.map MExpr.enc) : Nat) : Int) + ((mcRs (x.fArms.map MArm.enc) : Nat) : Int) ≤ 4611686018427387904) : ACall Try.prog 27 [.agg [.d (.i .i64 x.fKind), .d (.s x.fTrait), .d (.s x.fName), .d (.i .i64 x.fN), .d (.i .i64 x.fType.fKind), .d (.s x.fType.fName), .xp (l, j) (b + 6) [], .xp (l, j) (b + 7) [], .xp (l, j) (b + 8) []], .c (.d (.i .i64 k))] S (fun res S' => res = .c (.d (.i .i64 (k + ((mcRs (x.fType.fArgs.map MType.enc) : Nat) : Int) + ((mcRs (x.fArgs.map MExpr.enc) : Nat) : Int) + ((mcRs (x.fArms.map MArm.enc) : Nat) : Int)))) ∧ S' = setO S (l, j) (.xf (updR (updR (updR (rs) (b + 6) [] (mkRs (x.fType.fArgs.map MType.enc) (k))) (b + 7) [] (mkRs (x.fArgs.map MExpr.enc) (k + ((mcRs (x.fType.fArgs.map MType.enc) : Nat) : Int)))) (b + 8) [] (mkRs (x.fArms.map MArm.enc) (k + ((mcRs (x.fType.fArgs.map MType.enc) : Nat) : Int) + ((mcRs (x.fArgs.map MExpr.enc) : Nat) : Int)))))) := by
  have ht : ∀ x : Ab.Obj, getO (setO S (l, j) x) (l, j) = some x := fun x => getO_setO_eq _ _ _ _ hS
  refine acall_cw (rs := [.tmp 4]) Try.checked.mixed Try.func27 Try.ntmps27 rfl rfl rfl rfl rfl ?_
  simp -implicitDefEqProofs (disch := omega) only [go_sem]
  refine call_d rfl (markType_ok x.fType (k) (1 + l) j (b + 4) _ _ (by rw [getO_up1]; first | exact hS | exact ht _) (by first | assumption | (simp (disch := omega) only [ne_eq, atR_ne]; assumption)) (by omega)) ?_
  simp -implicitDefEqProofs (disch := omega) only [go_sem, setO_twice, setO_up1, Nat.add_assoc, Nat.reduceAdd]
  refine call_d rfl (markExprS_ok x.fArgs (k + ((mcRs (x.fType.fArgs.map MType.enc) : Nat) : Int)) (1 + l) j (b + 7) [] _ _ (by rw [getO_up1]; first | exact hS | exact ht _) (by first | assumption | (simp (disch := omega) only [ne_eq, atR_ne]; assumption)) (by omega)) ?_
  simp -implicitDefEqProofs (disch := omega) only [go_sem, setO_twice, setO_up1]
  refine call_d rfl (markArmS_ok x.fArms (k + ((mcRs (x.fType.fArgs.map MType.enc) : Nat) : Int) + ((mcRs (x.fArgs.map MExpr.enc) : Nat) : Int)) (1 + l) j (b + 8) [] _ _ (by rw [getO_up1]; first | exact hS | exact ht _) (by first | assumption | (simp (disch := omega) only [ne_eq, atR_ne]; assumption)) (by omega)) ?_
  simp -implicitDefEqProofs (disch := omega) only [go_sem, setO_twice, setO_up1]
  try exact ⟨rfl, rfl⟩
end Go.Proofs.Ytnleocfkdidhoaa

namespace Go.Ab
theorem pl_encS (xs : List (List UInt8)) : plRs (xs.map encS) = true := plRs_map fun _ _ => rfl
theorem nw_encS (xs : List (List UInt8)) : nwRs (xs.map encS) = true := nwRs_map fun _ _ => ⟨rfl, by simp [encS]⟩
theorem lab_encS : ∀ (xs : List (List UInt8)) (n : Nat), labRs (xs.map encS) n = xs.map encS
  | [], _ => rfl
  | x :: xs, n => by rw [List.map_cons, labRs, lab_encS xs]; rfl
theorem mc_encS : ∀ xs : List (List UInt8), mcRs (xs.map encS) = xs.length
  | [] => rfl
  | x :: xs => by rw [List.map_cons, mcRs, mc_encS xs, List.length_cons]; simp [encS, mcR, mcD]; omega
mutual
theorem MType.plw : ∀ x : MType, plR x.enc = true ∧ nwR x.enc = true
  | .mk a0 a1 a2 => by simp only [MType.enc, plR, plD, nwR, nwD, plR_append, nwR_append, Bool.and_true, Bool.true_and, Bool.and_self, and_self, and_true, true_and, (MType.plws a2).1, (MType.plws a2).2]
theorem MType.plws : ∀ xs : List MType, plRs (MType.encs xs) = true ∧ nwRs (MType.encs xs) = true
  | [] => ⟨rfl, rfl⟩
  | x :: xs => by
    have h : decide ((MType.enc x).length ≤ 32) = true := by rw [MType.enc_length]; rfl
    simp only [MType.encs, plRs, nwRs, h, (MType.plw x).1, (MType.plw x).2, (MType.plws xs).1, (MType.plws xs).2, Bool.and_self, and_self]
end
theorem MType.plms (xs : List MType) : plRs (xs.map MType.enc) = true ∧ nwRs (xs.map MType.enc) = true := by rw [← MType.encs_map]; exact MType.plws xs
theorem MBinding.plw (x : MBinding) : plR x.enc = true ∧ nwR x.enc = true := by
  rw [MBinding.enc_eq]; simp only [List.cons_append, List.nil_append, plR, plD, nwR, nwD, plR_append, nwR_append, Bool.and_true, Bool.true_and, Bool.and_self, and_self, and_true, true_and, (MType.plw x.fType).1, (MType.plw x.fType).2]
theorem MBinding.plms (xs : List MBinding) : plRs (xs.map MBinding.enc) = true ∧ nwRs (xs.map MBinding.enc) = true := ⟨plRs_map fun x _ => x.plw.1, nwRs_map fun x _ => ⟨x.plw.2, by rw [MBinding.enc_length]; decide⟩⟩
theorem MBound.plw (x : MBound) : plR x.enc = true ∧ nwR x.enc = true := by
  rw [MBound.enc_eq]; simp only [List.cons_append, List.nil_append, plR, plD, nwR, nwD, plR_append, nwR_append, Bool.and_true, Bool.true_and, Bool.and_self, and_self, and_true, true_and, (MType.plw x.fType).1, (MType.plw x.fType).2]
theorem MBound.plms (xs : List MBound) : plRs (xs.map MBound.enc) = true ∧ nwRs (xs.map MBound.enc) = true := ⟨plRs_map fun x _ => x.plw.1, nwRs_map fun x _ => ⟨x.plw.2, by rw [MBound.enc_length]; decide⟩⟩
mutual
theorem MExpr.plw : ∀ x : MExpr, plR x.enc = true ∧ nwR x.enc = true
  | .mk a0 a1 a2 a3 a4 a5 a6 => by simp only [MExpr.enc, plR, plD, nwR, nwD, plR_append, nwR_append, Bool.and_true, Bool.true_and, Bool.and_self, and_self, and_true, true_and, (MType.plw a4).1, (MType.plw a4).2, (MExpr.plws a5).1, (MExpr.plws a5).2, (MArm.plws a6).1, (MArm.plws a6).2]
theorem MExpr.plws : ∀ xs : List MExpr, plRs (MExpr.encs xs) = true ∧ nwRs (MExpr.encs xs) = true
  | [] => ⟨rfl, rfl⟩
  | x :: xs => by
    have h : decide ((MExpr.enc x).length ≤ 32) = true := by rw [MExpr.enc_length]; rfl
    simp only [MExpr.encs, plRs, nwRs, h, (MExpr.plw x).1, (MExpr.plw x).2, (MExpr.plws xs).1, (MExpr.plws xs).2, Bool.and_self, and_self]
theorem MArm.plw : ∀ x : MArm, plR x.enc = true ∧ nwR x.enc = true
  | .mk a0 a1 a2 => by simp only [MArm.enc, plR, plD, nwR, nwD, plR_append, nwR_append, Bool.and_true, Bool.true_and, Bool.and_self, and_self, and_true, true_and, pl_encS a1, nw_encS a1, (MExpr.plw a2).1, (MExpr.plw a2).2]
theorem MArm.plws : ∀ xs : List MArm, plRs (MArm.encs xs) = true ∧ nwRs (MArm.encs xs) = true
  | [] => ⟨rfl, rfl⟩
  | x :: xs => by
    have h : decide ((MArm.enc x).length ≤ 32) = true := by rw [MArm.enc_length]; rfl
    simp only [MArm.encs, plRs, nwRs, h, (MArm.plw x).1, (MArm.plw x).2, (MArm.plws xs).1, (MArm.plws xs).2, Bool.and_self, and_self]
end
theorem MExpr.plms (xs : List MExpr) : plRs (xs.map MExpr.enc) = true ∧ nwRs (xs.map MExpr.enc) = true := by rw [← MExpr.encs_map]; exact MExpr.plws xs
theorem MArm.plms (xs : List MArm) : plRs (xs.map MArm.enc) = true ∧ nwRs (xs.map MArm.enc) = true := by rw [← MArm.encs_map]; exact MArm.plws xs
mutual
theorem MSExpr.plw : ∀ x : MSExpr, plR x.enc = true ∧ nwR x.enc = true
  | .mk a0 a1 => by simp only [MSExpr.enc, plR, plD, nwR, nwD, plR_append, nwR_append, Bool.and_true, Bool.true_and, Bool.and_self, and_self, and_true, true_and, (MSExpr.plws a1).1, (MSExpr.plws a1).2]
theorem MSExpr.plws : ∀ xs : List MSExpr, plRs (MSExpr.encs xs) = true ∧ nwRs (MSExpr.encs xs) = true
  | [] => ⟨rfl, rfl⟩
  | x :: xs => by
    have h : decide ((MSExpr.enc x).length ≤ 32) = true := by rw [MSExpr.enc_length]; rfl
    simp only [MSExpr.encs, plRs, nwRs, h, (MSExpr.plw x).1, (MSExpr.plw x).2, (MSExpr.plws xs).1, (MSExpr.plws xs).2, Bool.and_self, and_self]
end
theorem MSExpr.plms (xs : List MSExpr) : plRs (xs.map MSExpr.enc) = true ∧ nwRs (xs.map MSExpr.enc) = true := by rw [← MSExpr.encs_map]; exact MSExpr.plws xs
theorem MSignature.plw (x : MSignature) : plR x.enc = true ∧ nwR x.enc = true := by
  rw [MSignature.enc_eq]; simp only [List.cons_append, List.nil_append, plR, plD, nwR, nwD, plR_append, nwR_append, Bool.and_true, Bool.true_and, Bool.and_self, and_self, and_true, true_and, (MType.plms x.fParams).1, (MType.plms x.fParams).2, (MType.plw x.fResult).1, (MType.plw x.fResult).2, pl_encS x.fVars, nw_encS x.fVars, (MExpr.plw x.fBody).1, (MExpr.plw x.fBody).2]
theorem MSignature.plms (xs : List MSignature) : plRs (xs.map MSignature.enc) = true ∧ nwRs (xs.map MSignature.enc) = true := ⟨plRs_map fun x _ => x.plw.1, nwRs_map fun x _ => ⟨x.plw.2, by rw [MSignature.enc_length]; decide⟩⟩
theorem MTrait.plw (x : MTrait) : plR x.enc = true ∧ nwR x.enc = true := by
  rw [MTrait.enc_eq]; simp only [List.cons_append, List.nil_append, plR, plD, nwR, nwD, plR_append, nwR_append, Bool.and_true, Bool.true_and, Bool.and_self, and_self, and_true, true_and, pl_encS x.fSupertraits, nw_encS x.fSupertraits, (MSignature.plms x.fSignatures).1, (MSignature.plms x.fSignatures).2]
theorem MTrait.plms (xs : List MTrait) : plRs (xs.map MTrait.enc) = true ∧ nwRs (xs.map MTrait.enc) = true := ⟨plRs_map fun x _ => x.plw.1, nwRs_map fun x _ => ⟨x.plw.2, by rw [MTrait.enc_length]; decide⟩⟩
theorem MConstructor.plw (x : MConstructor) : plR x.enc = true ∧ nwR x.enc = true := by
  rw [MConstructor.enc_eq]; simp only [List.cons_append, List.nil_append, plR, plD, nwR, nwD, plR_append, nwR_append, Bool.and_true, Bool.true_and, Bool.and_self, and_self, and_true, true_and, (MType.plms x.fFields).1, (MType.plms x.fFields).2]
theorem MConstructor.plms (xs : List MConstructor) : plRs (xs.map MConstructor.enc) = true ∧ nwRs (xs.map MConstructor.enc) = true := ⟨plRs_map fun x _ => x.plw.1, nwRs_map fun x _ => ⟨x.plw.2, by rw [MConstructor.enc_length]; decide⟩⟩
theorem MDataType.plw (x : MDataType) : plR x.enc = true ∧ nwR x.enc = true := by
  rw [MDataType.enc_eq]; simp only [List.cons_append, List.nil_append, plR, plD, nwR, nwD, plR_append, nwR_append, Bool.and_true, Bool.true_and, Bool.and_self, and_self, and_true, true_and, pl_encS x.fVars, nw_encS x.fVars, (MConstructor.plms x.fConstructors).1, (MConstructor.plms x.fConstructors).2]
theorem MDataType.plms (xs : List MDataType) : plRs (xs.map MDataType.enc) = true ∧ nwRs (xs.map MDataType.enc) = true := ⟨plRs_map fun x _ => x.plw.1, nwRs_map fun x _ => ⟨x.plw.2, by rw [MDataType.enc_length]; decide⟩⟩
theorem MMethod.plw (x : MMethod) : plR x.enc = true ∧ nwR x.enc = true := by
  rw [MMethod.enc_eq]; simp only [List.cons_append, List.nil_append, plR, plD, nwR, nwD, plR_append, nwR_append, Bool.and_true, Bool.true_and, Bool.and_self, and_self, and_true, true_and, pl_encS x.fVars, nw_encS x.fVars, (MExpr.plw x.fBody).1, (MExpr.plw x.fBody).2]
theorem MMethod.plms (xs : List MMethod) : plRs (xs.map MMethod.enc) = true ∧ nwRs (xs.map MMethod.enc) = true := ⟨plRs_map fun x _ => x.plw.1, nwRs_map fun x _ => ⟨x.plw.2, by rw [MMethod.enc_length]; decide⟩⟩
theorem MInstance.plw (x : MInstance) : plR x.enc = true ∧ nwR x.enc = true := by
  rw [MInstance.enc_eq]; simp only [List.cons_append, List.nil_append, plR, plD, nwR, nwD, plR_append, nwR_append, Bool.and_true, Bool.true_and, Bool.and_self, and_self, and_true, true_and, pl_encS x.fVars, nw_encS x.fVars, (MType.plw x.fHead).1, (MType.plw x.fHead).2, (MBound.plms x.fWhere).1, (MBound.plms x.fWhere).2, (MType.plw x.fAssoc).1, (MType.plw x.fAssoc).2, (MMethod.plms x.fMethods).1, (MMethod.plms x.fMethods).2]
theorem MInstance.plms (xs : List MInstance) : plRs (xs.map MInstance.enc) = true ∧ nwRs (xs.map MInstance.enc) = true := ⟨plRs_map fun x _ => x.plw.1, nwRs_map fun x _ => ⟨x.plw.2, by rw [MInstance.enc_length]; decide⟩⟩
theorem MParam.plw (x : MParam) : plR x.enc = true ∧ nwR x.enc = true := by
  rw [MParam.enc_eq]; simp only [List.cons_append, List.nil_append, plR, plD, nwR, nwD, plR_append, nwR_append, Bool.and_true, Bool.true_and, Bool.and_self, and_self, and_true, true_and, (MType.plw x.fType).1, (MType.plw x.fType).2]
theorem MParam.plms (xs : List MParam) : plRs (xs.map MParam.enc) = true ∧ nwRs (xs.map MParam.enc) = true := ⟨plRs_map fun x _ => x.plw.1, nwRs_map fun x _ => ⟨x.plw.2, by rw [MParam.enc_length]; decide⟩⟩
theorem MFunction.plw (x : MFunction) : plR x.enc = true ∧ nwR x.enc = true := by
  rw [MFunction.enc_eq]; simp only [List.cons_append, List.nil_append, plR, plD, nwR, nwD, plR_append, nwR_append, Bool.and_true, Bool.true_and, Bool.and_self, and_self, and_true, true_and, pl_encS x.fVars, nw_encS x.fVars, (MBound.plms x.fWhere).1, (MBound.plms x.fWhere).2, (MParam.plms x.fParams).1, (MParam.plms x.fParams).2, (MType.plw x.fResult).1, (MType.plw x.fResult).2, (MExpr.plw x.fBody).1, (MExpr.plw x.fBody).2]
theorem MFunction.plms (xs : List MFunction) : plRs (xs.map MFunction.enc) = true ∧ nwRs (xs.map MFunction.enc) = true := ⟨plRs_map fun x _ => x.plw.1, nwRs_map fun x _ => ⟨x.plw.2, by rw [MFunction.enc_length]; decide⟩⟩
theorem MPackage.plw (x : MPackage) : plR x.enc = true ∧ nwR x.enc = true := by
  rw [MPackage.enc_eq]; simp only [List.cons_append, List.nil_append, plR, plD, nwR, nwD, plR_append, nwR_append, Bool.and_true, Bool.true_and, Bool.and_self, and_self, and_true, true_and, pl_encS x.fDeps, nw_encS x.fDeps, (MTrait.plms x.fTraits).1, (MTrait.plms x.fTraits).2, (MDataType.plms x.fDataTypes).1, (MDataType.plms x.fDataTypes).2, (MInstance.plms x.fInstances).1, (MInstance.plms x.fInstances).2, (MFunction.plms x.fFunctions).1, (MFunction.plms x.fFunctions).2]
theorem MPackage.plms (xs : List MPackage) : plRs (xs.map MPackage.enc) = true ∧ nwRs (xs.map MPackage.enc) = true := ⟨plRs_map fun x _ => x.plw.1, nwRs_map fun x _ => ⟨x.plw.2, by rw [MPackage.enc_length]; decide⟩⟩
theorem MProgram.plw (x : MProgram) : plR x.enc = true ∧ nwR x.enc = true := by
  rw [MProgram.enc_eq]; simp only [List.cons_append, List.nil_append, plR, plD, nwR, nwD, plR_append, nwR_append, Bool.and_true, Bool.true_and, Bool.and_self, and_self, and_true, true_and, (MPackage.plms x.fPackages).1, (MPackage.plms x.fPackages).2]
theorem MProgram.plms (xs : List MProgram) : plRs (xs.map MProgram.enc) = true ∧ nwRs (xs.map MProgram.enc) = true := ⟨plRs_map fun x _ => x.plw.1, nwRs_map fun x _ => ⟨x.plw.2, by rw [MProgram.enc_length]; decide⟩⟩
theorem MInstanceRef.plw (x : MInstanceRef) : plR x.enc = true ∧ nwR x.enc = true := by
  rw [MInstanceRef.enc_eq]; simp only [List.cons_append, List.nil_append, plR, plD, nwR, nwD, plR_append, nwR_append, Bool.and_true, Bool.true_and, Bool.and_self, and_self, and_true, true_and]
theorem MInstanceRef.plms (xs : List MInstanceRef) : plRs (xs.map MInstanceRef.enc) = true ∧ nwRs (xs.map MInstanceRef.enc) = true := ⟨plRs_map fun x _ => x.plw.1, nwRs_map fun x _ => ⟨x.plw.2, by rw [MInstanceRef.enc_length]; decide⟩⟩
end Go.Ab

namespace Go.Proofs.Ytnleocfkdidhoaa.fnExactCalledFunctions
open Go Go.Ab
theorem law (x0 : MExpr) (f0 : FitL x0.enc) : ACall Try.prog 6 [x0.v] [] (fun r _ => r = .c (.d (.b true))) := by
  obtain ⟨L, hL⟩ : ∃ L : List (List UInt8), L = (callE x0) := ⟨_, rfl⟩
  have hmx := mcr_sz x0.enc x0.plw.2
  rw [MExpr.enc_length, MExpr.sz_def] at hmx
  simp only [MExpr.enc_eq, MType.enc_eq, List.cons_append, List.nil_append, mcR, mcD] at hmx
  have hmL : mcRs (L.map encS) = L.length := mc_encS L
  refine acall_cw (rs := [.tmp 2]) Try.checked.mixed Try.func6 Try.ntmps6 rfl rfl rfl rfl rfl ?_
  simp -implicitDefEqProofs (disch := omega) only [go_sem]
  refine call_w (szExpr_ok x0 _ (by omega) (by omega) f0) ?_
  simp -implicitDefEqProofs (disch := omega) only [go_sem] <;> (repeat (with_reducible refine And.intro ?_ ?_; focus first | omega | rfl | assumption | exact ⟨_, rfl, rfl⟩ | (simp; omega) | (simp; done)))
  with_reducible refine split2 (fun hb => ?_) (fun hb => ?_) <;> have h := hb <;> (try simp only [wf_preprocess] at h) <;> simp -implicitDefEqProofs (disch := omega) only [go_sem, hb] <;> (repeat (with_reducible refine And.intro ?_ ?_; focus first | omega | rfl | assumption | exact ⟨_, rfl, rfl⟩ | (simp; omega) | (simp; done)))
  have h0 := sub1_nn h
  have hcn := MExpr.cnt_le x0
  have hLl : L.length ≤ 1048577 := by
      have h1 := callE_len x0 []
      have h2 : foldE addC x0 [] = L := hL.symm
      rw [h2, List.length_nil] at h1
      omega
  refine call_w (toExpr_ok x0 (by omega)) ?_
  simp -implicitDefEqProofs (disch := omega) only [go_sem] <;> (repeat (with_reducible refine And.intro ?_ ?_; focus first | omega | rfl | assumption | exact ⟨_, rfl, rfl⟩ | (simp; omega) | (simp; done)))
  refine call_w (specCalled_ok x0 (by omega) ) ?_
  simp -implicitDefEqProofs (disch := omega) only [go_sem]
  refine call_d rfl (ACall.own (mk := V.agg) (r := x0.enc) holder_agg x0.plw.1 (fun n => toExpr_lab x0 n (by omega))) ?_
  simp -implicitDefEqProofs (disch := omega) only [go_sem, MExpr.enc_eq, MType.enc_eq, List.cons_append, List.nil_append, rowX, cellX, rootD]
  refine call_d rfl (ACall.ownL (k := (0, 1)) rfl (mk := oneV) (r := [.sl ((callE x0).map encS)]) holder_one (by simp only [plR, plD, pl_encS, Bool.and_self]) (fun n => by
    have := implCalled_lab x0 (by omega)  n
    rw [← lab_encS (callE x0) (n + 1)] at this
    exact this)) ?_
  simp -implicitDefEqProofs (disch := omega) only [go_sem, rowX, cellX, rootD, oneV]
  rw [← hL]
  refine call_d rfl (ACall.lend (k := (0, 3)) rfl (stay_plain rfl) (eqStringS_ok L L (by omega))) ?_
  simp -implicitDefEqProofs (disch := omega) only [go_sem, dec_true rfl, Bool.not_true]
  refine call_w (toExpr_ok x0 (by omega)) ?_
  simp -implicitDefEqProofs (disch := omega) only [go_sem] <;> (repeat (with_reducible refine And.intro ?_ ?_; focus first | omega | rfl | assumption | exact ⟨_, rfl, rfl⟩ | (simp; omega) | (simp; done)))
  refine call_a rfl (DS.refl _) (ACall.lend (k := (0, 1)) rfl (stay_plain rfl) (eqExpr_ok x0 x0 (by omega))) ?_
  simp -implicitDefEqProofs (disch := omega) only [go_sem, dec_true rfl, Bool.not_true]
  refine call_d rfl (markExpr_ok x0 1 0 1 0 _ _ rfl rfl rfl rfl ⟨by omega, by omega⟩) ?_
  simp -implicitDefEqProofs (disch := omega) only [go_sem, dec_neg]
  refine call_d rfl (ACall.lend (k := (0, 3)) rfl (stay_plain rfl) (eqStringS_ok L L (by omega))) ?_
  simp -implicitDefEqProofs (disch := omega) only [go_sem, dec_true rfl, Bool.not_true]
  refine call_d rfl (markStringS_ok L 1 0 3 0 [] _ _ rfl rfl ⟨by omega, by omega⟩) ?_
  simp -implicitDefEqProofs (disch := omega) only [go_sem]
  refine call_d rfl (heldStringS_ok L 1 0 3 0 [] _ _ rfl rfl ⟨by omega, by omega⟩) ?_
  simp -implicitDefEqProofs (disch := omega) only [go_sem, dec_neg, Bool.not_true]
  refine call_w (toExpr_ok x0 (by omega)) ?_
  simp -implicitDefEqProofs (disch := omega) only [go_sem] <;> (repeat (with_reducible refine And.intro ?_ ?_; focus first | omega | rfl | assumption | exact ⟨_, rfl, rfl⟩ | (simp; omega) | (simp; done)))
  refine call_w (implCalled_ok x0 (by omega) ) ?_
  simp -implicitDefEqProofs (disch := omega) only [go_sem] <;> (repeat (with_reducible refine And.intro ?_ ?_; focus first | omega | rfl | assumption | exact ⟨_, rfl, rfl⟩ | (simp; omega) | (simp; done)))
  rw [← hL]
  refine call_w (eqStringS_ok L L (by omega)) ?_
  simp -implicitDefEqProofs (disch := omega) only [go_sem, dec_true rfl, Bool.not_true]
  refine call_d rfl (heldStringS_ok L 1 0 3 0 [] _ _ rfl rfl ⟨by omega, by omega⟩) ?_
  simp -implicitDefEqProofs (disch := omega) only [go_sem, dec_neg, Bool.not_true]
end Go.Proofs.Ytnleocfkdidhoaa.fnExactCalledFunctions

namespace Go.Ab
theorem wt_pos {P : Program} {n : Nat} {t : TypeId} {ds : List D} (h : WT P n t ds) : ∃ m, n = m + 1 := by
  cases n with
  | zero => exact h.elim
  | succ m => exact ⟨m, rfl⟩
theorem wt_int {P : Program} {n : Nat} {t : TypeId} {k : IntKind} {ds : List D} (ht : P.underlying t = some (.int k)) (h : WT P n t ds) : ∃ x, ds = [.i k x] ∧ (Lit.int k x).wf = true := by
  obtain ⟨m, rfl⟩ := wt_pos h
  simp only [WT, ht] at h; exact h
theorem wt_string {P : Program} {n : Nat} {t : TypeId} {ds : List D} (ht : P.underlying t = some .string) (h : WT P n t ds) : ∃ l, ds = [.s l] := by
  obtain ⟨m, rfl⟩ := wt_pos h
  simp only [WT, ht] at h; exact ⟨h.choose, h.choose_spec.1⟩
theorem wt_slice {P : Program} {n : Nat} {t e : TypeId} {ds : List D} (ht : P.underlying t = some (.slice e)) (h : WT P n t ds) : ∃ es m, m < n ∧ ds = [.sl es] ∧ ∀ x ∈ es, WT P m e x := by
  obtain ⟨m, rfl⟩ := wt_pos h
  simp only [WT, ht] at h
  obtain ⟨es, h1, _, h2⟩ := h
  exact ⟨es, m, by omega, h1, fun x hx => (h2 x hx).2⟩
theorem wt_struct {P : Program} {n : Nat} {t : TypeId} {fs : Array Field} {ds : List D} (ht : P.underlying t = some (.struct fs)) (h : WT P n t ds) : ∃ m, m < n ∧ WTF P (WT P m) fs.toList ds := by
  obtain ⟨m, rfl⟩ := wt_pos h
  simp only [WT, ht] at h
  exact ⟨m, by omega, h⟩
theorem list_enc {α : Type} {enc : α → List D} : ∀ {es : List (List D)}, (∀ x ∈ es, ∃ m, x = enc m) → ∃ ms : List α, es = ms.map enc
  | [], _ => ⟨[], rfl⟩
  | e :: es, h => by
    obtain ⟨m, hm⟩ := h e (by simp)
    obtain ⟨ms, hms⟩ := list_enc (es := es) fun x hx => h x (by simp [hx])
    exact ⟨m :: ms, by rw [List.map_cons, ← hm, ← hms]⟩
theorem wtf_fit {P : Program} {W : TypeId → List D → Prop} (hW : ∀ t ds, W t ds → FitL ds) : ∀ (fs : List Field) (ds : List D), WTF P W fs ds → FitL ds
  | [], ds, h => by
    have h : ds = [] := h
    rw [h]; exact fitL_nil
  | f :: fs, ds, h => by
    obtain ⟨a, b, rfl, _, h1, h2⟩ := h
    exact fitL_append.2 ⟨hW _ _ h1, wtf_fit hW fs b h2⟩
theorem wt_fit {P : Program} : ∀ (n : Nat) (t : TypeId) (ds : List D), WT P n t ds → FitL ds
  | 0, t, ds, h => h.elim
  | n + 1, t, ds, h => by
    simp only [WT] at h
    split at h
    · obtain ⟨b, rfl⟩ := h; exact fitL_cons.2 ⟨.b _, fitL_nil⟩
    · obtain ⟨b, rfl, _⟩ := h; exact fitL_cons.2 ⟨.i _ _, fitL_nil⟩
    · obtain ⟨l, rfl, hl⟩ := h; exact fitL_cons.2 ⟨.s _ hl, fitL_nil⟩
    · obtain ⟨es, rfl, hl, hh⟩ := h
      exact fitL_cons.2 ⟨.sl _ hl fun e he d hd => wt_fit n _ e (hh e he).2 d hd, fitL_nil⟩
    · exact wtf_fit (wt_fit n) _ _ h
    · exact h.elim
end Go.Ab
namespace Go.Proofs.Ytnleocfkdidhoaa
open Go Go.Ab
theorem wt_Type : ∀ (n : Nat) (ds : List D), WT Try.prog n 37 ds → ∃ x : MType, ds = x.enc := by
  intro n
  induction n using Nat.strongRecOn with
  | _ n ih =>
    intro ds h
    obtain ⟨m, hm, h⟩ := wt_struct Try.underlying37 h
    simp only [WTF] at h
    obtain ⟨a0, r0, rfl, l0, h0, a1, r1, rfl, l1, h1, a2, r2, rfl, l2, h2, rfl⟩ := h
    obtain ⟨x0, rfl, _⟩ := wt_int Try.underlying3 h0
    obtain ⟨x1, rfl⟩ := wt_string Try.underlying9 h1
    obtain ⟨es2, m2, hm2, rfl, hs2⟩ := wt_slice Try.underlying35 h2
    obtain ⟨x2, rfl⟩ := list_enc (enc := MType.enc) fun y hy => ih m2 (by omega) y (hs2 y hy)
    refine ⟨MType.mk x0 x1 x2, ?_⟩
    rw [MType.enc_eq]
    simp [MType.fKind, MType.fName, MType.fArgs]
theorem wt_ExprArm : ∀ (n : Nat), (∀ ds : List D, WT Try.prog n 41 ds → ∃ x : MExpr, ds = x.enc) ∧ (∀ ds : List D, WT Try.prog n 104 ds → ∃ x : MArm, ds = x.enc) := by
  intro n
  induction n using Nat.strongRecOn with
  | _ n ih =>
    refine ⟨fun ds h => ?_, fun ds h => ?_⟩
    · obtain ⟨m, hm, h⟩ := wt_struct Try.underlying41 h
      simp only [WTF] at h
      obtain ⟨a0, r0, rfl, l0, h0, a1, r1, rfl, l1, h1, a2, r2, rfl, l2, h2, a3, r3, rfl, l3, h3, a4, r4, rfl, l4, h4, a5, r5, rfl, l5, h5, a6, r6, rfl, l6, h6, rfl⟩ := h
      obtain ⟨x0, rfl, _⟩ := wt_int Try.underlying3 h0
      obtain ⟨x1, rfl⟩ := wt_string Try.underlying9 h1
      obtain ⟨x2, rfl⟩ := wt_string Try.underlying9 h2
      obtain ⟨x3, rfl, _⟩ := wt_int Try.underlying3 h3
      obtain ⟨x4, rfl⟩ := wt_Type m a4 h4
      obtain ⟨es5, m5, hm5, rfl, hs5⟩ := wt_slice Try.underlying38 h5
      obtain ⟨x5, rfl⟩ := list_enc (enc := MExpr.enc) fun y hy => (ih m5 (by omega)).1 y (hs5 y hy)
      obtain ⟨es6, m6, hm6, rfl, hs6⟩ := wt_slice Try.underlying39 h6
      obtain ⟨x6, rfl⟩ := list_enc (enc := MArm.enc) fun y hy => (ih m6 (by omega)).2 y (hs6 y hy)
      refine ⟨MExpr.mk x0 x1 x2 x3 x4 x5 x6, ?_⟩
      rw [MExpr.enc_eq]
      simp [MExpr.fKind, MExpr.fTrait, MExpr.fName, MExpr.fN, MExpr.fType, MExpr.fArgs, MExpr.fArms]
    · obtain ⟨m, hm, h⟩ := wt_struct Try.underlying104 h
      simp only [WTF] at h
      obtain ⟨a0, r0, rfl, l0, h0, a1, r1, rfl, l1, h1, a2, r2, rfl, l2, h2, rfl⟩ := h
      obtain ⟨x0, rfl⟩ := wt_string Try.underlying9 h0
      obtain ⟨es1, m1, hm1, rfl, hs1⟩ := wt_slice Try.underlying33 h1
      obtain ⟨x1, rfl⟩ := list_enc (enc := encS) fun y hy => wt_string Try.underlying9 (hs1 y hy)
      obtain ⟨x2, rfl⟩ := (ih m (by omega)).1 a2 h2
      refine ⟨MArm.mk x0 x1 x2, ?_⟩
      rw [MArm.enc_eq]
      simp [MArm.fConstructor, MArm.fVars, MArm.fBody]
theorem wt_Expr (n : Nat) (ds : List D) (h : WT Try.prog n 41 ds) : ∃ x : MExpr, ds = x.enc := (wt_ExprArm n).1 ds h
end Go.Proofs.Ytnleocfkdidhoaa

