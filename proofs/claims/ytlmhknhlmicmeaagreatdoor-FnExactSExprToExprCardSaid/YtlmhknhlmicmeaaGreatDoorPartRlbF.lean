/-
  SEVERAL TEXTS IN ONE (merged by program): contracts and models, each with its own heading.
-/
import Derived.Test.YtlmhknhlmicmeaaGreatDoorPartRlbE
import Derived.Test.YtlmhknhlmicmeaaGreatDoorRows
import Derived.OpenShut
import Derived.LaidMore
import Derived.Stop.LaidErr
set_option linter.unusedSimpArgs false
set_option linter.unusedVariables false
set_option maxRecDepth 8000
set_option maxRecDepth 4000
namespace Go.Proofs.YtlmhknhlmicmeaaGreatDoor
open Go Go.Ab
theorem markExpr_all : ∀ n : Nat, (∀ xs : List MExpr, SizeOf.sizeOf xs < n → ∀ (k : Int) (l j r : Nat) (p : List (Nat × Nat)) (S : Store) (rs : List (List (List D))), getO S (l, j) = some (.xf rs) → atR rs r p = some (xs.map MExpr.enc) → 0 ≤ k ∧ k + mcRs (xs.map MExpr.enc) ≤ 4611686018427387904 → ACall Tryz.prog 114 [.c (.xp (l, j) r p), .c (.d (.i .i64 k))] S (fun res S' => res = .c (.d (.i .i64 (k + mcRs (xs.map MExpr.enc)))) ∧ S' = setO S (l, j) (.xf (updR rs r p (mkRs (xs.map MExpr.enc) k))))) ∧
    (∀ xs : List MArm, SizeOf.sizeOf xs < n → ∀ (k : Int) (l j r : Nat) (p : List (Nat × Nat)) (S : Store) (rs : List (List (List D))), getO S (l, j) = some (.xf rs) → atR rs r p = some (xs.map MArm.enc) → 0 ≤ k ∧ k + mcRs (xs.map MArm.enc) ≤ 4611686018427387904 → ACall Tryz.prog 115 [.c (.xp (l, j) r p), .c (.d (.i .i64 k))] S (fun res S' => res = .c (.d (.i .i64 (k + mcRs (xs.map MArm.enc)))) ∧ S' = setO S (l, j) (.xf (updR rs r p (mkRs (xs.map MArm.enc) k)))))
  | 0 => ⟨fun xs h => by omega, fun xs h => by omega⟩
  | n + 1 => by
    obtain ⟨ihExpr, ihArm⟩ := markExpr_all n
    refine ⟨fun xs hn k l j r p S rs hS hp hk => ?_, fun xs hn k l j r p S rs hS hp hk => ?_⟩
    · have hlen := len_mc (f := MExpr.enc) (fun x => by simp only [MExpr.enc_eq, MType.enc_eq, encS, encI, List.cons_append, List.nil_append, mcR, mcD]; omega) xs
      obtain ⟨rows, hr⟩ : ∃ rows, rows = xs.map MExpr.enc := ⟨_, rfl⟩
      have hl : rows.length = xs.length := by rw [hr, List.length_map]
      rw [← hr] at hp hk hlen ⊢
      have ht : ∀ x : Ab.Obj, getO (setO S (l, j) x) (l, j) = some x := fun x => getO_setO_eq _ _ _ _ hS
      have hA : ∀ new, atR (updR rs r p new) r p = some new := fun new => atR_updR hp
      have hU : ∀ a b, updR (updR rs r p a) r p b = updR rs r p b := fun a b => updR_updR hp
      refine acall_cw (rs := [.tmp 4]) Tryz.checked.mixed Tryz.func114 Tryz.ntmps114 rfl rfl rfl rfl rfl ?_
      simp -implicitDefEqProofs (disch := omega) only [go_sem]
      refine loop_at (ι := Nat) Tryz.checked.mixed rfl [0, 1, 5] (fun i => [.c (.xp (1 + l, j) r p), .c (.d (.i .i64 (k + mcRs (rows.take i)))), .c (.d (.i .i64 i))])
        (fun i => [] :: setO S (l, j) (.xf (updR rs r p (mkTo rows k i)))) (fun i => i ≤ xs.length) (fun i => xs.length - i) 0 ?_ ?_ (Nat.zero_le _) ?_
      · have z0 : k + ((mcRs (rows.take 0) : Nat) : Int) = k := by simp [mcRs]
        rw [z0]
        rfl
      · rw [mkTo_zero, updR_same hp, setO_self _ _ hS]
      intro i hi
      simp -implicitDefEqProofs (disch := omega) only [go_sem, ht, hA, mkTo_length, hl]
      with_reducible refine split2 (fun hb => ?_) (fun hb => ?_) <;> have h := hb <;> try simp only [wf_preprocess] at h
      · have hi : i < xs.length := by omega
        have hir : i < rows.length := by omega
        obtain ⟨x, hx⟩ : ∃ x, x = xs[i] := ⟨_, rfl⟩
        have e1 : rows[i] = [.i .i64 x.fKind, .s x.fTrait, .s x.fName, .i .i64 x.fN, .i .i64 x.fType.fKind, .s x.fType.fName, .sl (x.fType.fArgs.map MType.enc), .sl (x.fArgs.map MExpr.enc), .sl (x.fArms.map MArm.enc)] := by
          simp only [hr, List.getElem_map, ← hx]
          simp only [MExpr.enc_eq, MType.enc_eq, encS, encI, List.cons_append, List.nil_append]
        have hm := mcRs_take hir
        have hle := mcRs_le (rows := rows) (i := i + 1)
        rw [hm, e1] at hle
        rw [e1] at hm
        simp only [mcR, mcD] at hle hm
        have hK : k + ((mcRs (rows.take (i + 1)) : Nat) : Int) = k + ((mcRs (rows.take i) : Nat) : Int) + 1 + 1 + 1 + 1 + 1 + 1 + ((mcRs (x.fType.fArgs.map MType.enc) : Nat) : Int) + ((mcRs (x.fArgs.map MExpr.enc) : Nat) : Int) + ((mcRs (x.fArms.map MArm.enc) : Nat) : Int) := by rw [hm]; omega
        have e2 := mkTo_at (k := k) hir
        rw [e1] at e2
        have hC : ∀ row o, cellAt (mkAt rows k i row) i o = row[o]? := fun row o => mkAt_cell hir
        have hG : ∀ row, (mkAt rows k i row).getD i [] = row := fun row => mkAt_get hir
        simp -implicitDefEqProofs (disch := omega) only [go_sem, hb, ht, hA, hU, e2, hC, hG, mkAt_set, mkAt_length, hl, setO_twice, isSD]
        (repeat (with_reducible refine And.intro ?_ ?_; focus first | omega | rfl | assumption | exact ⟨_, rfl, rfl⟩ | (simp; omega) | (simp; done)))
        refine call_w (markText_ok (k + ((mcRs (rows.take i) : Nat) : Int) + 1) (by omega)) ?_
        simp -implicitDefEqProofs (disch := omega) only [go_sem, hb, ht, hA, hU, e2, hC, hG, mkAt_set, mkAt_length, hl, setO_twice, isSD]
        (repeat (with_reducible refine And.intro ?_ ?_; focus first | omega | rfl | assumption | exact ⟨_, rfl, rfl⟩ | (simp; omega) | (simp; done)))
        refine call_w (markText_ok (k + ((mcRs (rows.take i) : Nat) : Int) + 1 + 1) (by omega)) ?_
        simp -implicitDefEqProofs (disch := omega) only [go_sem, hb, ht, hA, hU, e2, hC, hG, mkAt_set, mkAt_length, hl, setO_twice, isSD]
        (repeat (with_reducible refine And.intro ?_ ?_; focus first | omega | rfl | assumption | exact ⟨_, rfl, rfl⟩ | (simp; omega) | (simp; done)))
        refine call_w (markText_ok (k + ((mcRs (rows.take i) : Nat) : Int) + 1 + 1 + 1 + 1 + 1) (by omega)) ?_
        simp -implicitDefEqProofs (disch := omega) only [go_sem, hb, ht, hA, hU, e2, hC, hG, mkAt_set, mkAt_length, hl, setO_twice, isSD]
        (repeat (with_reducible refine And.intro ?_ ?_; focus first | omega | rfl | assumption | exact ⟨_, rfl, rfl⟩ | (simp; omega) | (simp; done)))
        refine call_d rfl (sub_mk hS hp hir (by rfl) (fun S' rs' g1 g2 => markTypeS_ok x.fType.fArgs (k + ((mcRs (rows.take i) : Nat) : Int) + 1 + 1 + 1 + 1 + 1 + 1) (1 + l) j r _ S' rs' g1 g2 (by omega))) ?_
        simp -implicitDefEqProofs (disch := omega) only [go_sem, hb, ht, hA, hU, e2, hC, hG, mkAt_set, mkAt_length, hl, setO_twice, isSD]
        (repeat (with_reducible refine And.intro ?_ ?_; focus first | omega | rfl | assumption | exact ⟨_, rfl, rfl⟩ | (simp; omega) | (simp; done)))
        refine call_d rfl (sub_mk hS hp hir (by rfl) (fun S' rs' g1 g2 => ihExpr x.fArgs (by have := List.sizeOf_lt_of_mem (List.getElem_mem hi); rw [← hx] at this; have := MExpr.lt_Args x; omega) (k + ((mcRs (rows.take i) : Nat) : Int) + 1 + 1 + 1 + 1 + 1 + 1 + ((mcRs (x.fType.fArgs.map MType.enc) : Nat) : Int)) (1 + l) j r _ S' rs' g1 g2 (by omega))) ?_
        simp -implicitDefEqProofs (disch := omega) only [go_sem, hb, ht, hA, hU, e2, hC, hG, mkAt_set, mkAt_length, hl, setO_twice, isSD]
        (repeat (with_reducible refine And.intro ?_ ?_; focus first | omega | rfl | assumption | exact ⟨_, rfl, rfl⟩ | (simp; omega) | (simp; done)))
        refine call_d rfl (sub_mk hS hp hir (by rfl) (fun S' rs' g1 g2 => ihArm x.fArms (by have := List.sizeOf_lt_of_mem (List.getElem_mem hi); rw [← hx] at this; have := MExpr.lt_Arms x; omega) (k + ((mcRs (rows.take i) : Nat) : Int) + 1 + 1 + 1 + 1 + 1 + 1 + ((mcRs (x.fType.fArgs.map MType.enc) : Nat) : Int) + ((mcRs (x.fArgs.map MExpr.enc) : Nat) : Int)) (1 + l) j r _ S' rs' g1 g2 (by omega))) ?_
        simp -implicitDefEqProofs (disch := omega) only [go_sem, hb, ht, hA, hU, e2, hC, hG, mkAt_set, mkAt_length, hl, setO_twice, isSD]
        (repeat (with_reducible refine And.intro ?_ ?_; focus first | omega | rfl | assumption | exact ⟨_, rfl, rfl⟩ | (simp; omega) | (simp; done)))
        refine inv_at (i + 1) (by omega) (by rw [hK]; rfl) ?_ (by omega)
        have h3 := mkAt_to (k := k) hir
        rw [e1] at h3
        simp only [mkR, mkD] at h3
        rw [← h3]
        all_goals rfl
      · simp -implicitDefEqProofs (disch := omega) only [go_sem, hb]
        have hi : i = xs.length := by omega
        rw [mkTo_all (by omega), List.take_of_length_le (by omega)]
        all_goals (first | rfl | exact ⟨rfl, rfl⟩)
    · have hlen := len_mc (f := MArm.enc) (fun x => by simp only [MArm.enc_eq, MExpr.enc_eq, MType.enc_eq, encS, encI, List.cons_append, List.nil_append, mcR, mcD]; omega) xs
      obtain ⟨rows, hr⟩ : ∃ rows, rows = xs.map MArm.enc := ⟨_, rfl⟩
      have hl : rows.length = xs.length := by rw [hr, List.length_map]
      rw [← hr] at hp hk hlen ⊢
      have ht : ∀ x : Ab.Obj, getO (setO S (l, j) x) (l, j) = some x := fun x => getO_setO_eq _ _ _ _ hS
      have hA : ∀ new, atR (updR rs r p new) r p = some new := fun new => atR_updR hp
      have hU : ∀ a b, updR (updR rs r p a) r p b = updR rs r p b := fun a b => updR_updR hp
      refine acall_cw (rs := [.tmp 4]) Tryz.checked.mixed Tryz.func115 Tryz.ntmps115 rfl rfl rfl rfl rfl ?_
      simp -implicitDefEqProofs (disch := omega) only [go_sem]
      refine loop_at (ι := Nat) Tryz.checked.mixed rfl [0, 1, 5] (fun i => [.c (.xp (1 + l, j) r p), .c (.d (.i .i64 (k + mcRs (rows.take i)))), .c (.d (.i .i64 i))])
        (fun i => [] :: setO S (l, j) (.xf (updR rs r p (mkTo rows k i)))) (fun i => i ≤ xs.length) (fun i => xs.length - i) 0 ?_ ?_ (Nat.zero_le _) ?_
      · have z0 : k + ((mcRs (rows.take 0) : Nat) : Int) = k := by simp [mcRs]
        rw [z0]
        rfl
      · rw [mkTo_zero, updR_same hp, setO_self _ _ hS]
      intro i hi
      simp -implicitDefEqProofs (disch := omega) only [go_sem, ht, hA, mkTo_length, hl]
      with_reducible refine split2 (fun hb => ?_) (fun hb => ?_) <;> have h := hb <;> try simp only [wf_preprocess] at h
      · have hi : i < xs.length := by omega
        have hir : i < rows.length := by omega
        obtain ⟨x, hx⟩ : ∃ x, x = xs[i] := ⟨_, rfl⟩
        have e1 : rows[i] = [.s x.fConstructor, .sl (x.fVars.map encS), .i .i64 x.fBody.fKind, .s x.fBody.fTrait, .s x.fBody.fName, .i .i64 x.fBody.fN, .i .i64 x.fBody.fType.fKind, .s x.fBody.fType.fName, .sl (x.fBody.fType.fArgs.map MType.enc), .sl (x.fBody.fArgs.map MExpr.enc), .sl (x.fBody.fArms.map MArm.enc)] := by
          simp only [hr, List.getElem_map, ← hx]
          simp only [MArm.enc_eq, MExpr.enc_eq, MType.enc_eq, encS, encI, List.cons_append, List.nil_append]
        have hm := mcRs_take hir
        have hle := mcRs_le (rows := rows) (i := i + 1)
        rw [hm, e1] at hle
        rw [e1] at hm
        simp only [mcR, mcD] at hle hm
        have hK : k + ((mcRs (rows.take (i + 1)) : Nat) : Int) = k + ((mcRs (rows.take i) : Nat) : Int) + 1 + ((mcRs (x.fVars.map encS) : Nat) : Int) + 1 + 1 + 1 + 1 + 1 + 1 + ((mcRs (x.fBody.fType.fArgs.map MType.enc) : Nat) : Int) + ((mcRs (x.fBody.fArgs.map MExpr.enc) : Nat) : Int) + ((mcRs (x.fBody.fArms.map MArm.enc) : Nat) : Int) := by rw [hm]; omega
        have e2 := mkTo_at (k := k) hir
        rw [e1] at e2
        have hC : ∀ row o, cellAt (mkAt rows k i row) i o = row[o]? := fun row o => mkAt_cell hir
        have hG : ∀ row, (mkAt rows k i row).getD i [] = row := fun row => mkAt_get hir
        simp -implicitDefEqProofs (disch := omega) only [go_sem, hb, ht, hA, hU, e2, hC, hG, mkAt_set, mkAt_length, hl, setO_twice, isSD]
        (repeat (with_reducible refine And.intro ?_ ?_; focus first | omega | rfl | assumption | exact ⟨_, rfl, rfl⟩ | (simp; omega) | (simp; done)))
        refine call_w (markText_ok (k + ((mcRs (rows.take i) : Nat) : Int)) (by omega)) ?_
        simp -implicitDefEqProofs (disch := omega) only [go_sem, hb, ht, hA, hU, e2, hC, hG, mkAt_set, mkAt_length, hl, setO_twice, isSD]
        (repeat (with_reducible refine And.intro ?_ ?_; focus first | omega | rfl | assumption | exact ⟨_, rfl, rfl⟩ | (simp; omega) | (simp; done)))
        refine call_d rfl (sub_mk hS hp hir (by rfl) (fun S' rs' g1 g2 => markStringS_ok x.fVars (k + ((mcRs (rows.take i) : Nat) : Int) + 1) (1 + l) j r _ S' rs' g1 g2 (by omega))) ?_
        simp -implicitDefEqProofs (disch := omega) only [go_sem, hb, ht, hA, hU, e2, hC, hG, mkAt_set, mkAt_length, hl, setO_twice, isSD]
        (repeat (with_reducible refine And.intro ?_ ?_; focus first | omega | rfl | assumption | exact ⟨_, rfl, rfl⟩ | (simp; omega) | (simp; done)))
        refine call_w (markText_ok (k + ((mcRs (rows.take i) : Nat) : Int) + 1 + ((mcRs (x.fVars.map encS) : Nat) : Int) + 1) (by omega)) ?_
        simp -implicitDefEqProofs (disch := omega) only [go_sem, hb, ht, hA, hU, e2, hC, hG, mkAt_set, mkAt_length, hl, setO_twice, isSD]
        (repeat (with_reducible refine And.intro ?_ ?_; focus first | omega | rfl | assumption | exact ⟨_, rfl, rfl⟩ | (simp; omega) | (simp; done)))
        refine call_w (markText_ok (k + ((mcRs (rows.take i) : Nat) : Int) + 1 + ((mcRs (x.fVars.map encS) : Nat) : Int) + 1 + 1) (by omega)) ?_
        simp -implicitDefEqProofs (disch := omega) only [go_sem, hb, ht, hA, hU, e2, hC, hG, mkAt_set, mkAt_length, hl, setO_twice, isSD]
        (repeat (with_reducible refine And.intro ?_ ?_; focus first | omega | rfl | assumption | exact ⟨_, rfl, rfl⟩ | (simp; omega) | (simp; done)))
        refine call_w (markText_ok (k + ((mcRs (rows.take i) : Nat) : Int) + 1 + ((mcRs (x.fVars.map encS) : Nat) : Int) + 1 + 1 + 1 + 1 + 1) (by omega)) ?_
        simp -implicitDefEqProofs (disch := omega) only [go_sem, hb, ht, hA, hU, e2, hC, hG, mkAt_set, mkAt_length, hl, setO_twice, isSD]
        (repeat (with_reducible refine And.intro ?_ ?_; focus first | omega | rfl | assumption | exact ⟨_, rfl, rfl⟩ | (simp; omega) | (simp; done)))
        refine call_d rfl (sub_mk hS hp hir (by rfl) (fun S' rs' g1 g2 => markTypeS_ok x.fBody.fType.fArgs (k + ((mcRs (rows.take i) : Nat) : Int) + 1 + ((mcRs (x.fVars.map encS) : Nat) : Int) + 1 + 1 + 1 + 1 + 1 + 1) (1 + l) j r _ S' rs' g1 g2 (by omega))) ?_
        simp -implicitDefEqProofs (disch := omega) only [go_sem, hb, ht, hA, hU, e2, hC, hG, mkAt_set, mkAt_length, hl, setO_twice, isSD]
        (repeat (with_reducible refine And.intro ?_ ?_; focus first | omega | rfl | assumption | exact ⟨_, rfl, rfl⟩ | (simp; omega) | (simp; done)))
        refine call_d rfl (sub_mk hS hp hir (by rfl) (fun S' rs' g1 g2 => ihExpr x.fBody.fArgs (by have := List.sizeOf_lt_of_mem (List.getElem_mem hi); rw [← hx] at this; have := MArm.lt_Body x; have := MExpr.lt_Args x.fBody; omega) (k + ((mcRs (rows.take i) : Nat) : Int) + 1 + ((mcRs (x.fVars.map encS) : Nat) : Int) + 1 + 1 + 1 + 1 + 1 + 1 + ((mcRs (x.fBody.fType.fArgs.map MType.enc) : Nat) : Int)) (1 + l) j r _ S' rs' g1 g2 (by omega))) ?_
        simp -implicitDefEqProofs (disch := omega) only [go_sem, hb, ht, hA, hU, e2, hC, hG, mkAt_set, mkAt_length, hl, setO_twice, isSD]
        (repeat (with_reducible refine And.intro ?_ ?_; focus first | omega | rfl | assumption | exact ⟨_, rfl, rfl⟩ | (simp; omega) | (simp; done)))
        refine call_d rfl (sub_mk hS hp hir (by rfl) (fun S' rs' g1 g2 => ihArm x.fBody.fArms (by have := List.sizeOf_lt_of_mem (List.getElem_mem hi); rw [← hx] at this; have := MArm.lt_Body x; have := MExpr.lt_Arms x.fBody; omega) (k + ((mcRs (rows.take i) : Nat) : Int) + 1 + ((mcRs (x.fVars.map encS) : Nat) : Int) + 1 + 1 + 1 + 1 + 1 + 1 + ((mcRs (x.fBody.fType.fArgs.map MType.enc) : Nat) : Int) + ((mcRs (x.fBody.fArgs.map MExpr.enc) : Nat) : Int)) (1 + l) j r _ S' rs' g1 g2 (by omega))) ?_
        simp -implicitDefEqProofs (disch := omega) only [go_sem, hb, ht, hA, hU, e2, hC, hG, mkAt_set, mkAt_length, hl, setO_twice, isSD]
        (repeat (with_reducible refine And.intro ?_ ?_; focus first | omega | rfl | assumption | exact ⟨_, rfl, rfl⟩ | (simp; omega) | (simp; done)))
        refine inv_at (i + 1) (by omega) (by rw [hK]; rfl) ?_ (by omega)
        have h3 := mkAt_to (k := k) hir
        rw [e1] at h3
        simp only [mkR, mkD] at h3
        rw [← h3]
        all_goals rfl
      · simp -implicitDefEqProofs (disch := omega) only [go_sem, hb]
        have hi : i = xs.length := by omega
        rw [mkTo_all (by omega), List.take_of_length_le (by omega)]
        all_goals (first | rfl | exact ⟨rfl, rfl⟩)
theorem markExprS_ok (xs : List MExpr) : ∀ (k : Int) (l j r : Nat) (p : List (Nat × Nat)) (S : Store) (rs : List (List (List D))), getO S (l, j) = some (.xf rs) → atR rs r p = some (xs.map MExpr.enc) → 0 ≤ k ∧ k + mcRs (xs.map MExpr.enc) ≤ 4611686018427387904 → ACall Tryz.prog 114 [.c (.xp (l, j) r p), .c (.d (.i .i64 k))] S (fun res S' => res = .c (.d (.i .i64 (k + mcRs (xs.map MExpr.enc)))) ∧ S' = setO S (l, j) (.xf (updR rs r p (mkRs (xs.map MExpr.enc) k)))) := (markExpr_all _).1 xs (Nat.lt_succ_self _)
theorem markArmS_ok (xs : List MArm) : ∀ (k : Int) (l j r : Nat) (p : List (Nat × Nat)) (S : Store) (rs : List (List (List D))), getO S (l, j) = some (.xf rs) → atR rs r p = some (xs.map MArm.enc) → 0 ≤ k ∧ k + mcRs (xs.map MArm.enc) ≤ 4611686018427387904 → ACall Tryz.prog 115 [.c (.xp (l, j) r p), .c (.d (.i .i64 k))] S (fun res S' => res = .c (.d (.i .i64 (k + mcRs (xs.map MArm.enc)))) ∧ S' = setO S (l, j) (.xf (updR rs r p (mkRs (xs.map MArm.enc) k)))) := (markExpr_all _).2 xs (Nat.lt_succ_self _)
theorem markExpr_ok (x : MExpr) (k : Int) (l j b : Nat) (S : Store) (rs : List (List (List D))) (hS : getO S (l, j) = some (.xf rs)) (h6 : atR rs (b + 6) [] = some (x.fType.fArgs.map MType.enc)) (h7 : atR rs (b + 7) [] = some (x.fArgs.map MExpr.enc)) (h8 : atR rs (b + 8) [] = some (x.fArms.map MArm.enc)) (hk : 0 ≤ k ∧ k + ((mcRs (x.fType.fArgs.map MType.enc) : Nat) : Int) + ((mcRs (x.fArgs.map MExpr.enc) : Nat) : Int) + ((mcRs (x.fArms.map MArm.enc) : Nat) : Int) ≤ 4611686018427387904) : ACall Tryz.prog 30 [.agg [.d (.i .i64 x.fKind), .d (.s x.fTrait), .d (.s x.fName), .d (.i .i64 x.fN), .d (.i .i64 x.fType.fKind), .d (.s x.fType.fName), .xp (l, j) (b + 6) [], .xp (l, j) (b + 7) [], .xp (l, j) (b + 8) []], .c (.d (.i .i64 k))] S (fun res S' => res = .c (.d (.i .i64 (k + ((mcRs (x.fType.fArgs.map MType.enc) : Nat) : Int) + ((mcRs (x.fArgs.map MExpr.enc) : Nat) : Int) + ((mcRs (x.fArms.map MArm.enc) : Nat) : Int)))) ∧ S' = setO S (l, j) (.xf (updR (updR (updR (rs) (b + 6) [] (mkRs (x.fType.fArgs.map MType.enc) (k))) (b + 7) [] (mkRs (x.fArgs.map MExpr.enc) (k + ((mcRs (x.fType.fArgs.map MType.enc) : Nat) : Int)))) (b + 8) [] (mkRs (x.fArms.map MArm.enc) (k + ((mcRs (x.fType.fArgs.map MType.enc) : Nat) : Int) + ((mcRs (x.fArgs.map MExpr.enc) : Nat) : Int)))))) := by
  have ht : ∀ x : Ab.Obj, getO (setO S (l, j) x) (l, j) = some x := fun x => getO_setO_eq _ _ _ _ hS
  refine acall_cw (rs := [.tmp 4]) Tryz.checked.mixed Tryz.func30 Tryz.ntmps30 rfl rfl rfl rfl rfl ?_
  simp -implicitDefEqProofs (disch := omega) only [go_sem]
  refine call_d rfl (markType_ok x.fType (k) (1 + l) j (b + 4) _ _ (by rw [getO_up1]; first | exact hS | exact ht _) (by first | assumption | (simp (disch := omega) only [ne_eq, atR_ne]; assumption)) (by omega)) ?_
  simp -implicitDefEqProofs (disch := omega) only [go_sem, setO_twice, setO_up1, Nat.add_assoc, Nat.reduceAdd]
  refine call_d rfl (markExprS_ok x.fArgs (k + ((mcRs (x.fType.fArgs.map MType.enc) : Nat) : Int)) (1 + l) j (b + 7) [] _ _ (by rw [getO_up1]; first | exact hS | exact ht _) (by first | assumption | (simp (disch := omega) only [ne_eq, atR_ne]; assumption)) (by omega)) ?_
  simp -implicitDefEqProofs (disch := omega) only [go_sem, setO_twice, setO_up1]
  refine call_d rfl (markArmS_ok x.fArms (k + ((mcRs (x.fType.fArgs.map MType.enc) : Nat) : Int) + ((mcRs (x.fArgs.map MExpr.enc) : Nat) : Int)) (1 + l) j (b + 8) [] _ _ (by rw [getO_up1]; first | exact hS | exact ht _) (by first | assumption | (simp (disch := omega) only [ne_eq, atR_ne]; assumption)) (by omega)) ?_
  simp -implicitDefEqProofs (disch := omega) only [go_sem, setO_twice, setO_up1]
  try exact ⟨rfl, rfl⟩
theorem heldExpr_all : ∀ n : Nat, (∀ xs : List MExpr, SizeOf.sizeOf xs < n → ∀ (k : Int) (l j r : Nat) (p : List (Nat × Nat)) (S : Store) (rs : List (List (List D))), getO S (l, j) = some (.xf rs) → atR rs r p = some (mkRs (xs.map MExpr.enc) k) → 0 ≤ k ∧ k + mcRs (xs.map MExpr.enc) ≤ 4611686018427387904 → ACall Tryz.prog 117 [.c (.xp (l, j) r p), .c (.d (.i .i64 k))] S (fun res S' => res = .c (.d (.i .i64 (k + mcRs (xs.map MExpr.enc)))) ∧ S' = S)) ∧
    (∀ xs : List MArm, SizeOf.sizeOf xs < n → ∀ (k : Int) (l j r : Nat) (p : List (Nat × Nat)) (S : Store) (rs : List (List (List D))), getO S (l, j) = some (.xf rs) → atR rs r p = some (mkRs (xs.map MArm.enc) k) → 0 ≤ k ∧ k + mcRs (xs.map MArm.enc) ≤ 4611686018427387904 → ACall Tryz.prog 118 [.c (.xp (l, j) r p), .c (.d (.i .i64 k))] S (fun res S' => res = .c (.d (.i .i64 (k + mcRs (xs.map MArm.enc)))) ∧ S' = S))
  | 0 => ⟨fun xs h => by omega, fun xs h => by omega⟩
  | n + 1 => by
    obtain ⟨ihExpr, ihArm⟩ := heldExpr_all n
    refine ⟨fun xs hn k l j r p S rs hS hp hk => ?_, fun xs hn k l j r p S rs hS hp hk => ?_⟩
    · have hlen := len_mc (f := MExpr.enc) (fun x => by simp only [MExpr.enc_eq, MType.enc_eq, encS, encI, List.cons_append, List.nil_append, mcR, mcD]; omega) xs
      obtain ⟨rows, hr⟩ : ∃ rows, rows = xs.map MExpr.enc := ⟨_, rfl⟩
      have hl : rows.length = xs.length := by rw [hr, List.length_map]
      rw [← hr] at hp hk hlen ⊢
      refine acall_cw (rs := [.tmp 4]) Tryz.checked.mixed Tryz.func117 Tryz.ntmps117 rfl rfl rfl rfl rfl ?_
      simp -implicitDefEqProofs (disch := omega) only [go_sem]
      refine loop_at (ι := Nat) Tryz.checked.mixed rfl [0, 1, 5] (fun i => [.c (.xp (1 + l, j) r p), .c (.d (.i .i64 (k + mcRs (rows.take i)))), .c (.d (.i .i64 i))])
        (fun i => [] :: S) (fun i => i ≤ xs.length) (fun i => xs.length - i) 0 ?_ rfl (Nat.zero_le _) ?_
      · have z0 : k + ((mcRs (rows.take 0) : Nat) : Int) = k := by simp [mcRs]
        rw [z0]
        rfl
      intro i hi
      simp -implicitDefEqProofs (disch := omega) only [go_sem, hS, hp, mkRs_length, hl]
      with_reducible refine split2 (fun hb => ?_) (fun hb => ?_) <;> have h := hb <;> try simp only [wf_preprocess] at h
      · have hi : i < xs.length := by omega
        have hir : i < rows.length := by omega
        obtain ⟨x, hx⟩ : ∃ x, x = xs[i] := ⟨_, rfl⟩
        have e1 : rows[i] = [.i .i64 x.fKind, .s x.fTrait, .s x.fName, .i .i64 x.fN, .i .i64 x.fType.fKind, .s x.fType.fName, .sl (x.fType.fArgs.map MType.enc), .sl (x.fArgs.map MExpr.enc), .sl (x.fArms.map MArm.enc)] := by
          simp only [hr, List.getElem_map, ← hx]
          simp only [MExpr.enc_eq, MType.enc_eq, encS, encI, List.cons_append, List.nil_append]
        have hm := mcRs_take hir
        have hle := mcRs_le (rows := rows) (i := i + 1)
        rw [hm, e1] at hle
        rw [e1] at hm
        simp only [mcR, mcD] at hle hm
        have hK : k + ((mcRs (rows.take (i + 1)) : Nat) : Int) = k + ((mcRs (rows.take i) : Nat) : Int) + 1 + 1 + 1 + 1 + 1 + 1 + ((mcRs (x.fType.fArgs.map MType.enc) : Nat) : Int) + ((mcRs (x.fArgs.map MExpr.enc) : Nat) : Int) + ((mcRs (x.fArms.map MArm.enc) : Nat) : Int) := by rw [hm]; omega
        have e2 : mkR rows[i] (k + ((mcRs (rows.take i) : Nat) : Int)) = [.i .i64 (k + ((mcRs (rows.take i) : Nat) : Int)), .s (mtext (k + ((mcRs (rows.take i) : Nat) : Int) + 1)), .s (mtext (k + ((mcRs (rows.take i) : Nat) : Int) + 1 + 1)), .i .i64 (k + ((mcRs (rows.take i) : Nat) : Int) + 1 + 1 + 1), .i .i64 (k + ((mcRs (rows.take i) : Nat) : Int) + 1 + 1 + 1 + 1), .s (mtext (k + ((mcRs (rows.take i) : Nat) : Int) + 1 + 1 + 1 + 1 + 1)), .sl (mkRs (x.fType.fArgs.map MType.enc) (k + ((mcRs (rows.take i) : Nat) : Int) + 1 + 1 + 1 + 1 + 1 + 1)), .sl (mkRs (x.fArgs.map MExpr.enc) (k + ((mcRs (rows.take i) : Nat) : Int) + 1 + 1 + 1 + 1 + 1 + 1 + ((mcRs (x.fType.fArgs.map MType.enc) : Nat) : Int))), .sl (mkRs (x.fArms.map MArm.enc) (k + ((mcRs (rows.take i) : Nat) : Int) + 1 + 1 + 1 + 1 + 1 + 1 + ((mcRs (x.fType.fArgs.map MType.enc) : Nat) : Int) + ((mcRs (x.fArgs.map MExpr.enc) : Nat) : Int)))] := by
          rw [e1]
          simp only [mkR, mkD]
          all_goals rfl
        have hC : ∀ o, cellAt (mkRs rows k) i o = ([.i .i64 (k + ((mcRs (rows.take i) : Nat) : Int)), .s (mtext (k + ((mcRs (rows.take i) : Nat) : Int) + 1)), .s (mtext (k + ((mcRs (rows.take i) : Nat) : Int) + 1 + 1)), .i .i64 (k + ((mcRs (rows.take i) : Nat) : Int) + 1 + 1 + 1), .i .i64 (k + ((mcRs (rows.take i) : Nat) : Int) + 1 + 1 + 1 + 1), .s (mtext (k + ((mcRs (rows.take i) : Nat) : Int) + 1 + 1 + 1 + 1 + 1)), .sl (mkRs (x.fType.fArgs.map MType.enc) (k + ((mcRs (rows.take i) : Nat) : Int) + 1 + 1 + 1 + 1 + 1 + 1)), .sl (mkRs (x.fArgs.map MExpr.enc) (k + ((mcRs (rows.take i) : Nat) : Int) + 1 + 1 + 1 + 1 + 1 + 1 + ((mcRs (x.fType.fArgs.map MType.enc) : Nat) : Int))), .sl (mkRs (x.fArms.map MArm.enc) (k + ((mcRs (rows.take i) : Nat) : Int) + 1 + 1 + 1 + 1 + 1 + 1 + ((mcRs (x.fType.fArgs.map MType.enc) : Nat) : Int) + ((mcRs (x.fArgs.map MExpr.enc) : Nat) : Int)))] : List D)[o]? := fun o => by
          have h1 : (mkRs rows k)[i]? = some (mkR rows[i] (k + ((mcRs (rows.take i) : Nat) : Int))) := by
            have h2 := mkRs_get (k := k) hir
            have h3 : i < (mkRs rows k).length := by rw [mkRs_length]; exact hir
            rw [List.getD_eq_getElem?_getD, List.getElem?_eq_getElem h3, Option.getD_some] at h2
            rw [List.getElem?_eq_getElem h3, h2]
          unfold cellAt
          rw [h1, Option.bind_some, e2]
        have hG := mkRs_get (k := k) hir
        rw [e2] at hG
        simp -implicitDefEqProofs (disch := omega) only [go_sem, hb, hS, hp, hC, hG, mkRs_length, hl, isSD]
        (repeat (with_reducible refine And.intro ?_ ?_; focus first | omega | rfl | assumption | exact ⟨_, rfl, rfl⟩ | (simp; omega) | (simp; done)))
        refine call_w (markText_ok (k + ((mcRs (rows.take i) : Nat) : Int) + 1) (by omega)) ?_
        simp -implicitDefEqProofs (disch := omega) only [go_sem, hb, hS, hp, hC, hG, mkRs_length, hl, isSD]
        (repeat (with_reducible refine And.intro ?_ ?_; focus first | omega | rfl | assumption | exact ⟨_, rfl, rfl⟩ | (simp; omega) | (simp; done)))
        refine call_w (markText_ok (k + ((mcRs (rows.take i) : Nat) : Int) + 1 + 1) (by omega)) ?_
        simp -implicitDefEqProofs (disch := omega) only [go_sem, hb, hS, hp, hC, hG, mkRs_length, hl, isSD]
        (repeat (with_reducible refine And.intro ?_ ?_; focus first | omega | rfl | assumption | exact ⟨_, rfl, rfl⟩ | (simp; omega) | (simp; done)))
        refine call_w (markText_ok (k + ((mcRs (rows.take i) : Nat) : Int) + 1 + 1 + 1 + 1 + 1) (by omega)) ?_
        simp -implicitDefEqProofs (disch := omega) only [go_sem, hb, hS, hp, hC, hG, mkRs_length, hl, isSD]
        (repeat (with_reducible refine And.intro ?_ ?_; focus first | omega | rfl | assumption | exact ⟨_, rfl, rfl⟩ | (simp; omega) | (simp; done)))
        refine call_d rfl (heldTypeS_ok x.fType.fArgs (k + ((mcRs (rows.take i) : Nat) : Int) + 1 + 1 + 1 + 1 + 1 + 1) (1 + l) j r _ _ _ (by rw [getO_up1]; exact hS) (atR_snoc hp (by rw [hC]; rfl)) (by omega)) ?_
        simp -implicitDefEqProofs (disch := omega) only [go_sem, hb, hS, hp, hC, hG, mkRs_length, hl, isSD, dec_neg]
        (repeat (with_reducible refine And.intro ?_ ?_; focus first | omega | rfl | assumption | exact ⟨_, rfl, rfl⟩ | (simp; omega) | (simp; done)))
        refine call_d rfl (ihExpr x.fArgs (by have := List.sizeOf_lt_of_mem (List.getElem_mem hi); rw [← hx] at this; have := MExpr.lt_Args x; omega) (k + ((mcRs (rows.take i) : Nat) : Int) + 1 + 1 + 1 + 1 + 1 + 1 + ((mcRs (x.fType.fArgs.map MType.enc) : Nat) : Int)) (1 + l) j r _ _ _ (by rw [getO_up1]; exact hS) (atR_snoc hp (by rw [hC]; rfl)) (by omega)) ?_
        simp -implicitDefEqProofs (disch := omega) only [go_sem, hb, hS, hp, hC, hG, mkRs_length, hl, isSD, dec_neg]
        (repeat (with_reducible refine And.intro ?_ ?_; focus first | omega | rfl | assumption | exact ⟨_, rfl, rfl⟩ | (simp; omega) | (simp; done)))
        refine call_d rfl (ihArm x.fArms (by have := List.sizeOf_lt_of_mem (List.getElem_mem hi); rw [← hx] at this; have := MExpr.lt_Arms x; omega) (k + ((mcRs (rows.take i) : Nat) : Int) + 1 + 1 + 1 + 1 + 1 + 1 + ((mcRs (x.fType.fArgs.map MType.enc) : Nat) : Int) + ((mcRs (x.fArgs.map MExpr.enc) : Nat) : Int)) (1 + l) j r _ _ _ (by rw [getO_up1]; exact hS) (atR_snoc hp (by rw [hC]; rfl)) (by omega)) ?_
        simp -implicitDefEqProofs (disch := omega) only [go_sem, hb, hS, hp, hC, hG, mkRs_length, hl, isSD, dec_neg]
        (repeat (with_reducible refine And.intro ?_ ?_; focus first | omega | rfl | assumption | exact ⟨_, rfl, rfl⟩ | (simp; omega) | (simp; done)))
        refine inv_at (i + 1) (by omega) (by rw [hK]; rfl) rfl (by omega)
      · simp -implicitDefEqProofs (disch := omega) only [go_sem, hb]
        have hi : i = xs.length := by omega
        rw [List.take_of_length_le (by omega)]
        all_goals (first | rfl | exact ⟨rfl, rfl⟩)
    · have hlen := len_mc (f := MArm.enc) (fun x => by simp only [MArm.enc_eq, MExpr.enc_eq, MType.enc_eq, encS, encI, List.cons_append, List.nil_append, mcR, mcD]; omega) xs
      obtain ⟨rows, hr⟩ : ∃ rows, rows = xs.map MArm.enc := ⟨_, rfl⟩
      have hl : rows.length = xs.length := by rw [hr, List.length_map]
      rw [← hr] at hp hk hlen ⊢
      refine acall_cw (rs := [.tmp 4]) Tryz.checked.mixed Tryz.func118 Tryz.ntmps118 rfl rfl rfl rfl rfl ?_
      simp -implicitDefEqProofs (disch := omega) only [go_sem]
      refine loop_at (ι := Nat) Tryz.checked.mixed rfl [0, 1, 5] (fun i => [.c (.xp (1 + l, j) r p), .c (.d (.i .i64 (k + mcRs (rows.take i)))), .c (.d (.i .i64 i))])
        (fun i => [] :: S) (fun i => i ≤ xs.length) (fun i => xs.length - i) 0 ?_ rfl (Nat.zero_le _) ?_
      · have z0 : k + ((mcRs (rows.take 0) : Nat) : Int) = k := by simp [mcRs]
        rw [z0]
        rfl
      intro i hi
      simp -implicitDefEqProofs (disch := omega) only [go_sem, hS, hp, mkRs_length, hl]
      with_reducible refine split2 (fun hb => ?_) (fun hb => ?_) <;> have h := hb <;> try simp only [wf_preprocess] at h
      · have hi : i < xs.length := by omega
        have hir : i < rows.length := by omega
        obtain ⟨x, hx⟩ : ∃ x, x = xs[i] := ⟨_, rfl⟩
        have e1 : rows[i] = [.s x.fConstructor, .sl (x.fVars.map encS), .i .i64 x.fBody.fKind, .s x.fBody.fTrait, .s x.fBody.fName, .i .i64 x.fBody.fN, .i .i64 x.fBody.fType.fKind, .s x.fBody.fType.fName, .sl (x.fBody.fType.fArgs.map MType.enc), .sl (x.fBody.fArgs.map MExpr.enc), .sl (x.fBody.fArms.map MArm.enc)] := by
          simp only [hr, List.getElem_map, ← hx]
          simp only [MArm.enc_eq, MExpr.enc_eq, MType.enc_eq, encS, encI, List.cons_append, List.nil_append]
        have hm := mcRs_take hir
        have hle := mcRs_le (rows := rows) (i := i + 1)
        rw [hm, e1] at hle
        rw [e1] at hm
        simp only [mcR, mcD] at hle hm
        have hK : k + ((mcRs (rows.take (i + 1)) : Nat) : Int) = k + ((mcRs (rows.take i) : Nat) : Int) + 1 + ((mcRs (x.fVars.map encS) : Nat) : Int) + 1 + 1 + 1 + 1 + 1 + 1 + ((mcRs (x.fBody.fType.fArgs.map MType.enc) : Nat) : Int) + ((mcRs (x.fBody.fArgs.map MExpr.enc) : Nat) : Int) + ((mcRs (x.fBody.fArms.map MArm.enc) : Nat) : Int) := by rw [hm]; omega
        have e2 : mkR rows[i] (k + ((mcRs (rows.take i) : Nat) : Int)) = [.s (mtext (k + ((mcRs (rows.take i) : Nat) : Int))), .sl (mkRs (x.fVars.map encS) (k + ((mcRs (rows.take i) : Nat) : Int) + 1)), .i .i64 (k + ((mcRs (rows.take i) : Nat) : Int) + 1 + ((mcRs (x.fVars.map encS) : Nat) : Int)), .s (mtext (k + ((mcRs (rows.take i) : Nat) : Int) + 1 + ((mcRs (x.fVars.map encS) : Nat) : Int) + 1)), .s (mtext (k + ((mcRs (rows.take i) : Nat) : Int) + 1 + ((mcRs (x.fVars.map encS) : Nat) : Int) + 1 + 1)), .i .i64 (k + ((mcRs (rows.take i) : Nat) : Int) + 1 + ((mcRs (x.fVars.map encS) : Nat) : Int) + 1 + 1 + 1), .i .i64 (k + ((mcRs (rows.take i) : Nat) : Int) + 1 + ((mcRs (x.fVars.map encS) : Nat) : Int) + 1 + 1 + 1 + 1), .s (mtext (k + ((mcRs (rows.take i) : Nat) : Int) + 1 + ((mcRs (x.fVars.map encS) : Nat) : Int) + 1 + 1 + 1 + 1 + 1)), .sl (mkRs (x.fBody.fType.fArgs.map MType.enc) (k + ((mcRs (rows.take i) : Nat) : Int) + 1 + ((mcRs (x.fVars.map encS) : Nat) : Int) + 1 + 1 + 1 + 1 + 1 + 1)), .sl (mkRs (x.fBody.fArgs.map MExpr.enc) (k + ((mcRs (rows.take i) : Nat) : Int) + 1 + ((mcRs (x.fVars.map encS) : Nat) : Int) + 1 + 1 + 1 + 1 + 1 + 1 + ((mcRs (x.fBody.fType.fArgs.map MType.enc) : Nat) : Int))), .sl (mkRs (x.fBody.fArms.map MArm.enc) (k + ((mcRs (rows.take i) : Nat) : Int) + 1 + ((mcRs (x.fVars.map encS) : Nat) : Int) + 1 + 1 + 1 + 1 + 1 + 1 + ((mcRs (x.fBody.fType.fArgs.map MType.enc) : Nat) : Int) + ((mcRs (x.fBody.fArgs.map MExpr.enc) : Nat) : Int)))] := by
          rw [e1]
          simp only [mkR, mkD]
          all_goals rfl
        have hC : ∀ o, cellAt (mkRs rows k) i o = ([.s (mtext (k + ((mcRs (rows.take i) : Nat) : Int))), .sl (mkRs (x.fVars.map encS) (k + ((mcRs (rows.take i) : Nat) : Int) + 1)), .i .i64 (k + ((mcRs (rows.take i) : Nat) : Int) + 1 + ((mcRs (x.fVars.map encS) : Nat) : Int)), .s (mtext (k + ((mcRs (rows.take i) : Nat) : Int) + 1 + ((mcRs (x.fVars.map encS) : Nat) : Int) + 1)), .s (mtext (k + ((mcRs (rows.take i) : Nat) : Int) + 1 + ((mcRs (x.fVars.map encS) : Nat) : Int) + 1 + 1)), .i .i64 (k + ((mcRs (rows.take i) : Nat) : Int) + 1 + ((mcRs (x.fVars.map encS) : Nat) : Int) + 1 + 1 + 1), .i .i64 (k + ((mcRs (rows.take i) : Nat) : Int) + 1 + ((mcRs (x.fVars.map encS) : Nat) : Int) + 1 + 1 + 1 + 1), .s (mtext (k + ((mcRs (rows.take i) : Nat) : Int) + 1 + ((mcRs (x.fVars.map encS) : Nat) : Int) + 1 + 1 + 1 + 1 + 1)), .sl (mkRs (x.fBody.fType.fArgs.map MType.enc) (k + ((mcRs (rows.take i) : Nat) : Int) + 1 + ((mcRs (x.fVars.map encS) : Nat) : Int) + 1 + 1 + 1 + 1 + 1 + 1)), .sl (mkRs (x.fBody.fArgs.map MExpr.enc) (k + ((mcRs (rows.take i) : Nat) : Int) + 1 + ((mcRs (x.fVars.map encS) : Nat) : Int) + 1 + 1 + 1 + 1 + 1 + 1 + ((mcRs (x.fBody.fType.fArgs.map MType.enc) : Nat) : Int))), .sl (mkRs (x.fBody.fArms.map MArm.enc) (k + ((mcRs (rows.take i) : Nat) : Int) + 1 + ((mcRs (x.fVars.map encS) : Nat) : Int) + 1 + 1 + 1 + 1 + 1 + 1 + ((mcRs (x.fBody.fType.fArgs.map MType.enc) : Nat) : Int) + ((mcRs (x.fBody.fArgs.map MExpr.enc) : Nat) : Int)))] : List D)[o]? := fun o => by
          have h1 : (mkRs rows k)[i]? = some (mkR rows[i] (k + ((mcRs (rows.take i) : Nat) : Int))) := by
            have h2 := mkRs_get (k := k) hir
            have h3 : i < (mkRs rows k).length := by rw [mkRs_length]; exact hir
            rw [List.getD_eq_getElem?_getD, List.getElem?_eq_getElem h3, Option.getD_some] at h2
            rw [List.getElem?_eq_getElem h3, h2]
          unfold cellAt
          rw [h1, Option.bind_some, e2]
        have hG := mkRs_get (k := k) hir
        rw [e2] at hG
        simp -implicitDefEqProofs (disch := omega) only [go_sem, hb, hS, hp, hC, hG, mkRs_length, hl, isSD]
        (repeat (with_reducible refine And.intro ?_ ?_; focus first | omega | rfl | assumption | exact ⟨_, rfl, rfl⟩ | (simp; omega) | (simp; done)))
        refine call_w (markText_ok (k + ((mcRs (rows.take i) : Nat) : Int)) (by omega)) ?_
        simp -implicitDefEqProofs (disch := omega) only [go_sem, hb, hS, hp, hC, hG, mkRs_length, hl, isSD]
        (repeat (with_reducible refine And.intro ?_ ?_; focus first | omega | rfl | assumption | exact ⟨_, rfl, rfl⟩ | (simp; omega) | (simp; done)))
        refine call_d rfl (heldStringS_ok x.fVars (k + ((mcRs (rows.take i) : Nat) : Int) + 1) (1 + l) j r _ _ _ (by rw [getO_up1]; exact hS) (atR_snoc hp (by rw [hC]; rfl)) (by omega)) ?_
        simp -implicitDefEqProofs (disch := omega) only [go_sem, hb, hS, hp, hC, hG, mkRs_length, hl, isSD, dec_neg]
        (repeat (with_reducible refine And.intro ?_ ?_; focus first | omega | rfl | assumption | exact ⟨_, rfl, rfl⟩ | (simp; omega) | (simp; done)))
        refine call_w (markText_ok (k + ((mcRs (rows.take i) : Nat) : Int) + 1 + ((mcRs (x.fVars.map encS) : Nat) : Int) + 1) (by omega)) ?_
        simp -implicitDefEqProofs (disch := omega) only [go_sem, hb, hS, hp, hC, hG, mkRs_length, hl, isSD]
        (repeat (with_reducible refine And.intro ?_ ?_; focus first | omega | rfl | assumption | exact ⟨_, rfl, rfl⟩ | (simp; omega) | (simp; done)))
        refine call_w (markText_ok (k + ((mcRs (rows.take i) : Nat) : Int) + 1 + ((mcRs (x.fVars.map encS) : Nat) : Int) + 1 + 1) (by omega)) ?_
        simp -implicitDefEqProofs (disch := omega) only [go_sem, hb, hS, hp, hC, hG, mkRs_length, hl, isSD]
        (repeat (with_reducible refine And.intro ?_ ?_; focus first | omega | rfl | assumption | exact ⟨_, rfl, rfl⟩ | (simp; omega) | (simp; done)))
        refine call_w (markText_ok (k + ((mcRs (rows.take i) : Nat) : Int) + 1 + ((mcRs (x.fVars.map encS) : Nat) : Int) + 1 + 1 + 1 + 1 + 1) (by omega)) ?_
        simp -implicitDefEqProofs (disch := omega) only [go_sem, hb, hS, hp, hC, hG, mkRs_length, hl, isSD]
        (repeat (with_reducible refine And.intro ?_ ?_; focus first | omega | rfl | assumption | exact ⟨_, rfl, rfl⟩ | (simp; omega) | (simp; done)))
        refine call_d rfl (heldTypeS_ok x.fBody.fType.fArgs (k + ((mcRs (rows.take i) : Nat) : Int) + 1 + ((mcRs (x.fVars.map encS) : Nat) : Int) + 1 + 1 + 1 + 1 + 1 + 1) (1 + l) j r _ _ _ (by rw [getO_up1]; exact hS) (atR_snoc hp (by rw [hC]; rfl)) (by omega)) ?_
        simp -implicitDefEqProofs (disch := omega) only [go_sem, hb, hS, hp, hC, hG, mkRs_length, hl, isSD, dec_neg]
        (repeat (with_reducible refine And.intro ?_ ?_; focus first | omega | rfl | assumption | exact ⟨_, rfl, rfl⟩ | (simp; omega) | (simp; done)))
        refine call_d rfl (ihExpr x.fBody.fArgs (by have := List.sizeOf_lt_of_mem (List.getElem_mem hi); rw [← hx] at this; have := MArm.lt_Body x; have := MExpr.lt_Args x.fBody; omega) (k + ((mcRs (rows.take i) : Nat) : Int) + 1 + ((mcRs (x.fVars.map encS) : Nat) : Int) + 1 + 1 + 1 + 1 + 1 + 1 + ((mcRs (x.fBody.fType.fArgs.map MType.enc) : Nat) : Int)) (1 + l) j r _ _ _ (by rw [getO_up1]; exact hS) (atR_snoc hp (by rw [hC]; rfl)) (by omega)) ?_
        simp -implicitDefEqProofs (disch := omega) only [go_sem, hb, hS, hp, hC, hG, mkRs_length, hl, isSD, dec_neg]
        (repeat (with_reducible refine And.intro ?_ ?_; focus first | omega | rfl | assumption | exact ⟨_, rfl, rfl⟩ | (simp; omega) | (simp; done)))
        refine call_d rfl (ihArm x.fBody.fArms (by have := List.sizeOf_lt_of_mem (List.getElem_mem hi); rw [← hx] at this; have := MArm.lt_Body x; have := MExpr.lt_Arms x.fBody; omega) (k + ((mcRs (rows.take i) : Nat) : Int) + 1 + ((mcRs (x.fVars.map encS) : Nat) : Int) + 1 + 1 + 1 + 1 + 1 + 1 + ((mcRs (x.fBody.fType.fArgs.map MType.enc) : Nat) : Int) + ((mcRs (x.fBody.fArgs.map MExpr.enc) : Nat) : Int)) (1 + l) j r _ _ _ (by rw [getO_up1]; exact hS) (atR_snoc hp (by rw [hC]; rfl)) (by omega)) ?_
        simp -implicitDefEqProofs (disch := omega) only [go_sem, hb, hS, hp, hC, hG, mkRs_length, hl, isSD, dec_neg]
        (repeat (with_reducible refine And.intro ?_ ?_; focus first | omega | rfl | assumption | exact ⟨_, rfl, rfl⟩ | (simp; omega) | (simp; done)))
        refine inv_at (i + 1) (by omega) (by rw [hK]; rfl) rfl (by omega)
      · simp -implicitDefEqProofs (disch := omega) only [go_sem, hb]
        have hi : i = xs.length := by omega
        rw [List.take_of_length_le (by omega)]
        all_goals (first | rfl | exact ⟨rfl, rfl⟩)
theorem heldExprS_ok (xs : List MExpr) : ∀ (k : Int) (l j r : Nat) (p : List (Nat × Nat)) (S : Store) (rs : List (List (List D))), getO S (l, j) = some (.xf rs) → atR rs r p = some (mkRs (xs.map MExpr.enc) k) → 0 ≤ k ∧ k + mcRs (xs.map MExpr.enc) ≤ 4611686018427387904 → ACall Tryz.prog 117 [.c (.xp (l, j) r p), .c (.d (.i .i64 k))] S (fun res S' => res = .c (.d (.i .i64 (k + mcRs (xs.map MExpr.enc)))) ∧ S' = S) := (heldExpr_all _).1 xs (Nat.lt_succ_self _)
theorem heldArmS_ok (xs : List MArm) : ∀ (k : Int) (l j r : Nat) (p : List (Nat × Nat)) (S : Store) (rs : List (List (List D))), getO S (l, j) = some (.xf rs) → atR rs r p = some (mkRs (xs.map MArm.enc) k) → 0 ≤ k ∧ k + mcRs (xs.map MArm.enc) ≤ 4611686018427387904 → ACall Tryz.prog 118 [.c (.xp (l, j) r p), .c (.d (.i .i64 k))] S (fun res S' => res = .c (.d (.i .i64 (k + mcRs (xs.map MArm.enc)))) ∧ S' = S) := (heldExpr_all _).2 xs (Nat.lt_succ_self _)
theorem heldExpr_ok (x : MExpr) (k : Int) (l j b : Nat) (S : Store) (rs : List (List (List D))) (hS : getO S (l, j) = some (.xf rs)) (h6 : atR rs (b + 6) [] = some (mkRs (x.fType.fArgs.map MType.enc) (k))) (h7 : atR rs (b + 7) [] = some (mkRs (x.fArgs.map MExpr.enc) (k + ((mcRs (x.fType.fArgs.map MType.enc) : Nat) : Int)))) (h8 : atR rs (b + 8) [] = some (mkRs (x.fArms.map MArm.enc) (k + ((mcRs (x.fType.fArgs.map MType.enc) : Nat) : Int) + ((mcRs (x.fArgs.map MExpr.enc) : Nat) : Int)))) (hk : 0 ≤ k ∧ k + ((mcRs (x.fType.fArgs.map MType.enc) : Nat) : Int) + ((mcRs (x.fArgs.map MExpr.enc) : Nat) : Int) + ((mcRs (x.fArms.map MArm.enc) : Nat) : Int) ≤ 4611686018427387904) : ACall Tryz.prog 31 [.agg [.d (.i .i64 x.fKind), .d (.s x.fTrait), .d (.s x.fName), .d (.i .i64 x.fN), .d (.i .i64 x.fType.fKind), .d (.s x.fType.fName), .xp (l, j) (b + 6) [], .xp (l, j) (b + 7) [], .xp (l, j) (b + 8) []], .c (.d (.i .i64 k))] S (fun res S' => res = .c (.d (.i .i64 (k + ((mcRs (x.fType.fArgs.map MType.enc) : Nat) : Int) + ((mcRs (x.fArgs.map MExpr.enc) : Nat) : Int) + ((mcRs (x.fArms.map MArm.enc) : Nat) : Int)))) ∧ S' = S) := by
  refine acall_cw (rs := [.tmp 4]) Tryz.checked.mixed Tryz.func31 Tryz.ntmps31 rfl rfl rfl rfl rfl ?_
  simp -implicitDefEqProofs (disch := omega) only [go_sem]
  refine call_d rfl (heldType_ok x.fType (k) (1 + l) j (b + 4) _ _ (by rw [getO_up1]; first | exact hS | exact ht _) (by first | assumption | (simp (disch := omega) only [ne_eq, atR_ne]; assumption)) (by omega)) ?_
  simp -implicitDefEqProofs (disch := omega) only [go_sem, dec_neg]
  refine call_d rfl (heldExprS_ok x.fArgs (k + ((mcRs (x.fType.fArgs.map MType.enc) : Nat) : Int)) (1 + l) j (b + 7) [] _ _ (by rw [getO_up1]; first | exact hS | exact ht _) (by first | assumption | (simp (disch := omega) only [ne_eq, atR_ne]; assumption)) (by omega)) ?_
  simp -implicitDefEqProofs (disch := omega) only [go_sem, dec_neg]
  refine call_d rfl (heldArmS_ok x.fArms (k + ((mcRs (x.fType.fArgs.map MType.enc) : Nat) : Int) + ((mcRs (x.fArgs.map MExpr.enc) : Nat) : Int)) (1 + l) j (b + 8) [] _ _ (by rw [getO_up1]; first | exact hS | exact ht _) (by first | assumption | (simp (disch := omega) only [ne_eq, atR_ne]; assumption)) (by omega)) ?_
  simp -implicitDefEqProofs (disch := omega) only [go_sem, dec_neg]
  try exact ⟨rfl, rfl⟩
end Go.Proofs.YtlmhknhlmicmeaaGreatDoor

namespace Go.Proofs.YtlmhknhlmicmeaaGreatDoor
open Go Go.Ab
theorem markSExpr_all : ∀ n : Nat, (∀ xs : List MSExpr, SizeOf.sizeOf xs < n → ∀ (k : Int) (l j r : Nat) (p : List (Nat × Nat)) (S : Store) (rs : List (List (List D))), getO S (l, j) = some (.xf rs) → atR rs r p = some (xs.map MSExpr.enc) → 0 ≤ k ∧ k + mcRs (xs.map MSExpr.enc) ≤ 4611686018427387904 → ACall Tryz.prog 87 [.c (.xp (l, j) r p), .c (.d (.i .i64 k))] S (fun res S' => res = .c (.d (.i .i64 (k + mcRs (xs.map MSExpr.enc)))) ∧ S' = setO S (l, j) (.xf (updR rs r p (mkRs (xs.map MSExpr.enc) k)))))
  | 0 => fun xs h => by omega
  | n + 1 => by
    have ihSExpr := markSExpr_all n
    refine fun xs hn k l j r p S rs hS hp hk => ?_
    · have hlen := len_mc (f := MSExpr.enc) (fun x => by simp only [MSExpr.enc_eq, encS, encI, List.cons_append, List.nil_append, mcR, mcD]; omega) xs
      obtain ⟨rows, hr⟩ : ∃ rows, rows = xs.map MSExpr.enc := ⟨_, rfl⟩
      have hl : rows.length = xs.length := by rw [hr, List.length_map]
      rw [← hr] at hp hk hlen ⊢
      have ht : ∀ x : Ab.Obj, getO (setO S (l, j) x) (l, j) = some x := fun x => getO_setO_eq _ _ _ _ hS
      have hA : ∀ new, atR (updR rs r p new) r p = some new := fun new => atR_updR hp
      have hU : ∀ a b, updR (updR rs r p a) r p b = updR rs r p b := fun a b => updR_updR hp
      refine acall_cw (rs := [.tmp 4]) Tryz.checked.mixed Tryz.func87 Tryz.ntmps87 rfl rfl rfl rfl rfl ?_
      simp -implicitDefEqProofs (disch := omega) only [go_sem]
      refine loop_at (ι := Nat) Tryz.checked.mixed rfl [0, 1, 5] (fun i => [.c (.xp (1 + l, j) r p), .c (.d (.i .i64 (k + mcRs (rows.take i)))), .c (.d (.i .i64 i))])
        (fun i => [] :: setO S (l, j) (.xf (updR rs r p (mkTo rows k i)))) (fun i => i ≤ xs.length) (fun i => xs.length - i) 0 ?_ ?_ (Nat.zero_le _) ?_
      · have z0 : k + ((mcRs (rows.take 0) : Nat) : Int) = k := by simp [mcRs]
        rw [z0]
        rfl
      · rw [mkTo_zero, updR_same hp, setO_self _ _ hS]
      intro i hi
      simp -implicitDefEqProofs (disch := omega) only [go_sem, ht, hA, mkTo_length, hl]
      with_reducible refine split2 (fun hb => ?_) (fun hb => ?_) <;> have h := hb <;> try simp only [wf_preprocess] at h
      · have hi : i < xs.length := by omega
        have hir : i < rows.length := by omega
        obtain ⟨x, hx⟩ : ∃ x, x = xs[i] := ⟨_, rfl⟩
        have e1 : rows[i] = [.s x.fAtom, .sl (x.fList.map MSExpr.enc)] := by
          simp only [hr, List.getElem_map, ← hx]
          simp only [MSExpr.enc_eq, encS, encI, List.cons_append, List.nil_append]
        have hm := mcRs_take hir
        have hle := mcRs_le (rows := rows) (i := i + 1)
        rw [hm, e1] at hle
        rw [e1] at hm
        simp only [mcR, mcD] at hle hm
        have hK : k + ((mcRs (rows.take (i + 1)) : Nat) : Int) = k + ((mcRs (rows.take i) : Nat) : Int) + 1 + ((mcRs (x.fList.map MSExpr.enc) : Nat) : Int) := by rw [hm]; omega
        have e2 := mkTo_at (k := k) hir
        rw [e1] at e2
        have hC : ∀ row o, cellAt (mkAt rows k i row) i o = row[o]? := fun row o => mkAt_cell hir
        have hG : ∀ row, (mkAt rows k i row).getD i [] = row := fun row => mkAt_get hir
        simp -implicitDefEqProofs (disch := omega) only [go_sem, hb, ht, hA, hU, e2, hC, hG, mkAt_set, mkAt_length, hl, setO_twice, isSD]
        (repeat (with_reducible refine And.intro ?_ ?_; focus first | omega | rfl | assumption | exact ⟨_, rfl, rfl⟩ | (simp; omega) | (simp; done)))
        refine call_w (markText_ok (k + ((mcRs (rows.take i) : Nat) : Int)) (by omega)) ?_
        simp -implicitDefEqProofs (disch := omega) only [go_sem, hb, ht, hA, hU, e2, hC, hG, mkAt_set, mkAt_length, hl, setO_twice, isSD]
        (repeat (with_reducible refine And.intro ?_ ?_; focus first | omega | rfl | assumption | exact ⟨_, rfl, rfl⟩ | (simp; omega) | (simp; done)))
        refine call_d rfl (sub_mk hS hp hir (by rfl) (fun S' rs' g1 g2 => ihSExpr x.fList (by have := List.sizeOf_lt_of_mem (List.getElem_mem hi); rw [← hx] at this; have := MSExpr.lt_List x; omega) (k + ((mcRs (rows.take i) : Nat) : Int) + 1) (1 + l) j r _ S' rs' g1 g2 (by omega))) ?_
        simp -implicitDefEqProofs (disch := omega) only [go_sem, hb, ht, hA, hU, e2, hC, hG, mkAt_set, mkAt_length, hl, setO_twice, isSD]
        (repeat (with_reducible refine And.intro ?_ ?_; focus first | omega | rfl | assumption | exact ⟨_, rfl, rfl⟩ | (simp; omega) | (simp; done)))
        refine inv_at (i + 1) (by omega) (by rw [hK]; rfl) ?_ (by omega)
        have h3 := mkAt_to (k := k) hir
        rw [e1] at h3
        simp only [mkR, mkD] at h3
        rw [← h3]
        all_goals rfl
      · simp -implicitDefEqProofs (disch := omega) only [go_sem, hb]
        have hi : i = xs.length := by omega
        rw [mkTo_all (by omega), List.take_of_length_le (by omega)]
        all_goals (first | rfl | exact ⟨rfl, rfl⟩)
theorem markSExprS_ok (xs : List MSExpr) : ∀ (k : Int) (l j r : Nat) (p : List (Nat × Nat)) (S : Store) (rs : List (List (List D))), getO S (l, j) = some (.xf rs) → atR rs r p = some (xs.map MSExpr.enc) → 0 ≤ k ∧ k + mcRs (xs.map MSExpr.enc) ≤ 4611686018427387904 → ACall Tryz.prog 87 [.c (.xp (l, j) r p), .c (.d (.i .i64 k))] S (fun res S' => res = .c (.d (.i .i64 (k + mcRs (xs.map MSExpr.enc)))) ∧ S' = setO S (l, j) (.xf (updR rs r p (mkRs (xs.map MSExpr.enc) k)))) := (markSExpr_all _) xs (Nat.lt_succ_self _)
theorem markSExpr_ok (x : MSExpr) (k : Int) (l j b : Nat) (S : Store) (rs : List (List (List D))) (hS : getO S (l, j) = some (.xf rs)) (h1 : atR rs (b + 1) [] = some (x.fList.map MSExpr.enc)) (hk : 0 ≤ k ∧ k + ((mcRs (x.fList.map MSExpr.enc) : Nat) : Int) ≤ 4611686018427387904) : ACall Tryz.prog 17 [.agg [.d (.s x.fAtom), .xp (l, j) (b + 1) []], .c (.d (.i .i64 k))] S (fun res S' => res = .c (.d (.i .i64 (k + ((mcRs (x.fList.map MSExpr.enc) : Nat) : Int)))) ∧ S' = setO S (l, j) (.xf (updR (rs) (b + 1) [] (mkRs (x.fList.map MSExpr.enc) (k))))) := by
  have ht : ∀ x : Ab.Obj, getO (setO S (l, j) x) (l, j) = some x := fun x => getO_setO_eq _ _ _ _ hS
  refine acall_cw (rs := [.tmp 4]) Tryz.checked.mixed Tryz.func17 Tryz.ntmps17 rfl rfl rfl rfl rfl ?_
  simp -implicitDefEqProofs (disch := omega) only [go_sem]
  refine call_d rfl (markSExprS_ok x.fList (k) (1 + l) j (b + 1) [] _ _ (by rw [getO_up1]; first | exact hS | exact ht _) (by first | assumption | (simp (disch := omega) only [ne_eq, atR_ne]; assumption)) (by omega)) ?_
  simp -implicitDefEqProofs (disch := omega) only [go_sem, setO_twice, setO_up1]
  try exact ⟨rfl, rfl⟩
end Go.Proofs.YtlmhknhlmicmeaaGreatDoor

namespace Go.Proofs.YtlmhknhlmicmeaaGreatDoor.fnExactSExprToExpr
open Go Go.Ab
set_option maxHeartbeats 4000000 in
theorem law (x0 : MSExpr) (f0 : FitL x0.enc) : ACall Tryz.prog 6 [x0.v] [] (fun r _ => r = .c (.d (.b true))) := by
  have hmx := mcr_sz x0.enc x0.plw.2
  rw [MSExpr.enc_length, MSExpr.sz_def] at hmx
  simp only [MSExpr.enc_eq, List.cons_append, List.nil_append, mcR, mcD] at hmx
  refine acall_cw (rs := [.tmp 2]) Tryz.checked.mixed Tryz.func6 Tryz.ntmps6 rfl rfl rfl rfl rfl ?_
  simp -implicitDefEqProofs (disch := omega) only [go_sem]
  refine call_w (szSExpr_ok x0 _ (by omega) (by omega) f0) ?_
  simp -implicitDefEqProofs (disch := omega) only [go_sem] <;> (repeat (with_reducible refine And.intro ?_ ?_; focus first | omega | rfl | assumption | exact ⟨_, rfl, rfl⟩ | (simp; omega) | (simp; done)))
  with_reducible refine split2 (fun hb => ?_) (fun hb => ?_) <;> have h := hb <;> (try simp only [wf_preprocess] at h) <;> simp -implicitDefEqProofs (disch := omega) only [go_sem, hb] <;> (repeat (with_reducible refine And.intro ?_ ?_; focus first | omega | rfl | assumption | exact ⟨_, rfl, rfl⟩ | (simp; omega) | (simp; done)))
  have h0 := sub1_nn h
  have c1 := specDecExpr_ok x0 (by omega)
  have c2 := fun n => implDecExpr_labR x0 n (by omega)
  have hd : (rdE x0).sz ≤ 1048576 := rdE_sz (by omega)
  obtain ⟨X, hX⟩ : ∃ X, X = rdE x0 := ⟨_, rfl⟩
  obtain ⟨B, hB⟩ : ∃ B, B = okE x0 := ⟨_, rfl⟩
  rw [← hX] at hd
  simp only [← hX, ← hB] at c1 c2
  have hmd := mcr_sz X.enc X.plw.2
  rw [MExpr.enc_length, MExpr.sz_def] at hmd
  simp only [MExpr.enc_eq, MType.enc_eq, List.cons_append, List.nil_append, mcR, mcD] at hmd
  have c3 : PCall Tryz.prog 29 [x0.v] (.tup [(true, X.enc.map .d), (false, [.d (.b B)])]) :=
    PCall.less (c2 0) (tup1_less fun w σ S β vs h => repcs_lab h)
  simp only [MExpr.enc_eq, MType.enc_eq, List.cons_append, List.nil_append, List.map_cons, List.map_nil] at c1 c3
  refine call_w (toSExpr_ok x0 (by omega)) ?_
  simp -implicitDefEqProofs (disch := omega) only [go_sem] <;> (repeat (with_reducible refine And.intro ?_ ?_; focus first | omega | rfl | assumption | exact ⟨_, rfl, rfl⟩ | (simp; omega) | (simp; done)))
  refine call_w c1 ?_
  simp -implicitDefEqProofs (disch := omega) only [go_sem]
  refine call_d rfl (ACall.own (mk := V.agg) (r := x0.enc) holder_agg x0.plw.1 (fun n => toSExpr_lab x0 n (by omega))) ?_
  simp -implicitDefEqProofs (disch := omega) only [go_sem, MSExpr.enc_eq, List.cons_append, List.nil_append, rowX, cellX, rootD]
  refine call_d rfl (ACall.ownL (k := (0, 2)) rfl (mk := fun cs => .tup ((true, cs) :: [C.d (.b B)].map fun x => (false, [x]))) (r := X.enc) (holder_tup [C.d (.b B)] rfl) X.plw.1 (fun n => c2 n)) ?_
  simp -implicitDefEqProofs (disch := omega) only [go_sem, MExpr.enc_eq, MType.enc_eq, List.cons_append, List.nil_append, List.map_cons, List.map_nil, rowX, cellX, rootD]
  refine call_d rfl (ACall.lend (k := (0, 4)) rfl (stay_plain rfl) (eqExpr_ok X X (by omega))) ?_
  simp -implicitDefEqProofs (disch := omega) only [go_sem, dec_true rfl, Bool.not_true]
  refine call_w (toSExpr_ok x0 (by omega)) ?_
  simp -implicitDefEqProofs (disch := omega) only [go_sem] <;> (repeat (with_reducible refine And.intro ?_ ?_; focus first | omega | rfl | assumption | exact ⟨_, rfl, rfl⟩ | (simp; omega) | (simp; done)))
  refine call_a rfl (DS.refl _) (ACall.lend (k := (0, 2)) rfl (stay_plain rfl) (eqSExpr_ok x0 x0 (by omega))) ?_
  simp -implicitDefEqProofs (disch := omega) only [go_sem, dec_true rfl, Bool.not_true]
  refine call_d rfl (markSExpr_ok x0 1 0 2 0 _ _ rfl rfl ⟨by omega, by omega⟩) ?_
  simp -implicitDefEqProofs (disch := omega) only [go_sem, dec_neg]
  refine call_d rfl (ACall.lend (k := (0, 4)) rfl (stay_plain rfl) (eqExpr_ok X X (by omega))) ?_
  simp -implicitDefEqProofs (disch := omega) only [go_sem, dec_true rfl, Bool.not_true]
  refine call_d rfl (markExpr_ok X 1 0 4 0 _ _ rfl rfl rfl rfl ⟨by omega, by omega⟩) ?_
  simp -implicitDefEqProofs (disch := omega) only [go_sem]
  refine call_d rfl (heldExpr_ok X 1 0 4 0 _ _ rfl rfl rfl rfl ⟨by omega, by omega⟩) ?_
  simp -implicitDefEqProofs (disch := omega) only [go_sem, dec_neg, Bool.not_true]
  refine call_w (toSExpr_ok x0 (by omega)) ?_
  simp -implicitDefEqProofs (disch := omega) only [go_sem] <;> (repeat (with_reducible refine And.intro ?_ ?_; focus first | omega | rfl | assumption | exact ⟨_, rfl, rfl⟩ | (simp; omega) | (simp; done)))
  refine call_w c3 ?_
  simp -implicitDefEqProofs (disch := omega) only [go_sem]
  refine call_w (eqExpr_ok X X (by omega)) ?_
  simp -implicitDefEqProofs (disch := omega) only [go_sem, dec_true rfl, Bool.not_true]
  refine call_d rfl (heldExpr_ok X 1 0 4 0 _ _ rfl rfl rfl rfl ⟨by omega, by omega⟩) ?_
  simp -implicitDefEqProofs (disch := omega) only [go_sem, dec_neg, Bool.not_true]
end Go.Proofs.YtlmhknhlmicmeaaGreatDoor.fnExactSExprToExpr

namespace Go.Ab
open Go
theorem ints_of_array {H : Type} {enc : TypeId × Value → H} {P : Program} {w : World} {base : Nat} {sp : Nat → Bool} {held : Bool} {fuel n : Nat} {t e : TypeId} {k : IntKind} {cs : List Value} {ns : List Int} {p : List MemPlace}
    (ht : P.underlying t = some (.array n e)) (he : P.underlying e = some (.int k)) (ce : P.cellsOf e = 1) (ct : P.cellsOf t = n)
    (h : DataW.trod enc P w base sp held fuel t cs = some (.agg (ns.map fun z => .lit (.int k z)), p)) : cs = ns.map (Value.int k ·) := by
  obtain ⟨xs, m, _, ex, hlen, hl, hel⟩ := DataW.trod_array ht h
  rw [ct] at hlen
  have e3 := DataW.agg.inj (Prod.mk.inj ex).1
  have hns : ns.length = n := by have := congrArg List.length e3; simpa [hl] using this
  refine List.ext_getElem (by rw [hlen, List.length_map, hns]) fun i h1 h2 => ?_
  have k0 := hel i (by omega)
  rw [ce, Nat.mul_one] at k0
  have hd : (cs.drop i).take 1 = [cs[i]] := by
    rw [List.drop_eq_getElem_cons h1]; rfl
  rw [hd, List.getElem?_eq_getElem (by omega)] at k0
  obtain ⟨z, a, b, _⟩ := DataW.trod_int he k0
  have e4 : (ns.map fun z => (DataW.lit (Lit.int k z) : DataW H))[i]'(by rw [List.length_map]; omega) = (xs.map (·.1))[i]'(by rw [List.length_map]; omega) := by simp only [e3]
  rw [List.getElem_map, List.getElem_map, b] at e4
  simp only [DataW.lit.injEq, Lit.int.injEq, true_and] at e4
  rw [List.getElem_map, e4]
  simpa using a
theorem var_cells {P : Program} {w : World} {n : String} {g : Nat} {cs : Array Value} (hg : P.globalNamed n = some g) (h : w.var? P n = some cs) : ∃ t fz, w.heap[g]? = some (.cells cs t fz) := by
  unfold World.var? at h
  rw [hg] at h
  simp only [Option.bind_some] at h
  split at h
  · rename_i c t fz hh
    cases h
    exact ⟨t, fz, hh⟩
  · cases h
end Go.Ab
namespace Go.Proofs.YtlmhknhlmicmeaaGreatDoor
open Go Go.Ab Go.ChangeShapes Go.RowKit
theorem gES : Tryz.prog.globalNamed "strconv.ErrSyntax" = some 0 := by kernel_rfl
theorem gESType : (Tryz.prog.globals[0]?).map (·.type) = some 286 := by kernel_rfl
theorem gER : Tryz.prog.globalNamed "strconv.ErrRange" = some 1 := by kernel_rfl
theorem gERType : (Tryz.prog.globals[1]?).map (·.type) = some 286 := by kernel_rfl
theorem cellsE : Tryz.prog.cellsOf 384 = 1 := by kernel_rfl
theorem cellsS : Tryz.prog.cellsOf 9 = 1 := by kernel_rfl
theorem starE : "*" ++ "errors.errorString" = "*errors.errorString" := by decide
theorem rowE (u : TypeId) (h : Tryz.prog.typeName? 3 u = some "*errors.errorString") : u = 382 :=
  typeName_ptr_named (nm := "errors.errorString") (by rw [starE]; kernel_rfl) (by kernel_rfl) (by decide) u (by rw [starE]; exact h)
theorem glob_of_laid {W : World} {r : List (String × DataW Unit)} (hr : (r.all fun x => x.2.handleName?.isNone) = true)
    (h0 : laidMetH Tryz.prog (("math/bits.deBruijn32tab", Rows.laid_math_bits_deBruijn32tab) :: ("math/bits.deBruijn64tab", Rows.laid_math_bits_deBruijn64tab) :: ("internal/strconv.uint64pow10", Rows.laid_internal_strconv_uint64pow10) :: ("strconv.ErrRange", Rows.laid_strconv_ErrRange) :: ("strconv.ErrSyntax", Rows.laid_strconv_ErrSyntax) :: r) W) : Glob W (allFast W) := by
  rw [MakeChecks.laidMetH_plain _ _ _ (by
    rw [List.all_cons, List.all_cons, List.all_cons, List.all_cons, List.all_cons, hr]; kernel_rfl)] at h0
  have hR := h0.tail.tail.tail
  have hS := hR.tail
  obtain ⟨a1, s1, hv1, _, _, _⟩ := laid_sentinel hR gER gERType Tryz.underlying286 rowE Tryz.underlying382 Tryz.underlying384 rfl rfl Tryz.underlying9 cellsE cellsS
  obtain ⟨a2, s2, hv2, _, _, _⟩ := laid_sentinel hS gES gESType Tryz.underlying286 rowE Tryz.underlying382 Tryz.underlying384 rfl rfl Tryz.underlying9 cellsE cellsS
  obtain ⟨t1, fz1, hh1⟩ := var_cells gER hv1
  obtain ⟨t2, fz2, hh2⟩ := var_cells gES hv2
  obtain ⟨ps, ⟨_, _, _, _, _, _, _, _, _, _, ⟨_, _, _, _, _, _, _, _, _, _, ⟨g, t, cs, fuel, p, q, hg, ht, hv, hd, _, _⟩, _⟩, _⟩, _, _⟩ := h0
  have hn : Tryz.prog.globalNamed "internal/strconv.uint64pow10" = some 2 := by kernel_rfl
  obtain rfl := Option.some.inj (hn.symm.trans hg)
  obtain rfl := Option.some.inj ((show (Tryz.prog.globals[2]?).map (·.type) = some 376 by kernel_rfl).symm.trans ht)
  have hl : (Rows.laid_internal_strconv_uint64pow10 : DataW Unit) = .agg (((List.range 20).map fun i => ((10 ^ i : Nat) : Int)).map fun z => .lit (.int .u64 z)) := by kernel_rfl
  rw [hl] at hd
  have e := ints_of_array Tryz.underlying376 Tryz.underlying359 (by kernel_rfl) (by kernel_rfl) hd
  obtain ⟨t', fz, hh⟩ := var_cells hg hv
  intro g' p' hm
  have fast : ∀ {b : Nat} {c : Array Value} {t : TypeId} {fz : Nat × Nat}, W.heap[b]? = some (.cells c t fz) → c.size ≤ allFast W b := fun {b c t fz} hb => by
    unfold allFast; rw [hb]; exact Nat.le_refl _
  rcases List.mem_cons.1 hm with hm | hm
  · cases hm
    refine ⟨cs, t', fz, hh, ?_, fast hh⟩
    show cs.toList = _
    rw [e, List.map_map]; rfl
  rcases List.mem_cons.1 hm with hm | hm
  · cases hm
    exact ⟨_, t1, fz1, hh1, ⟨_, _, rfl⟩, fast hh1⟩
  · have hm' := List.eq_of_mem_singleton hm
    cases hm'
    exact ⟨_, t2, fz2, hh2, ⟨_, _, rfl⟩, fast hh2⟩
end Go.Proofs.YtlmhknhlmicmeaaGreatDoor

namespace Go.Ab
theorem wt_pos {P : Program} {n : Nat} {t : TypeId} {ds : List D} (h : WT P n t ds) : ∃ m, n = m + 1 := by
  cases n with
  | zero => exact h.elim
  | succ m => exact ⟨m, rfl⟩
theorem wt_string {P : Program} {n : Nat} {t : TypeId} {ds : List D} (ht : P.underlying t = some .string) (h : WT P n t ds) : ∃ l, ds = [.s l] := by
  obtain ⟨m, rfl⟩ := wt_pos h
  simp only [WT, ht] at h; exact ⟨h.choose, h.choose_spec.1⟩
theorem wt_slice {P : Program} {n : Nat} {t e : TypeId} {ds : List D} (ht : P.underlying t = some (.slice e)) (h : WT P n t ds) : ∃ es m, m < n ∧ ds = [.sl es] ∧ ∀ x ∈ es, WT P m e x := by
  obtain ⟨m, rfl⟩ := wt_pos h
  simp only [WT, ht] at h
  obtain ⟨es, h1, _, h2⟩ := h
  exact ⟨es, m, by omega, h1, fun x hx => (h2 x hx).2⟩
theorem wt_struct {P : Program} {n : Nat} {t : TypeId} {fs : Array Field} {ds : List D} (ht : P.underlying t = some (.struct fs)) (h : WT P n t ds) : ∃ m, m < n ∧ WTF P (WT P m) fs.toList ds := by
  obtain ⟨m, rfl⟩ := wt_pos h
  simp only [WT, ht] at h
  exact ⟨m, by omega, h⟩
theorem list_enc {α : Type} {enc : α → List D} : ∀ {es : List (List D)}, (∀ x ∈ es, ∃ m, x = enc m) → ∃ ms : List α, es = ms.map enc
  | [], _ => ⟨[], rfl⟩
  | e :: es, h => by
    obtain ⟨m, hm⟩ := h e (by simp)
    obtain ⟨ms, hms⟩ := list_enc (es := es) fun x hx => h x (by simp [hx])
    exact ⟨m :: ms, by rw [List.map_cons, ← hm, ← hms]⟩
theorem wtf_fit {P : Program} {W : TypeId → List D → Prop} (hW : ∀ t ds, W t ds → FitL ds) : ∀ (fs : List Field) (ds : List D), WTF P W fs ds → FitL ds
  | [], ds, h => by
    have h : ds = [] := h
    rw [h]; exact fitL_nil
  | f :: fs, ds, h => by
    obtain ⟨a, b, rfl, _, h1, h2⟩ := h
    exact fitL_append.2 ⟨hW _ _ h1, wtf_fit hW fs b h2⟩
theorem wt_fit {P : Program} : ∀ (n : Nat) (t : TypeId) (ds : List D), WT P n t ds → FitL ds
  | 0, t, ds, h => h.elim
  | n + 1, t, ds, h => by
    simp only [WT] at h
    split at h
    · obtain ⟨b, rfl⟩ := h; exact fitL_cons.2 ⟨.b _, fitL_nil⟩
    · obtain ⟨b, rfl, _⟩ := h; exact fitL_cons.2 ⟨.i _ _, fitL_nil⟩
    · obtain ⟨l, rfl, hl⟩ := h; exact fitL_cons.2 ⟨.s _ hl, fitL_nil⟩
    · obtain ⟨es, rfl, hl, hh⟩ := h
      exact fitL_cons.2 ⟨.sl _ hl fun e he d hd => wt_fit n _ e (hh e he).2 d hd, fitL_nil⟩
    · exact wtf_fit (wt_fit n) _ _ h
    · exact h.elim
end Go.Ab
namespace Go.Proofs.YtlmhknhlmicmeaaGreatDoor
open Go Go.Ab
theorem wt_SExpr : ∀ (n : Nat) (ds : List D), WT Tryz.prog n 68 ds → ∃ x : MSExpr, ds = x.enc := by
  intro n
  induction n using Nat.strongRecOn with
  | _ n ih =>
    intro ds h
    obtain ⟨m, hm, h⟩ := wt_struct Tryz.underlying68 h
    simp only [WTF] at h
    obtain ⟨a0, r0, rfl, l0, h0, a1, r1, rfl, l1, h1, rfl⟩ := h
    obtain ⟨x0, rfl⟩ := wt_string Tryz.underlying9 h0
    obtain ⟨es1, m1, hm1, rfl, hs1⟩ := wt_slice Tryz.underlying66 h1
    obtain ⟨x1, rfl⟩ := list_enc (enc := MSExpr.enc) fun y hy => ih m1 (by omega) y (hs1 y hy)
    refine ⟨MSExpr.mk x0 x1, ?_⟩
    rw [MSExpr.enc_eq]
    simp [MSExpr.fAtom, MSExpr.fList]
end Go.Proofs.YtlmhknhlmicmeaaGreatDoor

