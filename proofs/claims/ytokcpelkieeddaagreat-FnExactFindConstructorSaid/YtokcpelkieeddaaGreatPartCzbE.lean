/-
  SEVERAL TEXTS IN ONE (merged by program): contracts and models, each with its own heading.
-/
import Derived.Test.YtokcpelkieeddaaGreatPartCzbD
set_option linter.unusedSimpArgs false
set_option linter.unusedVariables false
set_option maxRecDepth 8000
set_option maxRecDepth 4000
namespace Go.Proofs.YtokcpelkieeddaaGreat
open Go Go.Ab
set_option maxHeartbeats 4000000 in
theorem markSignatureS_ok (xs : List MSignature) : ∀ (k : Int) (l j r : Nat) (p : List (Nat × Nat)) (S : Store) (rs : List (List (List D))), getO S (l, j) = some (.xf rs) → atR rs r p = some (xs.map MSignature.enc) → 0 ≤ k ∧ k + mcRs (xs.map MSignature.enc) ≤ 4611686018427387904 → ACall Tryz.prog 179 [.c (.xp (l, j) r p), .c (.d (.i .i64 k))] S (fun res S' => res = .c (.d (.i .i64 (k + mcRs (xs.map MSignature.enc)))) ∧ S' = setO S (l, j) (.xf (updR rs r p (mkRs (xs.map MSignature.enc) k)))) := by
  intro k l j r p S rs hS hp hk
  have hlen := len_mc (f := MSignature.enc) (fun x => by simp only [MExpr.enc_eq, MSignature.enc_eq, MType.enc_eq, encS, encI, List.cons_append, List.nil_append, mcR, mcD]; omega) xs
  obtain ⟨rows, hr⟩ : ∃ rows, rows = xs.map MSignature.enc := ⟨_, rfl⟩
  have hl : rows.length = xs.length := by rw [hr, List.length_map]
  rw [← hr] at hp hk hlen ⊢
  have ht : ∀ x : Ab.Obj, getO (setO S (l, j) x) (l, j) = some x := fun x => getO_setO_eq _ _ _ _ hS
  have hA : ∀ new, atR (updR rs r p new) r p = some new := fun new => atR_updR hp
  have hU : ∀ a b, updR (updR rs r p a) r p b = updR rs r p b := fun a b => updR_updR hp
  refine acall_cw (rs := [.tmp 4]) Tryz.checked.mixed Tryz.func179 Tryz.ntmps179 rfl rfl rfl rfl rfl ?_
  simp -implicitDefEqProofs (disch := omega) only [go_sem]
  refine loop_at (ι := Nat) Tryz.checked.mixed rfl [0, 1, 5] (fun i => [.c (.xp (1 + l, j) r p), .c (.d (.i .i64 (k + mcRs (rows.take i)))), .c (.d (.i .i64 i))])
    (fun i => [] :: setO S (l, j) (.xf (updR rs r p (mkTo rows k i)))) (fun i => i ≤ xs.length) (fun i => xs.length - i) 0 ?_ ?_ (Nat.zero_le _) ?_
  · have z0 : k + ((mcRs (rows.take 0) : Nat) : Int) = k := by simp [mcRs]
    rw [z0]
    rfl
  · rw [mkTo_zero, updR_same hp, setO_self _ _ hS]
  intro i hi
  simp -implicitDefEqProofs (disch := omega) only [go_sem, ht, hA, mkTo_length, hl]
  with_reducible refine split2 (fun hb => ?_) (fun hb => ?_) <;> have h := hb <;> try simp only [wf_preprocess] at h
  · have hi : i < xs.length := by omega
    have hir : i < rows.length := by omega
    obtain ⟨x, hx⟩ : ∃ x, x = xs[i] := ⟨_, rfl⟩
    have e1 : rows[i] = [.s x.fName, .sl (x.fParams.map MType.enc), .i .i64 x.fResult.fKind, .s x.fResult.fName, .sl (x.fResult.fArgs.map MType.enc), .b x.fHasDefault, .sl (x.fVars.map encS), .i .i64 x.fBody.fKind, .s x.fBody.fTrait, .s x.fBody.fName, .i .i64 x.fBody.fN, .i .i64 x.fBody.fType.fKind, .s x.fBody.fType.fName, .sl (x.fBody.fType.fArgs.map MType.enc), .sl (x.fBody.fArgs.map MExpr.enc), .sl (x.fBody.fArms.map MArm.enc)] := by
      simp only [hr, List.getElem_map, ← hx]
      simp only [MExpr.enc_eq, MSignature.enc_eq, MType.enc_eq, encS, encI, List.cons_append, List.nil_append]
    have hm := mcRs_take hir
    have hle := mcRs_le (rows := rows) (i := i + 1)
    rw [hm, e1] at hle
    rw [e1] at hm
    simp only [mcR, mcD] at hle hm
    have hK : k + ((mcRs (rows.take (i + 1)) : Nat) : Int) = k + ((mcRs (rows.take i) : Nat) : Int) + 1 + ((mcRs (x.fParams.map MType.enc) : Nat) : Int) + 1 + 1 + ((mcRs (x.fResult.fArgs.map MType.enc) : Nat) : Int) + 1 + ((mcRs (x.fVars.map encS) : Nat) : Int) + 1 + 1 + 1 + 1 + 1 + 1 + ((mcRs (x.fBody.fType.fArgs.map MType.enc) : Nat) : Int) + ((mcRs (x.fBody.fArgs.map MExpr.enc) : Nat) : Int) + ((mcRs (x.fBody.fArms.map MArm.enc) : Nat) : Int) := by rw [hm]; omega
    have e2 := mkTo_at (k := k) hir
    rw [e1] at e2
    have hC : ∀ row o, cellAt (mkAt rows k i row) i o = row[o]? := fun row o => mkAt_cell hir
    have hG : ∀ row, (mkAt rows k i row).getD i [] = row := fun row => mkAt_get hir
    simp -implicitDefEqProofs (disch := omega) only [go_sem, hb, ht, hA, hU, e2, hC, hG, mkAt_set, mkAt_length, hl, setO_twice, isSD]
    (repeat (with_reducible refine And.intro ?_ ?_; focus first | omega | rfl | assumption | exact ⟨_, rfl, rfl⟩ | (simp; omega) | (simp; done)))
    refine call_w (markText_ok (k + ((mcRs (rows.take i) : Nat) : Int)) (by omega)) ?_
    simp -implicitDefEqProofs (disch := omega) only [go_sem, hb, ht, hA, hU, e2, hC, hG, mkAt_set, mkAt_length, hl, setO_twice, isSD]
    (repeat (with_reducible refine And.intro ?_ ?_; focus first | omega | rfl | assumption | exact ⟨_, rfl, rfl⟩ | (simp; omega) | (simp; done)))
    refine call_d rfl (sub_mk hS hp hir (by rfl) (fun S' rs' g1 g2 => markTypeS_ok x.fParams (k + ((mcRs (rows.take i) : Nat) : Int) + 1) (1 + l) j r _ S' rs' g1 g2 (by omega))) ?_
    simp -implicitDefEqProofs (disch := omega) only [go_sem, hb, ht, hA, hU, e2, hC, hG, mkAt_set, mkAt_length, hl, setO_twice, isSD]
    (repeat (with_reducible refine And.intro ?_ ?_; focus first | omega | rfl | assumption | exact ⟨_, rfl, rfl⟩ | (simp; omega) | (simp; done)))
    refine call_w (markText_ok (k + ((mcRs (rows.take i) : Nat) : Int) + 1 + ((mcRs (x.fParams.map MType.enc) : Nat) : Int) + 1) (by omega)) ?_
    simp -implicitDefEqProofs (disch := omega) only [go_sem, hb, ht, hA, hU, e2, hC, hG, mkAt_set, mkAt_length, hl, setO_twice, isSD]
    (repeat (with_reducible refine And.intro ?_ ?_; focus first | omega | rfl | assumption | exact ⟨_, rfl, rfl⟩ | (simp; omega) | (simp; done)))
    refine call_d rfl (sub_mk hS hp hir (by rfl) (fun S' rs' g1 g2 => markTypeS_ok x.fResult.fArgs (k + ((mcRs (rows.take i) : Nat) : Int) + 1 + ((mcRs (x.fParams.map MType.enc) : Nat) : Int) + 1 + 1) (1 + l) j r _ S' rs' g1 g2 (by omega))) ?_
    simp -implicitDefEqProofs (disch := omega) only [go_sem, hb, ht, hA, hU, e2, hC, hG, mkAt_set, mkAt_length, hl, setO_twice, isSD]
    (repeat (with_reducible refine And.intro ?_ ?_; focus first | omega | rfl | assumption | exact ⟨_, rfl, rfl⟩ | (simp; omega) | (simp; done)))
    refine call_d rfl (sub_mk hS hp hir (by rfl) (fun S' rs' g1 g2 => markStringS_ok x.fVars (k + ((mcRs (rows.take i) : Nat) : Int) + 1 + ((mcRs (x.fParams.map MType.enc) : Nat) : Int) + 1 + 1 + ((mcRs (x.fResult.fArgs.map MType.enc) : Nat) : Int) + 1) (1 + l) j r _ S' rs' g1 g2 (by omega))) ?_
    simp -implicitDefEqProofs (disch := omega) only [go_sem, hb, ht, hA, hU, e2, hC, hG, mkAt_set, mkAt_length, hl, setO_twice, isSD]
    (repeat (with_reducible refine And.intro ?_ ?_; focus first | omega | rfl | assumption | exact ⟨_, rfl, rfl⟩ | (simp; omega) | (simp; done)))
    refine call_w (markText_ok (k + ((mcRs (rows.take i) : Nat) : Int) + 1 + ((mcRs (x.fParams.map MType.enc) : Nat) : Int) + 1 + 1 + ((mcRs (x.fResult.fArgs.map MType.enc) : Nat) : Int) + 1 + ((mcRs (x.fVars.map encS) : Nat) : Int) + 1) (by omega)) ?_
    simp -implicitDefEqProofs (disch := omega) only [go_sem, hb, ht, hA, hU, e2, hC, hG, mkAt_set, mkAt_length, hl, setO_twice, isSD]
    (repeat (with_reducible refine And.intro ?_ ?_; focus first | omega | rfl | assumption | exact ⟨_, rfl, rfl⟩ | (simp; omega) | (simp; done)))
    refine call_w (markText_ok (k + ((mcRs (rows.take i) : Nat) : Int) + 1 + ((mcRs (x.fParams.map MType.enc) : Nat) : Int) + 1 + 1 + ((mcRs (x.fResult.fArgs.map MType.enc) : Nat) : Int) + 1 + ((mcRs (x.fVars.map encS) : Nat) : Int) + 1 + 1) (by omega)) ?_
    simp -implicitDefEqProofs (disch := omega) only [go_sem, hb, ht, hA, hU, e2, hC, hG, mkAt_set, mkAt_length, hl, setO_twice, isSD]
    (repeat (with_reducible refine And.intro ?_ ?_; focus first | omega | rfl | assumption | exact ⟨_, rfl, rfl⟩ | (simp; omega) | (simp; done)))
    refine call_w (markText_ok (k + ((mcRs (rows.take i) : Nat) : Int) + 1 + ((mcRs (x.fParams.map MType.enc) : Nat) : Int) + 1 + 1 + ((mcRs (x.fResult.fArgs.map MType.enc) : Nat) : Int) + 1 + ((mcRs (x.fVars.map encS) : Nat) : Int) + 1 + 1 + 1 + 1 + 1) (by omega)) ?_
    simp -implicitDefEqProofs (disch := omega) only [go_sem, hb, ht, hA, hU, e2, hC, hG, mkAt_set, mkAt_length, hl, setO_twice, isSD]
    (repeat (with_reducible refine And.intro ?_ ?_; focus first | omega | rfl | assumption | exact ⟨_, rfl, rfl⟩ | (simp; omega) | (simp; done)))
    refine call_d rfl (sub_mk hS hp hir (by rfl) (fun S' rs' g1 g2 => markTypeS_ok x.fBody.fType.fArgs (k + ((mcRs (rows.take i) : Nat) : Int) + 1 + ((mcRs (x.fParams.map MType.enc) : Nat) : Int) + 1 + 1 + ((mcRs (x.fResult.fArgs.map MType.enc) : Nat) : Int) + 1 + ((mcRs (x.fVars.map encS) : Nat) : Int) + 1 + 1 + 1 + 1 + 1 + 1) (1 + l) j r _ S' rs' g1 g2 (by omega))) ?_
    simp -implicitDefEqProofs (disch := omega) only [go_sem, hb, ht, hA, hU, e2, hC, hG, mkAt_set, mkAt_length, hl, setO_twice, isSD]
    (repeat (with_reducible refine And.intro ?_ ?_; focus first | omega | rfl | assumption | exact ⟨_, rfl, rfl⟩ | (simp; omega) | (simp; done)))
    refine call_d rfl (sub_mk hS hp hir (by rfl) (fun S' rs' g1 g2 => markExprS_ok x.fBody.fArgs (k + ((mcRs (rows.take i) : Nat) : Int) + 1 + ((mcRs (x.fParams.map MType.enc) : Nat) : Int) + 1 + 1 + ((mcRs (x.fResult.fArgs.map MType.enc) : Nat) : Int) + 1 + ((mcRs (x.fVars.map encS) : Nat) : Int) + 1 + 1 + 1 + 1 + 1 + 1 + ((mcRs (x.fBody.fType.fArgs.map MType.enc) : Nat) : Int)) (1 + l) j r _ S' rs' g1 g2 (by omega))) ?_
    simp -implicitDefEqProofs (disch := omega) only [go_sem, hb, ht, hA, hU, e2, hC, hG, mkAt_set, mkAt_length, hl, setO_twice, isSD]
    (repeat (with_reducible refine And.intro ?_ ?_; focus first | omega | rfl | assumption | exact ⟨_, rfl, rfl⟩ | (simp; omega) | (simp; done)))
    refine call_d rfl (sub_mk hS hp hir (by rfl) (fun S' rs' g1 g2 => markArmS_ok x.fBody.fArms (k + ((mcRs (rows.take i) : Nat) : Int) + 1 + ((mcRs (x.fParams.map MType.enc) : Nat) : Int) + 1 + 1 + ((mcRs (x.fResult.fArgs.map MType.enc) : Nat) : Int) + 1 + ((mcRs (x.fVars.map encS) : Nat) : Int) + 1 + 1 + 1 + 1 + 1 + 1 + ((mcRs (x.fBody.fType.fArgs.map MType.enc) : Nat) : Int) + ((mcRs (x.fBody.fArgs.map MExpr.enc) : Nat) : Int)) (1 + l) j r _ S' rs' g1 g2 (by omega))) ?_
    simp -implicitDefEqProofs (disch := omega) only [go_sem, hb, ht, hA, hU, e2, hC, hG, mkAt_set, mkAt_length, hl, setO_twice, isSD]
    (repeat (with_reducible refine And.intro ?_ ?_; focus first | omega | rfl | assumption | exact ⟨_, rfl, rfl⟩ | (simp; omega) | (simp; done)))
    refine inv_at (i + 1) (by omega) (by rw [hK]; rfl) ?_ (by omega)
    have h3 := mkAt_to (k := k) hir
    rw [e1] at h3
    simp only [mkR, mkD] at h3
    rw [← h3]
    all_goals rfl
  · simp -implicitDefEqProofs (disch := omega) only [go_sem, hb]
    have hi : i = xs.length := by omega
    rw [mkTo_all (by omega), List.take_of_length_le (by omega)]
    all_goals (first | rfl | exact ⟨rfl, rfl⟩)
end Go.Proofs.YtokcpelkieeddaaGreat

namespace Go.Proofs.YtokcpelkieeddaaGreat
open Go Go.Ab
set_option maxHeartbeats 4000000 in
theorem markTraitS_ok (xs : List MTrait) : ∀ (k : Int) (l j r : Nat) (p : List (Nat × Nat)) (S : Store) (rs : List (List (List D))), getO S (l, j) = some (.xf rs) → atR rs r p = some (xs.map MTrait.enc) → 0 ≤ k ∧ k + mcRs (xs.map MTrait.enc) ≤ 4611686018427387904 → ACall Tryz.prog 122 [.c (.xp (l, j) r p), .c (.d (.i .i64 k))] S (fun res S' => res = .c (.d (.i .i64 (k + mcRs (xs.map MTrait.enc)))) ∧ S' = setO S (l, j) (.xf (updR rs r p (mkRs (xs.map MTrait.enc) k)))) := by
  intro k l j r p S rs hS hp hk
  have hlen := len_mc (f := MTrait.enc) (fun x => by simp only [MTrait.enc_eq, encS, encI, List.cons_append, List.nil_append, mcR, mcD]; omega) xs
  obtain ⟨rows, hr⟩ : ∃ rows, rows = xs.map MTrait.enc := ⟨_, rfl⟩
  have hl : rows.length = xs.length := by rw [hr, List.length_map]
  rw [← hr] at hp hk hlen ⊢
  have ht : ∀ x : Ab.Obj, getO (setO S (l, j) x) (l, j) = some x := fun x => getO_setO_eq _ _ _ _ hS
  have hA : ∀ new, atR (updR rs r p new) r p = some new := fun new => atR_updR hp
  have hU : ∀ a b, updR (updR rs r p a) r p b = updR rs r p b := fun a b => updR_updR hp
  refine acall_cw (rs := [.tmp 4]) Tryz.checked.mixed Tryz.func122 Tryz.ntmps122 rfl rfl rfl rfl rfl ?_
  simp -implicitDefEqProofs (disch := omega) only [go_sem]
  refine loop_at (ι := Nat) Tryz.checked.mixed rfl [0, 1, 5] (fun i => [.c (.xp (1 + l, j) r p), .c (.d (.i .i64 (k + mcRs (rows.take i)))), .c (.d (.i .i64 i))])
    (fun i => [] :: setO S (l, j) (.xf (updR rs r p (mkTo rows k i)))) (fun i => i ≤ xs.length) (fun i => xs.length - i) 0 ?_ ?_ (Nat.zero_le _) ?_
  · have z0 : k + ((mcRs (rows.take 0) : Nat) : Int) = k := by simp [mcRs]
    rw [z0]
    rfl
  · rw [mkTo_zero, updR_same hp, setO_self _ _ hS]
  intro i hi
  simp -implicitDefEqProofs (disch := omega) only [go_sem, ht, hA, mkTo_length, hl]
  with_reducible refine split2 (fun hb => ?_) (fun hb => ?_) <;> have h := hb <;> try simp only [wf_preprocess] at h
  · have hi : i < xs.length := by omega
    have hir : i < rows.length := by omega
    obtain ⟨x, hx⟩ : ∃ x, x = xs[i] := ⟨_, rfl⟩
    have e1 : rows[i] = [.s x.fName, .sl (x.fSupertraits.map encS), .b x.fAuto, .b x.fAssoc, .sl (x.fSignatures.map MSignature.enc)] := by
      simp only [hr, List.getElem_map, ← hx]
      simp only [MTrait.enc_eq, encS, encI, List.cons_append, List.nil_append]
    have hm := mcRs_take hir
    have hle := mcRs_le (rows := rows) (i := i + 1)
    rw [hm, e1] at hle
    rw [e1] at hm
    simp only [mcR, mcD] at hle hm
    have hK : k + ((mcRs (rows.take (i + 1)) : Nat) : Int) = k + ((mcRs (rows.take i) : Nat) : Int) + 1 + ((mcRs (x.fSupertraits.map encS) : Nat) : Int) + 1 + 1 + ((mcRs (x.fSignatures.map MSignature.enc) : Nat) : Int) := by rw [hm]; omega
    have e2 := mkTo_at (k := k) hir
    rw [e1] at e2
    have hC : ∀ row o, cellAt (mkAt rows k i row) i o = row[o]? := fun row o => mkAt_cell hir
    have hG : ∀ row, (mkAt rows k i row).getD i [] = row := fun row => mkAt_get hir
    simp -implicitDefEqProofs (disch := omega) only [go_sem, hb, ht, hA, hU, e2, hC, hG, mkAt_set, mkAt_length, hl, setO_twice, isSD]
    (repeat (with_reducible refine And.intro ?_ ?_; focus first | omega | rfl | assumption | exact ⟨_, rfl, rfl⟩ | (simp; omega) | (simp; done)))
    refine call_w (markText_ok (k + ((mcRs (rows.take i) : Nat) : Int)) (by omega)) ?_
    simp -implicitDefEqProofs (disch := omega) only [go_sem, hb, ht, hA, hU, e2, hC, hG, mkAt_set, mkAt_length, hl, setO_twice, isSD]
    (repeat (with_reducible refine And.intro ?_ ?_; focus first | omega | rfl | assumption | exact ⟨_, rfl, rfl⟩ | (simp; omega) | (simp; done)))
    refine call_d rfl (sub_mk hS hp hir (by rfl) (fun S' rs' g1 g2 => markStringS_ok x.fSupertraits (k + ((mcRs (rows.take i) : Nat) : Int) + 1) (1 + l) j r _ S' rs' g1 g2 (by omega))) ?_
    simp -implicitDefEqProofs (disch := omega) only [go_sem, hb, ht, hA, hU, e2, hC, hG, mkAt_set, mkAt_length, hl, setO_twice, isSD]
    (repeat (with_reducible refine And.intro ?_ ?_; focus first | omega | rfl | assumption | exact ⟨_, rfl, rfl⟩ | (simp; omega) | (simp; done)))
    refine call_d rfl (sub_mk hS hp hir (by rfl) (fun S' rs' g1 g2 => markSignatureS_ok x.fSignatures (k + ((mcRs (rows.take i) : Nat) : Int) + 1 + ((mcRs (x.fSupertraits.map encS) : Nat) : Int) + 1 + 1) (1 + l) j r _ S' rs' g1 g2 (by omega))) ?_
    simp -implicitDefEqProofs (disch := omega) only [go_sem, hb, ht, hA, hU, e2, hC, hG, mkAt_set, mkAt_length, hl, setO_twice, isSD]
    (repeat (with_reducible refine And.intro ?_ ?_; focus first | omega | rfl | assumption | exact ⟨_, rfl, rfl⟩ | (simp; omega) | (simp; done)))
    refine inv_at (i + 1) (by omega) (by rw [hK]; rfl) ?_ (by omega)
    have h3 := mkAt_to (k := k) hir
    rw [e1] at h3
    simp only [mkR, mkD] at h3
    rw [← h3]
    all_goals rfl
  · simp -implicitDefEqProofs (disch := omega) only [go_sem, hb]
    have hi : i = xs.length := by omega
    rw [mkTo_all (by omega), List.take_of_length_le (by omega)]
    all_goals (first | rfl | exact ⟨rfl, rfl⟩)
end Go.Proofs.YtokcpelkieeddaaGreat

namespace Go.Proofs.YtokcpelkieeddaaGreat
open Go Go.Ab
set_option maxHeartbeats 4000000 in
theorem markConstructorS_ok (xs : List MConstructor) : ∀ (k : Int) (l j r : Nat) (p : List (Nat × Nat)) (S : Store) (rs : List (List (List D))), getO S (l, j) = some (.xf rs) → atR rs r p = some (xs.map MConstructor.enc) → 0 ≤ k ∧ k + mcRs (xs.map MConstructor.enc) ≤ 4611686018427387904 → ACall Tryz.prog 50 [.c (.xp (l, j) r p), .c (.d (.i .i64 k))] S (fun res S' => res = .c (.d (.i .i64 (k + mcRs (xs.map MConstructor.enc)))) ∧ S' = setO S (l, j) (.xf (updR rs r p (mkRs (xs.map MConstructor.enc) k)))) := by
  intro k l j r p S rs hS hp hk
  have hlen := len_mc (f := MConstructor.enc) (fun x => by simp only [MConstructor.enc_eq, encS, encI, List.cons_append, List.nil_append, mcR, mcD]; omega) xs
  obtain ⟨rows, hr⟩ : ∃ rows, rows = xs.map MConstructor.enc := ⟨_, rfl⟩
  have hl : rows.length = xs.length := by rw [hr, List.length_map]
  rw [← hr] at hp hk hlen ⊢
  have ht : ∀ x : Ab.Obj, getO (setO S (l, j) x) (l, j) = some x := fun x => getO_setO_eq _ _ _ _ hS
  have hA : ∀ new, atR (updR rs r p new) r p = some new := fun new => atR_updR hp
  have hU : ∀ a b, updR (updR rs r p a) r p b = updR rs r p b := fun a b => updR_updR hp
  refine acall_cw (rs := [.tmp 4]) Tryz.checked.mixed Tryz.func50 Tryz.ntmps50 rfl rfl rfl rfl rfl ?_
  simp -implicitDefEqProofs (disch := omega) only [go_sem]
  refine loop_at (ι := Nat) Tryz.checked.mixed rfl [0, 1, 5] (fun i => [.c (.xp (1 + l, j) r p), .c (.d (.i .i64 (k + mcRs (rows.take i)))), .c (.d (.i .i64 i))])
    (fun i => [] :: setO S (l, j) (.xf (updR rs r p (mkTo rows k i)))) (fun i => i ≤ xs.length) (fun i => xs.length - i) 0 ?_ ?_ (Nat.zero_le _) ?_
  · have z0 : k + ((mcRs (rows.take 0) : Nat) : Int) = k := by simp [mcRs]
    rw [z0]
    rfl
  · rw [mkTo_zero, updR_same hp, setO_self _ _ hS]
  intro i hi
  simp -implicitDefEqProofs (disch := omega) only [go_sem, ht, hA, mkTo_length, hl]
  with_reducible refine split2 (fun hb => ?_) (fun hb => ?_) <;> have h := hb <;> try simp only [wf_preprocess] at h
  · have hi : i < xs.length := by omega
    have hir : i < rows.length := by omega
    obtain ⟨x, hx⟩ : ∃ x, x = xs[i] := ⟨_, rfl⟩
    have e1 : rows[i] = [.s x.fName, .sl (x.fFields.map MType.enc)] := by
      simp only [hr, List.getElem_map, ← hx]
      simp only [MConstructor.enc_eq, encS, encI, List.cons_append, List.nil_append]
    have hm := mcRs_take hir
    have hle := mcRs_le (rows := rows) (i := i + 1)
    rw [hm, e1] at hle
    rw [e1] at hm
    simp only [mcR, mcD] at hle hm
    have hK : k + ((mcRs (rows.take (i + 1)) : Nat) : Int) = k + ((mcRs (rows.take i) : Nat) : Int) + 1 + ((mcRs (x.fFields.map MType.enc) : Nat) : Int) := by rw [hm]; omega
    have e2 := mkTo_at (k := k) hir
    rw [e1] at e2
    have hC : ∀ row o, cellAt (mkAt rows k i row) i o = row[o]? := fun row o => mkAt_cell hir
    have hG : ∀ row, (mkAt rows k i row).getD i [] = row := fun row => mkAt_get hir
    simp -implicitDefEqProofs (disch := omega) only [go_sem, hb, ht, hA, hU, e2, hC, hG, mkAt_set, mkAt_length, hl, setO_twice, isSD]
    (repeat (with_reducible refine And.intro ?_ ?_; focus first | omega | rfl | assumption | exact ⟨_, rfl, rfl⟩ | (simp; omega) | (simp; done)))
    refine call_w (markText_ok (k + ((mcRs (rows.take i) : Nat) : Int)) (by omega)) ?_
    simp -implicitDefEqProofs (disch := omega) only [go_sem, hb, ht, hA, hU, e2, hC, hG, mkAt_set, mkAt_length, hl, setO_twice, isSD]
    (repeat (with_reducible refine And.intro ?_ ?_; focus first | omega | rfl | assumption | exact ⟨_, rfl, rfl⟩ | (simp; omega) | (simp; done)))
    refine call_d rfl (sub_mk hS hp hir (by rfl) (fun S' rs' g1 g2 => markTypeS_ok x.fFields (k + ((mcRs (rows.take i) : Nat) : Int) + 1) (1 + l) j r _ S' rs' g1 g2 (by omega))) ?_
    simp -implicitDefEqProofs (disch := omega) only [go_sem, hb, ht, hA, hU, e2, hC, hG, mkAt_set, mkAt_length, hl, setO_twice, isSD]
    (repeat (with_reducible refine And.intro ?_ ?_; focus first | omega | rfl | assumption | exact ⟨_, rfl, rfl⟩ | (simp; omega) | (simp; done)))
    refine inv_at (i + 1) (by omega) (by rw [hK]; rfl) ?_ (by omega)
    have h3 := mkAt_to (k := k) hir
    rw [e1] at h3
    simp only [mkR, mkD] at h3
    rw [← h3]
    all_goals rfl
  · simp -implicitDefEqProofs (disch := omega) only [go_sem, hb]
    have hi : i = xs.length := by omega
    rw [mkTo_all (by omega), List.take_of_length_le (by omega)]
    all_goals (first | rfl | exact ⟨rfl, rfl⟩)
set_option maxHeartbeats 4000000 in
theorem heldConstructorS_ok (xs : List MConstructor) : ∀ (k : Int) (l j r : Nat) (p : List (Nat × Nat)) (S : Store) (rs : List (List (List D))), getO S (l, j) = some (.xf rs) → atR rs r p = some (mkRs (xs.map MConstructor.enc) k) → 0 ≤ k ∧ k + mcRs (xs.map MConstructor.enc) ≤ 4611686018427387904 → ACall Tryz.prog 66 [.c (.xp (l, j) r p), .c (.d (.i .i64 k))] S (fun res S' => res = .c (.d (.i .i64 (k + mcRs (xs.map MConstructor.enc)))) ∧ S' = S) := by
  intro k l j r p S rs hS hp hk
  have hlen := len_mc (f := MConstructor.enc) (fun x => by simp only [MConstructor.enc_eq, encS, encI, List.cons_append, List.nil_append, mcR, mcD]; omega) xs
  obtain ⟨rows, hr⟩ : ∃ rows, rows = xs.map MConstructor.enc := ⟨_, rfl⟩
  have hl : rows.length = xs.length := by rw [hr, List.length_map]
  rw [← hr] at hp hk hlen ⊢
  refine acall_cw (rs := [.tmp 4]) Tryz.checked.mixed Tryz.func66 Tryz.ntmps66 rfl rfl rfl rfl rfl ?_
  simp -implicitDefEqProofs (disch := omega) only [go_sem]
  refine loop_at (ι := Nat) Tryz.checked.mixed rfl [0, 1, 5] (fun i => [.c (.xp (1 + l, j) r p), .c (.d (.i .i64 (k + mcRs (rows.take i)))), .c (.d (.i .i64 i))])
    (fun i => [] :: S) (fun i => i ≤ xs.length) (fun i => xs.length - i) 0 ?_ rfl (Nat.zero_le _) ?_
  · have z0 : k + ((mcRs (rows.take 0) : Nat) : Int) = k := by simp [mcRs]
    rw [z0]
    rfl
  intro i hi
  simp -implicitDefEqProofs (disch := omega) only [go_sem, hS, hp, mkRs_length, hl]
  with_reducible refine split2 (fun hb => ?_) (fun hb => ?_) <;> have h := hb <;> try simp only [wf_preprocess] at h
  · have hi : i < xs.length := by omega
    have hir : i < rows.length := by omega
    obtain ⟨x, hx⟩ : ∃ x, x = xs[i] := ⟨_, rfl⟩
    have e1 : rows[i] = [.s x.fName, .sl (x.fFields.map MType.enc)] := by
      simp only [hr, List.getElem_map, ← hx]
      simp only [MConstructor.enc_eq, encS, encI, List.cons_append, List.nil_append]
    have hm := mcRs_take hir
    have hle := mcRs_le (rows := rows) (i := i + 1)
    rw [hm, e1] at hle
    rw [e1] at hm
    simp only [mcR, mcD] at hle hm
    have hK : k + ((mcRs (rows.take (i + 1)) : Nat) : Int) = k + ((mcRs (rows.take i) : Nat) : Int) + 1 + ((mcRs (x.fFields.map MType.enc) : Nat) : Int) := by rw [hm]; omega
    have e2 : mkR rows[i] (k + ((mcRs (rows.take i) : Nat) : Int)) = [.s (mtext (k + ((mcRs (rows.take i) : Nat) : Int))), .sl (mkRs (x.fFields.map MType.enc) (k + ((mcRs (rows.take i) : Nat) : Int) + 1))] := by
      rw [e1]
      simp only [mkR, mkD]
      all_goals rfl
    have hC : ∀ o, cellAt (mkRs rows k) i o = ([.s (mtext (k + ((mcRs (rows.take i) : Nat) : Int))), .sl (mkRs (x.fFields.map MType.enc) (k + ((mcRs (rows.take i) : Nat) : Int) + 1))] : List D)[o]? := fun o => by
      have h1 : (mkRs rows k)[i]? = some (mkR rows[i] (k + ((mcRs (rows.take i) : Nat) : Int))) := by
        have h2 := mkRs_get (k := k) hir
        have h3 : i < (mkRs rows k).length := by rw [mkRs_length]; exact hir
        rw [List.getD_eq_getElem?_getD, List.getElem?_eq_getElem h3, Option.getD_some] at h2
        rw [List.getElem?_eq_getElem h3, h2]
      unfold cellAt
      rw [h1, Option.bind_some, e2]
    have hG := mkRs_get (k := k) hir
    rw [e2] at hG
    simp -implicitDefEqProofs (disch := omega) only [go_sem, hb, hS, hp, hC, hG, mkRs_length, hl, isSD]
    (repeat (with_reducible refine And.intro ?_ ?_; focus first | omega | rfl | assumption | exact ⟨_, rfl, rfl⟩ | (simp; omega) | (simp; done)))
    refine call_w (markText_ok (k + ((mcRs (rows.take i) : Nat) : Int)) (by omega)) ?_
    simp -implicitDefEqProofs (disch := omega) only [go_sem, hb, hS, hp, hC, hG, mkRs_length, hl, isSD]
    (repeat (with_reducible refine And.intro ?_ ?_; focus first | omega | rfl | assumption | exact ⟨_, rfl, rfl⟩ | (simp; omega) | (simp; done)))
    refine call_d rfl (heldTypeS_ok x.fFields (k + ((mcRs (rows.take i) : Nat) : Int) + 1) (1 + l) j r _ _ _ (by rw [getO_up1]; exact hS) (atR_snoc hp (by rw [hC]; rfl)) (by omega)) ?_
    simp -implicitDefEqProofs (disch := omega) only [go_sem, hb, hS, hp, hC, hG, mkRs_length, hl, isSD, dec_neg]
    (repeat (with_reducible refine And.intro ?_ ?_; focus first | omega | rfl | assumption | exact ⟨_, rfl, rfl⟩ | (simp; omega) | (simp; done)))
    refine inv_at (i + 1) (by omega) (by rw [hK]; rfl) rfl (by omega)
  · simp -implicitDefEqProofs (disch := omega) only [go_sem, hb]
    have hi : i = xs.length := by omega
    rw [List.take_of_length_le (by omega)]
    all_goals (first | rfl | exact ⟨rfl, rfl⟩)
end Go.Proofs.YtokcpelkieeddaaGreat

namespace Go.Proofs.YtokcpelkieeddaaGreat
open Go Go.Ab
set_option maxHeartbeats 4000000 in
theorem markDataTypeS_ok (xs : List MDataType) : ∀ (k : Int) (l j r : Nat) (p : List (Nat × Nat)) (S : Store) (rs : List (List (List D))), getO S (l, j) = some (.xf rs) → atR rs r p = some (xs.map MDataType.enc) → 0 ≤ k ∧ k + mcRs (xs.map MDataType.enc) ≤ 4611686018427387904 → ACall Tryz.prog 123 [.c (.xp (l, j) r p), .c (.d (.i .i64 k))] S (fun res S' => res = .c (.d (.i .i64 (k + mcRs (xs.map MDataType.enc)))) ∧ S' = setO S (l, j) (.xf (updR rs r p (mkRs (xs.map MDataType.enc) k)))) := by
  intro k l j r p S rs hS hp hk
  have hlen := len_mc (f := MDataType.enc) (fun x => by simp only [MDataType.enc_eq, encS, encI, List.cons_append, List.nil_append, mcR, mcD]; omega) xs
  obtain ⟨rows, hr⟩ : ∃ rows, rows = xs.map MDataType.enc := ⟨_, rfl⟩
  have hl : rows.length = xs.length := by rw [hr, List.length_map]
  rw [← hr] at hp hk hlen ⊢
  have ht : ∀ x : Ab.Obj, getO (setO S (l, j) x) (l, j) = some x := fun x => getO_setO_eq _ _ _ _ hS
  have hA : ∀ new, atR (updR rs r p new) r p = some new := fun new => atR_updR hp
  have hU : ∀ a b, updR (updR rs r p a) r p b = updR rs r p b := fun a b => updR_updR hp
  refine acall_cw (rs := [.tmp 4]) Tryz.checked.mixed Tryz.func123 Tryz.ntmps123 rfl rfl rfl rfl rfl ?_
  simp -implicitDefEqProofs (disch := omega) only [go_sem]
  refine loop_at (ι := Nat) Tryz.checked.mixed rfl [0, 1, 5] (fun i => [.c (.xp (1 + l, j) r p), .c (.d (.i .i64 (k + mcRs (rows.take i)))), .c (.d (.i .i64 i))])
    (fun i => [] :: setO S (l, j) (.xf (updR rs r p (mkTo rows k i)))) (fun i => i ≤ xs.length) (fun i => xs.length - i) 0 ?_ ?_ (Nat.zero_le _) ?_
  · have z0 : k + ((mcRs (rows.take 0) : Nat) : Int) = k := by simp [mcRs]
    rw [z0]
    rfl
  · rw [mkTo_zero, updR_same hp, setO_self _ _ hS]
  intro i hi
  simp -implicitDefEqProofs (disch := omega) only [go_sem, ht, hA, mkTo_length, hl]
  with_reducible refine split2 (fun hb => ?_) (fun hb => ?_) <;> have h := hb <;> try simp only [wf_preprocess] at h
  · have hi : i < xs.length := by omega
    have hir : i < rows.length := by omega
    obtain ⟨x, hx⟩ : ∃ x, x = xs[i] := ⟨_, rfl⟩
    have e1 : rows[i] = [.s x.fName, .sl (x.fVars.map encS), .sl (x.fConstructors.map MConstructor.enc)] := by
      simp only [hr, List.getElem_map, ← hx]
      simp only [MDataType.enc_eq, encS, encI, List.cons_append, List.nil_append]
    have hm := mcRs_take hir
    have hle := mcRs_le (rows := rows) (i := i + 1)
    rw [hm, e1] at hle
    rw [e1] at hm
    simp only [mcR, mcD] at hle hm
    have hK : k + ((mcRs (rows.take (i + 1)) : Nat) : Int) = k + ((mcRs (rows.take i) : Nat) : Int) + 1 + ((mcRs (x.fVars.map encS) : Nat) : Int) + ((mcRs (x.fConstructors.map MConstructor.enc) : Nat) : Int) := by rw [hm]; omega
    have e2 := mkTo_at (k := k) hir
    rw [e1] at e2
    have hC : ∀ row o, cellAt (mkAt rows k i row) i o = row[o]? := fun row o => mkAt_cell hir
    have hG : ∀ row, (mkAt rows k i row).getD i [] = row := fun row => mkAt_get hir
    simp -implicitDefEqProofs (disch := omega) only [go_sem, hb, ht, hA, hU, e2, hC, hG, mkAt_set, mkAt_length, hl, setO_twice, isSD]
    (repeat (with_reducible refine And.intro ?_ ?_; focus first | omega | rfl | assumption | exact ⟨_, rfl, rfl⟩ | (simp; omega) | (simp; done)))
    refine call_w (markText_ok (k + ((mcRs (rows.take i) : Nat) : Int)) (by omega)) ?_
    simp -implicitDefEqProofs (disch := omega) only [go_sem, hb, ht, hA, hU, e2, hC, hG, mkAt_set, mkAt_length, hl, setO_twice, isSD]
    (repeat (with_reducible refine And.intro ?_ ?_; focus first | omega | rfl | assumption | exact ⟨_, rfl, rfl⟩ | (simp; omega) | (simp; done)))
    refine call_d rfl (sub_mk hS hp hir (by rfl) (fun S' rs' g1 g2 => markStringS_ok x.fVars (k + ((mcRs (rows.take i) : Nat) : Int) + 1) (1 + l) j r _ S' rs' g1 g2 (by omega))) ?_
    simp -implicitDefEqProofs (disch := omega) only [go_sem, hb, ht, hA, hU, e2, hC, hG, mkAt_set, mkAt_length, hl, setO_twice, isSD]
    (repeat (with_reducible refine And.intro ?_ ?_; focus first | omega | rfl | assumption | exact ⟨_, rfl, rfl⟩ | (simp; omega) | (simp; done)))
    refine call_d rfl (sub_mk hS hp hir (by rfl) (fun S' rs' g1 g2 => markConstructorS_ok x.fConstructors (k + ((mcRs (rows.take i) : Nat) : Int) + 1 + ((mcRs (x.fVars.map encS) : Nat) : Int)) (1 + l) j r _ S' rs' g1 g2 (by omega))) ?_
    simp -implicitDefEqProofs (disch := omega) only [go_sem, hb, ht, hA, hU, e2, hC, hG, mkAt_set, mkAt_length, hl, setO_twice, isSD]
    (repeat (with_reducible refine And.intro ?_ ?_; focus first | omega | rfl | assumption | exact ⟨_, rfl, rfl⟩ | (simp; omega) | (simp; done)))
    refine inv_at (i + 1) (by omega) (by rw [hK]; rfl) ?_ (by omega)
    have h3 := mkAt_to (k := k) hir
    rw [e1] at h3
    simp only [mkR, mkD] at h3
    rw [← h3]
    all_goals rfl
  · simp -implicitDefEqProofs (disch := omega) only [go_sem, hb]
    have hi : i = xs.length := by omega
    rw [mkTo_all (by omega), List.take_of_length_le (by omega)]
    all_goals (first | rfl | exact ⟨rfl, rfl⟩)
theorem markDataType_ok (x : MDataType) (k : Int) (l j b : Nat) (S : Store) (rs : List (List (List D))) (hS : getO S (l, j) = some (.xf rs)) (h1 : atR rs (b + 1) [] = some (x.fVars.map encS)) (h2 : atR rs (b + 2) [] = some (x.fConstructors.map MConstructor.enc)) (hk : 0 ≤ k ∧ k + ((mcRs (x.fVars.map encS) : Nat) : Int) + ((mcRs (x.fConstructors.map MConstructor.enc) : Nat) : Int) ≤ 4611686018427387904) : ACall Tryz.prog 13 [.agg [.d (.s x.fName), .xp (l, j) (b + 1) [], .xp (l, j) (b + 2) []], .c (.d (.i .i64 k))] S (fun res S' => res = .c (.d (.i .i64 (k + ((mcRs (x.fVars.map encS) : Nat) : Int) + ((mcRs (x.fConstructors.map MConstructor.enc) : Nat) : Int)))) ∧ S' = setO S (l, j) (.xf (updR (updR (rs) (b + 1) [] (mkRs (x.fVars.map encS) (k))) (b + 2) [] (mkRs (x.fConstructors.map MConstructor.enc) (k + ((mcRs (x.fVars.map encS) : Nat) : Int)))))) := by
  have ht : ∀ x : Ab.Obj, getO (setO S (l, j) x) (l, j) = some x := fun x => getO_setO_eq _ _ _ _ hS
  refine acall_cw (rs := [.tmp 4]) Tryz.checked.mixed Tryz.func13 Tryz.ntmps13 rfl rfl rfl rfl rfl ?_
  simp -implicitDefEqProofs (disch := omega) only [go_sem]
  refine call_d rfl (markStringS_ok x.fVars (k) (1 + l) j (b + 1) [] _ _ (by rw [getO_up1]; first | exact hS | exact ht _) (by first | assumption | (simp (disch := omega) only [ne_eq, atR_ne]; assumption)) (by omega)) ?_
  simp -implicitDefEqProofs (disch := omega) only [go_sem, setO_twice, setO_up1]
  refine call_d rfl (markConstructorS_ok x.fConstructors (k + ((mcRs (x.fVars.map encS) : Nat) : Int)) (1 + l) j (b + 2) [] _ _ (by rw [getO_up1]; first | exact hS | exact ht _) (by first | assumption | (simp (disch := omega) only [ne_eq, atR_ne]; assumption)) (by omega)) ?_
  simp -implicitDefEqProofs (disch := omega) only [go_sem, setO_twice, setO_up1]
  try exact ⟨rfl, rfl⟩
theorem heldDataType_ok (x : MDataType) (k : Int) (l j b : Nat) (S : Store) (rs : List (List (List D))) (hS : getO S (l, j) = some (.xf rs)) (h1 : atR rs (b + 1) [] = some (mkRs (x.fVars.map encS) (k))) (h2 : atR rs (b + 2) [] = some (mkRs (x.fConstructors.map MConstructor.enc) (k + ((mcRs (x.fVars.map encS) : Nat) : Int)))) (hk : 0 ≤ k ∧ k + ((mcRs (x.fVars.map encS) : Nat) : Int) + ((mcRs (x.fConstructors.map MConstructor.enc) : Nat) : Int) ≤ 4611686018427387904) : ACall Tryz.prog 20 [.agg [.d (.s x.fName), .xp (l, j) (b + 1) [], .xp (l, j) (b + 2) []], .c (.d (.i .i64 k))] S (fun res S' => res = .c (.d (.i .i64 (k + ((mcRs (x.fVars.map encS) : Nat) : Int) + ((mcRs (x.fConstructors.map MConstructor.enc) : Nat) : Int)))) ∧ S' = S) := by
  refine acall_cw (rs := [.tmp 4]) Tryz.checked.mixed Tryz.func20 Tryz.ntmps20 rfl rfl rfl rfl rfl ?_
  simp -implicitDefEqProofs (disch := omega) only [go_sem]
  refine call_d rfl (heldStringS_ok x.fVars (k) (1 + l) j (b + 1) [] _ _ (by rw [getO_up1]; first | exact hS | exact ht _) (by first | assumption | (simp (disch := omega) only [ne_eq, atR_ne]; assumption)) (by omega)) ?_
  simp -implicitDefEqProofs (disch := omega) only [go_sem, dec_neg]
  refine call_d rfl (heldConstructorS_ok x.fConstructors (k + ((mcRs (x.fVars.map encS) : Nat) : Int)) (1 + l) j (b + 2) [] _ _ (by rw [getO_up1]; first | exact hS | exact ht _) (by first | assumption | (simp (disch := omega) only [ne_eq, atR_ne]; assumption)) (by omega)) ?_
  simp -implicitDefEqProofs (disch := omega) only [go_sem, dec_neg]
  try exact ⟨rfl, rfl⟩
end Go.Proofs.YtokcpelkieeddaaGreat

namespace Go.Proofs.YtokcpelkieeddaaGreat
open Go Go.Ab
set_option maxHeartbeats 4000000 in
theorem markMethodS_ok (xs : List MMethod) : ∀ (k : Int) (l j r : Nat) (p : List (Nat × Nat)) (S : Store) (rs : List (List (List D))), getO S (l, j) = some (.xf rs) → atR rs r p = some (xs.map MMethod.enc) → 0 ≤ k ∧ k + mcRs (xs.map MMethod.enc) ≤ 4611686018427387904 → ACall Tryz.prog 84 [.c (.xp (l, j) r p), .c (.d (.i .i64 k))] S (fun res S' => res = .c (.d (.i .i64 (k + mcRs (xs.map MMethod.enc)))) ∧ S' = setO S (l, j) (.xf (updR rs r p (mkRs (xs.map MMethod.enc) k)))) := by
  intro k l j r p S rs hS hp hk
  have hlen := len_mc (f := MMethod.enc) (fun x => by simp only [MExpr.enc_eq, MMethod.enc_eq, MType.enc_eq, encS, encI, List.cons_append, List.nil_append, mcR, mcD]; omega) xs
  obtain ⟨rows, hr⟩ : ∃ rows, rows = xs.map MMethod.enc := ⟨_, rfl⟩
  have hl : rows.length = xs.length := by rw [hr, List.length_map]
  rw [← hr] at hp hk hlen ⊢
  have ht : ∀ x : Ab.Obj, getO (setO S (l, j) x) (l, j) = some x := fun x => getO_setO_eq _ _ _ _ hS
  have hA : ∀ new, atR (updR rs r p new) r p = some new := fun new => atR_updR hp
  have hU : ∀ a b, updR (updR rs r p a) r p b = updR rs r p b := fun a b => updR_updR hp
  refine acall_cw (rs := [.tmp 4]) Tryz.checked.mixed Tryz.func84 Tryz.ntmps84 rfl rfl rfl rfl rfl ?_
  simp -implicitDefEqProofs (disch := omega) only [go_sem]
  refine loop_at (ι := Nat) Tryz.checked.mixed rfl [0, 1, 5] (fun i => [.c (.xp (1 + l, j) r p), .c (.d (.i .i64 (k + mcRs (rows.take i)))), .c (.d (.i .i64 i))])
    (fun i => [] :: setO S (l, j) (.xf (updR rs r p (mkTo rows k i)))) (fun i => i ≤ xs.length) (fun i => xs.length - i) 0 ?_ ?_ (Nat.zero_le _) ?_
  · have z0 : k + ((mcRs (rows.take 0) : Nat) : Int) = k := by simp [mcRs]
    rw [z0]
    rfl
  · rw [mkTo_zero, updR_same hp, setO_self _ _ hS]
  intro i hi
  simp -implicitDefEqProofs (disch := omega) only [go_sem, ht, hA, mkTo_length, hl]
  with_reducible refine split2 (fun hb => ?_) (fun hb => ?_) <;> have h := hb <;> try simp only [wf_preprocess] at h
  · have hi : i < xs.length := by omega
    have hir : i < rows.length := by omega
    obtain ⟨x, hx⟩ : ∃ x, x = xs[i] := ⟨_, rfl⟩
    have e1 : rows[i] = [.s x.fName, .sl (x.fVars.map encS), .i .i64 x.fBody.fKind, .s x.fBody.fTrait, .s x.fBody.fName, .i .i64 x.fBody.fN, .i .i64 x.fBody.fType.fKind, .s x.fBody.fType.fName, .sl (x.fBody.fType.fArgs.map MType.enc), .sl (x.fBody.fArgs.map MExpr.enc), .sl (x.fBody.fArms.map MArm.enc)] := by
      simp only [hr, List.getElem_map, ← hx]
      simp only [MExpr.enc_eq, MMethod.enc_eq, MType.enc_eq, encS, encI, List.cons_append, List.nil_append]
    have hm := mcRs_take hir
    have hle := mcRs_le (rows := rows) (i := i + 1)
    rw [hm, e1] at hle
    rw [e1] at hm
    simp only [mcR, mcD] at hle hm
    have hK : k + ((mcRs (rows.take (i + 1)) : Nat) : Int) = k + ((mcRs (rows.take i) : Nat) : Int) + 1 + ((mcRs (x.fVars.map encS) : Nat) : Int) + 1 + 1 + 1 + 1 + 1 + 1 + ((mcRs (x.fBody.fType.fArgs.map MType.enc) : Nat) : Int) + ((mcRs (x.fBody.fArgs.map MExpr.enc) : Nat) : Int) + ((mcRs (x.fBody.fArms.map MArm.enc) : Nat) : Int) := by rw [hm]; omega
    have e2 := mkTo_at (k := k) hir
    rw [e1] at e2
    have hC : ∀ row o, cellAt (mkAt rows k i row) i o = row[o]? := fun row o => mkAt_cell hir
    have hG : ∀ row, (mkAt rows k i row).getD i [] = row := fun row => mkAt_get hir
    simp -implicitDefEqProofs (disch := omega) only [go_sem, hb, ht, hA, hU, e2, hC, hG, mkAt_set, mkAt_length, hl, setO_twice, isSD]
    (repeat (with_reducible refine And.intro ?_ ?_; focus first | omega | rfl | assumption | exact ⟨_, rfl, rfl⟩ | (simp; omega) | (simp; done)))
    refine call_w (markText_ok (k + ((mcRs (rows.take i) : Nat) : Int)) (by omega)) ?_
    simp -implicitDefEqProofs (disch := omega) only [go_sem, hb, ht, hA, hU, e2, hC, hG, mkAt_set, mkAt_length, hl, setO_twice, isSD]
    (repeat (with_reducible refine And.intro ?_ ?_; focus first | omega | rfl | assumption | exact ⟨_, rfl, rfl⟩ | (simp; omega) | (simp; done)))
    refine call_d rfl (sub_mk hS hp hir (by rfl) (fun S' rs' g1 g2 => markStringS_ok x.fVars (k + ((mcRs (rows.take i) : Nat) : Int) + 1) (1 + l) j r _ S' rs' g1 g2 (by omega))) ?_
    simp -implicitDefEqProofs (disch := omega) only [go_sem, hb, ht, hA, hU, e2, hC, hG, mkAt_set, mkAt_length, hl, setO_twice, isSD]
    (repeat (with_reducible refine And.intro ?_ ?_; focus first | omega | rfl | assumption | exact ⟨_, rfl, rfl⟩ | (simp; omega) | (simp; done)))
    refine call_w (markText_ok (k + ((mcRs (rows.take i) : Nat) : Int) + 1 + ((mcRs (x.fVars.map encS) : Nat) : Int) + 1) (by omega)) ?_
    simp -implicitDefEqProofs (disch := omega) only [go_sem, hb, ht, hA, hU, e2, hC, hG, mkAt_set, mkAt_length, hl, setO_twice, isSD]
    (repeat (with_reducible refine And.intro ?_ ?_; focus first | omega | rfl | assumption | exact ⟨_, rfl, rfl⟩ | (simp; omega) | (simp; done)))
    refine call_w (markText_ok (k + ((mcRs (rows.take i) : Nat) : Int) + 1 + ((mcRs (x.fVars.map encS) : Nat) : Int) + 1 + 1) (by omega)) ?_
    simp -implicitDefEqProofs (disch := omega) only [go_sem, hb, ht, hA, hU, e2, hC, hG, mkAt_set, mkAt_length, hl, setO_twice, isSD]
    (repeat (with_reducible refine And.intro ?_ ?_; focus first | omega | rfl | assumption | exact ⟨_, rfl, rfl⟩ | (simp; omega) | (simp; done)))
    refine call_w (markText_ok (k + ((mcRs (rows.take i) : Nat) : Int) + 1 + ((mcRs (x.fVars.map encS) : Nat) : Int) + 1 + 1 + 1 + 1 + 1) (by omega)) ?_
    simp -implicitDefEqProofs (disch := omega) only [go_sem, hb, ht, hA, hU, e2, hC, hG, mkAt_set, mkAt_length, hl, setO_twice, isSD]
    (repeat (with_reducible refine And.intro ?_ ?_; focus first | omega | rfl | assumption | exact ⟨_, rfl, rfl⟩ | (simp; omega) | (simp; done)))
    refine call_d rfl (sub_mk hS hp hir (by rfl) (fun S' rs' g1 g2 => markTypeS_ok x.fBody.fType.fArgs (k + ((mcRs (rows.take i) : Nat) : Int) + 1 + ((mcRs (x.fVars.map encS) : Nat) : Int) + 1 + 1 + 1 + 1 + 1 + 1) (1 + l) j r _ S' rs' g1 g2 (by omega))) ?_
    simp -implicitDefEqProofs (disch := omega) only [go_sem, hb, ht, hA, hU, e2, hC, hG, mkAt_set, mkAt_length, hl, setO_twice, isSD]
    (repeat (with_reducible refine And.intro ?_ ?_; focus first | omega | rfl | assumption | exact ⟨_, rfl, rfl⟩ | (simp; omega) | (simp; done)))
    refine call_d rfl (sub_mk hS hp hir (by rfl) (fun S' rs' g1 g2 => markExprS_ok x.fBody.fArgs (k + ((mcRs (rows.take i) : Nat) : Int) + 1 + ((mcRs (x.fVars.map encS) : Nat) : Int) + 1 + 1 + 1 + 1 + 1 + 1 + ((mcRs (x.fBody.fType.fArgs.map MType.enc) : Nat) : Int)) (1 + l) j r _ S' rs' g1 g2 (by omega))) ?_
    simp -implicitDefEqProofs (disch := omega) only [go_sem, hb, ht, hA, hU, e2, hC, hG, mkAt_set, mkAt_length, hl, setO_twice, isSD]
    (repeat (with_reducible refine And.intro ?_ ?_; focus first | omega | rfl | assumption | exact ⟨_, rfl, rfl⟩ | (simp; omega) | (simp; done)))
    refine call_d rfl (sub_mk hS hp hir (by rfl) (fun S' rs' g1 g2 => markArmS_ok x.fBody.fArms (k + ((mcRs (rows.take i) : Nat) : Int) + 1 + ((mcRs (x.fVars.map encS) : Nat) : Int) + 1 + 1 + 1 + 1 + 1 + 1 + ((mcRs (x.fBody.fType.fArgs.map MType.enc) : Nat) : Int) + ((mcRs (x.fBody.fArgs.map MExpr.enc) : Nat) : Int)) (1 + l) j r _ S' rs' g1 g2 (by omega))) ?_
    simp -implicitDefEqProofs (disch := omega) only [go_sem, hb, ht, hA, hU, e2, hC, hG, mkAt_set, mkAt_length, hl, setO_twice, isSD]
    (repeat (with_reducible refine And.intro ?_ ?_; focus first | omega | rfl | assumption | exact ⟨_, rfl, rfl⟩ | (simp; omega) | (simp; done)))
    refine inv_at (i + 1) (by omega) (by rw [hK]; rfl) ?_ (by omega)
    have h3 := mkAt_to (k := k) hir
    rw [e1] at h3
    simp only [mkR, mkD] at h3
    rw [← h3]
    all_goals rfl
  · simp -implicitDefEqProofs (disch := omega) only [go_sem, hb]
    have hi : i = xs.length := by omega
    rw [mkTo_all (by omega), List.take_of_length_le (by omega)]
    all_goals (first | rfl | exact ⟨rfl, rfl⟩)
end Go.Proofs.YtokcpelkieeddaaGreat

namespace Go.Proofs.YtokcpelkieeddaaGreat
open Go Go.Ab
set_option maxHeartbeats 4000000 in
theorem markInstanceS_ok (xs : List MInstance) : ∀ (k : Int) (l j r : Nat) (p : List (Nat × Nat)) (S : Store) (rs : List (List (List D))), getO S (l, j) = some (.xf rs) → atR rs r p = some (xs.map MInstance.enc) → 0 ≤ k ∧ k + mcRs (xs.map MInstance.enc) ≤ 4611686018427387904 → ACall Tryz.prog 124 [.c (.xp (l, j) r p), .c (.d (.i .i64 k))] S (fun res S' => res = .c (.d (.i .i64 (k + mcRs (xs.map MInstance.enc)))) ∧ S' = setO S (l, j) (.xf (updR rs r p (mkRs (xs.map MInstance.enc) k)))) := by
  intro k l j r p S rs hS hp hk
  have hlen := len_mc (f := MInstance.enc) (fun x => by simp only [MInstance.enc_eq, MType.enc_eq, encS, encI, List.cons_append, List.nil_append, mcR, mcD]; omega) xs
  obtain ⟨rows, hr⟩ : ∃ rows, rows = xs.map MInstance.enc := ⟨_, rfl⟩
  have hl : rows.length = xs.length := by rw [hr, List.length_map]
  rw [← hr] at hp hk hlen ⊢
  have ht : ∀ x : Ab.Obj, getO (setO S (l, j) x) (l, j) = some x := fun x => getO_setO_eq _ _ _ _ hS
  have hA : ∀ new, atR (updR rs r p new) r p = some new := fun new => atR_updR hp
  have hU : ∀ a b, updR (updR rs r p a) r p b = updR rs r p b := fun a b => updR_updR hp
  refine acall_cw (rs := [.tmp 4]) Tryz.checked.mixed Tryz.func124 Tryz.ntmps124 rfl rfl rfl rfl rfl ?_
  simp -implicitDefEqProofs (disch := omega) only [go_sem]
  refine loop_at (ι := Nat) Tryz.checked.mixed rfl [0, 1, 5] (fun i => [.c (.xp (1 + l, j) r p), .c (.d (.i .i64 (k + mcRs (rows.take i)))), .c (.d (.i .i64 i))])
    (fun i => [] :: setO S (l, j) (.xf (updR rs r p (mkTo rows k i)))) (fun i => i ≤ xs.length) (fun i => xs.length - i) 0 ?_ ?_ (Nat.zero_le _) ?_
  · have z0 : k + ((mcRs (rows.take 0) : Nat) : Int) = k := by simp [mcRs]
    rw [z0]
    rfl
  · rw [mkTo_zero, updR_same hp, setO_self _ _ hS]
  intro i hi
  simp -implicitDefEqProofs (disch := omega) only [go_sem, ht, hA, mkTo_length, hl]
  with_reducible refine split2 (fun hb => ?_) (fun hb => ?_) <;> have h := hb <;> try simp only [wf_preprocess] at h
  · have hi : i < xs.length := by omega
    have hir : i < rows.length := by omega
    obtain ⟨x, hx⟩ : ∃ x, x = xs[i] := ⟨_, rfl⟩
    have e1 : rows[i] = [.s x.fTrait, .sl (x.fVars.map encS), .i .i64 x.fHead.fKind, .s x.fHead.fName, .sl (x.fHead.fArgs.map MType.enc), .sl (x.fWhere.map MBound.enc), .b x.fDefault, .b x.fHasAssoc, .i .i64 x.fAssoc.fKind, .s x.fAssoc.fName, .sl (x.fAssoc.fArgs.map MType.enc), .sl (x.fMethods.map MMethod.enc)] := by
      simp only [hr, List.getElem_map, ← hx]
      simp only [MInstance.enc_eq, MType.enc_eq, encS, encI, List.cons_append, List.nil_append]
    have hm := mcRs_take hir
    have hle := mcRs_le (rows := rows) (i := i + 1)
    rw [hm, e1] at hle
    rw [e1] at hm
    simp only [mcR, mcD] at hle hm
    have hK : k + ((mcRs (rows.take (i + 1)) : Nat) : Int) = k + ((mcRs (rows.take i) : Nat) : Int) + 1 + ((mcRs (x.fVars.map encS) : Nat) : Int) + 1 + 1 + ((mcRs (x.fHead.fArgs.map MType.enc) : Nat) : Int) + ((mcRs (x.fWhere.map MBound.enc) : Nat) : Int) + 1 + 1 + 1 + 1 + ((mcRs (x.fAssoc.fArgs.map MType.enc) : Nat) : Int) + ((mcRs (x.fMethods.map MMethod.enc) : Nat) : Int) := by rw [hm]; omega
    have e2 := mkTo_at (k := k) hir
    rw [e1] at e2
    have hC : ∀ row o, cellAt (mkAt rows k i row) i o = row[o]? := fun row o => mkAt_cell hir
    have hG : ∀ row, (mkAt rows k i row).getD i [] = row := fun row => mkAt_get hir
    simp -implicitDefEqProofs (disch := omega) only [go_sem, hb, ht, hA, hU, e2, hC, hG, mkAt_set, mkAt_length, hl, setO_twice, isSD]
    (repeat (with_reducible refine And.intro ?_ ?_; focus first | omega | rfl | assumption | exact ⟨_, rfl, rfl⟩ | (simp; omega) | (simp; done)))
    refine call_w (markText_ok (k + ((mcRs (rows.take i) : Nat) : Int)) (by omega)) ?_
    simp -implicitDefEqProofs (disch := omega) only [go_sem, hb, ht, hA, hU, e2, hC, hG, mkAt_set, mkAt_length, hl, setO_twice, isSD]
    (repeat (with_reducible refine And.intro ?_ ?_; focus first | omega | rfl | assumption | exact ⟨_, rfl, rfl⟩ | (simp; omega) | (simp; done)))
    refine call_d rfl (sub_mk hS hp hir (by rfl) (fun S' rs' g1 g2 => markStringS_ok x.fVars (k + ((mcRs (rows.take i) : Nat) : Int) + 1) (1 + l) j r _ S' rs' g1 g2 (by omega))) ?_
    simp -implicitDefEqProofs (disch := omega) only [go_sem, hb, ht, hA, hU, e2, hC, hG, mkAt_set, mkAt_length, hl, setO_twice, isSD]
    (repeat (with_reducible refine And.intro ?_ ?_; focus first | omega | rfl | assumption | exact ⟨_, rfl, rfl⟩ | (simp; omega) | (simp; done)))
    refine call_w (markText_ok (k + ((mcRs (rows.take i) : Nat) : Int) + 1 + ((mcRs (x.fVars.map encS) : Nat) : Int) + 1) (by omega)) ?_
    simp -implicitDefEqProofs (disch := omega) only [go_sem, hb, ht, hA, hU, e2, hC, hG, mkAt_set, mkAt_length, hl, setO_twice, isSD]
    (repeat (with_reducible refine And.intro ?_ ?_; focus first | omega | rfl | assumption | exact ⟨_, rfl, rfl⟩ | (simp; omega) | (simp; done)))
    refine call_d rfl (sub_mk hS hp hir (by rfl) (fun S' rs' g1 g2 => markTypeS_ok x.fHead.fArgs (k + ((mcRs (rows.take i) : Nat) : Int) + 1 + ((mcRs (x.fVars.map encS) : Nat) : Int) + 1 + 1) (1 + l) j r _ S' rs' g1 g2 (by omega))) ?_
    simp -implicitDefEqProofs (disch := omega) only [go_sem, hb, ht, hA, hU, e2, hC, hG, mkAt_set, mkAt_length, hl, setO_twice, isSD]
    (repeat (with_reducible refine And.intro ?_ ?_; focus first | omega | rfl | assumption | exact ⟨_, rfl, rfl⟩ | (simp; omega) | (simp; done)))
    refine call_d rfl (sub_mk hS hp hir (by rfl) (fun S' rs' g1 g2 => markBoundS_ok x.fWhere (k + ((mcRs (rows.take i) : Nat) : Int) + 1 + ((mcRs (x.fVars.map encS) : Nat) : Int) + 1 + 1 + ((mcRs (x.fHead.fArgs.map MType.enc) : Nat) : Int)) (1 + l) j r _ S' rs' g1 g2 (by omega))) ?_
    simp -implicitDefEqProofs (disch := omega) only [go_sem, hb, ht, hA, hU, e2, hC, hG, mkAt_set, mkAt_length, hl, setO_twice, isSD]
    (repeat (with_reducible refine And.intro ?_ ?_; focus first | omega | rfl | assumption | exact ⟨_, rfl, rfl⟩ | (simp; omega) | (simp; done)))
    refine call_w (markText_ok (k + ((mcRs (rows.take i) : Nat) : Int) + 1 + ((mcRs (x.fVars.map encS) : Nat) : Int) + 1 + 1 + ((mcRs (x.fHead.fArgs.map MType.enc) : Nat) : Int) + ((mcRs (x.fWhere.map MBound.enc) : Nat) : Int) + 1 + 1 + 1) (by omega)) ?_
    simp -implicitDefEqProofs (disch := omega) only [go_sem, hb, ht, hA, hU, e2, hC, hG, mkAt_set, mkAt_length, hl, setO_twice, isSD]
    (repeat (with_reducible refine And.intro ?_ ?_; focus first | omega | rfl | assumption | exact ⟨_, rfl, rfl⟩ | (simp; omega) | (simp; done)))
    refine call_d rfl (sub_mk hS hp hir (by rfl) (fun S' rs' g1 g2 => markTypeS_ok x.fAssoc.fArgs (k + ((mcRs (rows.take i) : Nat) : Int) + 1 + ((mcRs (x.fVars.map encS) : Nat) : Int) + 1 + 1 + ((mcRs (x.fHead.fArgs.map MType.enc) : Nat) : Int) + ((mcRs (x.fWhere.map MBound.enc) : Nat) : Int) + 1 + 1 + 1 + 1) (1 + l) j r _ S' rs' g1 g2 (by omega))) ?_
    simp -implicitDefEqProofs (disch := omega) only [go_sem, hb, ht, hA, hU, e2, hC, hG, mkAt_set, mkAt_length, hl, setO_twice, isSD]
    (repeat (with_reducible refine And.intro ?_ ?_; focus first | omega | rfl | assumption | exact ⟨_, rfl, rfl⟩ | (simp; omega) | (simp; done)))
    refine call_d rfl (sub_mk hS hp hir (by rfl) (fun S' rs' g1 g2 => markMethodS_ok x.fMethods (k + ((mcRs (rows.take i) : Nat) : Int) + 1 + ((mcRs (x.fVars.map encS) : Nat) : Int) + 1 + 1 + ((mcRs (x.fHead.fArgs.map MType.enc) : Nat) : Int) + ((mcRs (x.fWhere.map MBound.enc) : Nat) : Int) + 1 + 1 + 1 + 1 + ((mcRs (x.fAssoc.fArgs.map MType.enc) : Nat) : Int)) (1 + l) j r _ S' rs' g1 g2 (by omega))) ?_
    simp -implicitDefEqProofs (disch := omega) only [go_sem, hb, ht, hA, hU, e2, hC, hG, mkAt_set, mkAt_length, hl, setO_twice, isSD]
    (repeat (with_reducible refine And.intro ?_ ?_; focus first | omega | rfl | assumption | exact ⟨_, rfl, rfl⟩ | (simp; omega) | (simp; done)))
    refine inv_at (i + 1) (by omega) (by rw [hK]; rfl) ?_ (by omega)
    have h3 := mkAt_to (k := k) hir
    rw [e1] at h3
    simp only [mkR, mkD] at h3
    rw [← h3]
    all_goals rfl
  · simp -implicitDefEqProofs (disch := omega) only [go_sem, hb]
    have hi : i = xs.length := by omega
    rw [mkTo_all (by omega), List.take_of_length_le (by omega)]
    all_goals (first | rfl | exact ⟨rfl, rfl⟩)
end Go.Proofs.YtokcpelkieeddaaGreat

namespace Go.Proofs.YtokcpelkieeddaaGreat
open Go Go.Ab
set_option maxHeartbeats 4000000 in
theorem markParamS_ok (xs : List MParam) : ∀ (k : Int) (l j r : Nat) (p : List (Nat × Nat)) (S : Store) (rs : List (List (List D))), getO S (l, j) = some (.xf rs) → atR rs r p = some (xs.map MParam.enc) → 0 ≤ k ∧ k + mcRs (xs.map MParam.enc) ≤ 4611686018427387904 → ACall Tryz.prog 180 [.c (.xp (l, j) r p), .c (.d (.i .i64 k))] S (fun res S' => res = .c (.d (.i .i64 (k + mcRs (xs.map MParam.enc)))) ∧ S' = setO S (l, j) (.xf (updR rs r p (mkRs (xs.map MParam.enc) k)))) := by
  intro k l j r p S rs hS hp hk
  have hlen := len_mc (f := MParam.enc) (fun x => by simp only [MParam.enc_eq, MType.enc_eq, encS, encI, List.cons_append, List.nil_append, mcR, mcD]; omega) xs
  obtain ⟨rows, hr⟩ : ∃ rows, rows = xs.map MParam.enc := ⟨_, rfl⟩
  have hl : rows.length = xs.length := by rw [hr, List.length_map]
  rw [← hr] at hp hk hlen ⊢
  have ht : ∀ x : Ab.Obj, getO (setO S (l, j) x) (l, j) = some x := fun x => getO_setO_eq _ _ _ _ hS
  have hA : ∀ new, atR (updR rs r p new) r p = some new := fun new => atR_updR hp
  have hU : ∀ a b, updR (updR rs r p a) r p b = updR rs r p b := fun a b => updR_updR hp
  refine acall_cw (rs := [.tmp 4]) Tryz.checked.mixed Tryz.func180 Tryz.ntmps180 rfl rfl rfl rfl rfl ?_
  simp -implicitDefEqProofs (disch := omega) only [go_sem]
  refine loop_at (ι := Nat) Tryz.checked.mixed rfl [0, 1, 5] (fun i => [.c (.xp (1 + l, j) r p), .c (.d (.i .i64 (k + mcRs (rows.take i)))), .c (.d (.i .i64 i))])
    (fun i => [] :: setO S (l, j) (.xf (updR rs r p (mkTo rows k i)))) (fun i => i ≤ xs.length) (fun i => xs.length - i) 0 ?_ ?_ (Nat.zero_le _) ?_
  · have z0 : k + ((mcRs (rows.take 0) : Nat) : Int) = k := by simp [mcRs]
    rw [z0]
    rfl
  · rw [mkTo_zero, updR_same hp, setO_self _ _ hS]
  intro i hi
  simp -implicitDefEqProofs (disch := omega) only [go_sem, ht, hA, mkTo_length, hl]
  with_reducible refine split2 (fun hb => ?_) (fun hb => ?_) <;> have h := hb <;> try simp only [wf_preprocess] at h
  · have hi : i < xs.length := by omega
    have hir : i < rows.length := by omega
    obtain ⟨x, hx⟩ : ∃ x, x = xs[i] := ⟨_, rfl⟩
    have e1 : rows[i] = [.s x.fName, .i .i64 x.fType.fKind, .s x.fType.fName, .sl (x.fType.fArgs.map MType.enc)] := by
      simp only [hr, List.getElem_map, ← hx]
      simp only [MParam.enc_eq, MType.enc_eq, encS, encI, List.cons_append, List.nil_append]
    have hm := mcRs_take hir
    have hle := mcRs_le (rows := rows) (i := i + 1)
    rw [hm, e1] at hle
    rw [e1] at hm
    simp only [mcR, mcD] at hle hm
    have hK : k + ((mcRs (rows.take (i + 1)) : Nat) : Int) = k + ((mcRs (rows.take i) : Nat) : Int) + 1 + 1 + 1 + ((mcRs (x.fType.fArgs.map MType.enc) : Nat) : Int) := by rw [hm]; omega
    have e2 := mkTo_at (k := k) hir
    rw [e1] at e2
    have hC : ∀ row o, cellAt (mkAt rows k i row) i o = row[o]? := fun row o => mkAt_cell hir
    have hG : ∀ row, (mkAt rows k i row).getD i [] = row := fun row => mkAt_get hir
    simp -implicitDefEqProofs (disch := omega) only [go_sem, hb, ht, hA, hU, e2, hC, hG, mkAt_set, mkAt_length, hl, setO_twice, isSD]
    (repeat (with_reducible refine And.intro ?_ ?_; focus first | omega | rfl | assumption | exact ⟨_, rfl, rfl⟩ | (simp; omega) | (simp; done)))
    refine call_w (markText_ok (k + ((mcRs (rows.take i) : Nat) : Int)) (by omega)) ?_
    simp -implicitDefEqProofs (disch := omega) only [go_sem, hb, ht, hA, hU, e2, hC, hG, mkAt_set, mkAt_length, hl, setO_twice, isSD]
    (repeat (with_reducible refine And.intro ?_ ?_; focus first | omega | rfl | assumption | exact ⟨_, rfl, rfl⟩ | (simp; omega) | (simp; done)))
    refine call_w (markText_ok (k + ((mcRs (rows.take i) : Nat) : Int) + 1 + 1) (by omega)) ?_
    simp -implicitDefEqProofs (disch := omega) only [go_sem, hb, ht, hA, hU, e2, hC, hG, mkAt_set, mkAt_length, hl, setO_twice, isSD]
    (repeat (with_reducible refine And.intro ?_ ?_; focus first | omega | rfl | assumption | exact ⟨_, rfl, rfl⟩ | (simp; omega) | (simp; done)))
    refine call_d rfl (sub_mk hS hp hir (by rfl) (fun S' rs' g1 g2 => markTypeS_ok x.fType.fArgs (k + ((mcRs (rows.take i) : Nat) : Int) + 1 + 1 + 1) (1 + l) j r _ S' rs' g1 g2 (by omega))) ?_
    simp -implicitDefEqProofs (disch := omega) only [go_sem, hb, ht, hA, hU, e2, hC, hG, mkAt_set, mkAt_length, hl, setO_twice, isSD]
    (repeat (with_reducible refine And.intro ?_ ?_; focus first | omega | rfl | assumption | exact ⟨_, rfl, rfl⟩ | (simp; omega) | (simp; done)))
    refine inv_at (i + 1) (by omega) (by rw [hK]; rfl) ?_ (by omega)
    have h3 := mkAt_to (k := k) hir
    rw [e1] at h3
    simp only [mkR, mkD] at h3
    rw [← h3]
    all_goals rfl
  · simp -implicitDefEqProofs (disch := omega) only [go_sem, hb]
    have hi : i = xs.length := by omega
    rw [mkTo_all (by omega), List.take_of_length_le (by omega)]
    all_goals (first | rfl | exact ⟨rfl, rfl⟩)
end Go.Proofs.YtokcpelkieeddaaGreat

namespace Go.Proofs.YtokcpelkieeddaaGreat
open Go Go.Ab
set_option maxHeartbeats 4000000 in
theorem markFunctionS_ok (xs : List MFunction) : ∀ (k : Int) (l j r : Nat) (p : List (Nat × Nat)) (S : Store) (rs : List (List (List D))), getO S (l, j) = some (.xf rs) → atR rs r p = some (xs.map MFunction.enc) → 0 ≤ k ∧ k + mcRs (xs.map MFunction.enc) ≤ 4611686018427387904 → ACall Tryz.prog 125 [.c (.xp (l, j) r p), .c (.d (.i .i64 k))] S (fun res S' => res = .c (.d (.i .i64 (k + mcRs (xs.map MFunction.enc)))) ∧ S' = setO S (l, j) (.xf (updR rs r p (mkRs (xs.map MFunction.enc) k)))) := by
  intro k l j r p S rs hS hp hk
  have hlen := len_mc (f := MFunction.enc) (fun x => by simp only [MExpr.enc_eq, MFunction.enc_eq, MType.enc_eq, encS, encI, List.cons_append, List.nil_append, mcR, mcD]; omega) xs
  obtain ⟨rows, hr⟩ : ∃ rows, rows = xs.map MFunction.enc := ⟨_, rfl⟩
  have hl : rows.length = xs.length := by rw [hr, List.length_map]
  rw [← hr] at hp hk hlen ⊢
  have ht : ∀ x : Ab.Obj, getO (setO S (l, j) x) (l, j) = some x := fun x => getO_setO_eq _ _ _ _ hS
  have hA : ∀ new, atR (updR rs r p new) r p = some new := fun new => atR_updR hp
  have hU : ∀ a b, updR (updR rs r p a) r p b = updR rs r p b := fun a b => updR_updR hp
  refine acall_cw (rs := [.tmp 4]) Tryz.checked.mixed Tryz.func125 Tryz.ntmps125 rfl rfl rfl rfl rfl ?_
  simp -implicitDefEqProofs (disch := omega) only [go_sem]
  refine loop_at (ι := Nat) Tryz.checked.mixed rfl [0, 1, 5] (fun i => [.c (.xp (1 + l, j) r p), .c (.d (.i .i64 (k + mcRs (rows.take i)))), .c (.d (.i .i64 i))])
    (fun i => [] :: setO S (l, j) (.xf (updR rs r p (mkTo rows k i)))) (fun i => i ≤ xs.length) (fun i => xs.length - i) 0 ?_ ?_ (Nat.zero_le _) ?_
  · have z0 : k + ((mcRs (rows.take 0) : Nat) : Int) = k := by simp [mcRs]
    rw [z0]
    rfl
  · rw [mkTo_zero, updR_same hp, setO_self _ _ hS]
  intro i hi
  simp -implicitDefEqProofs (disch := omega) only [go_sem, ht, hA, mkTo_length, hl]
  with_reducible refine split2 (fun hb => ?_) (fun hb => ?_) <;> have h := hb <;> try simp only [wf_preprocess] at h
  · have hi : i < xs.length := by omega
    have hir : i < rows.length := by omega
    obtain ⟨x, hx⟩ : ∃ x, x = xs[i] := ⟨_, rfl⟩
    have e1 : rows[i] = [.s x.fName, .sl (x.fVars.map encS), .sl (x.fWhere.map MBound.enc), .sl (x.fParams.map MParam.enc), .i .i64 x.fResult.fKind, .s x.fResult.fName, .sl (x.fResult.fArgs.map MType.enc), .i .i64 x.fBody.fKind, .s x.fBody.fTrait, .s x.fBody.fName, .i .i64 x.fBody.fN, .i .i64 x.fBody.fType.fKind, .s x.fBody.fType.fName, .sl (x.fBody.fType.fArgs.map MType.enc), .sl (x.fBody.fArgs.map MExpr.enc), .sl (x.fBody.fArms.map MArm.enc)] := by
      simp only [hr, List.getElem_map, ← hx]
      simp only [MExpr.enc_eq, MFunction.enc_eq, MType.enc_eq, encS, encI, List.cons_append, List.nil_append]
    have hm := mcRs_take hir
    have hle := mcRs_le (rows := rows) (i := i + 1)
    rw [hm, e1] at hle
    rw [e1] at hm
    simp only [mcR, mcD] at hle hm
    have hK : k + ((mcRs (rows.take (i + 1)) : Nat) : Int) = k + ((mcRs (rows.take i) : Nat) : Int) + 1 + ((mcRs (x.fVars.map encS) : Nat) : Int) + ((mcRs (x.fWhere.map MBound.enc) : Nat) : Int) + ((mcRs (x.fParams.map MParam.enc) : Nat) : Int) + 1 + 1 + ((mcRs (x.fResult.fArgs.map MType.enc) : Nat) : Int) + 1 + 1 + 1 + 1 + 1 + 1 + ((mcRs (x.fBody.fType.fArgs.map MType.enc) : Nat) : Int) + ((mcRs (x.fBody.fArgs.map MExpr.enc) : Nat) : Int) + ((mcRs (x.fBody.fArms.map MArm.enc) : Nat) : Int) := by rw [hm]; omega
    have e2 := mkTo_at (k := k) hir
    rw [e1] at e2
    have hC : ∀ row o, cellAt (mkAt rows k i row) i o = row[o]? := fun row o => mkAt_cell hir
    have hG : ∀ row, (mkAt rows k i row).getD i [] = row := fun row => mkAt_get hir
    simp -implicitDefEqProofs (disch := omega) only [go_sem, hb, ht, hA, hU, e2, hC, hG, mkAt_set, mkAt_length, hl, setO_twice, isSD]
    (repeat (with_reducible refine And.intro ?_ ?_; focus first | omega | rfl | assumption | exact ⟨_, rfl, rfl⟩ | (simp; omega) | (simp; done)))
    refine call_w (markText_ok (k + ((mcRs (rows.take i) : Nat) : Int)) (by omega)) ?_
    simp -implicitDefEqProofs (disch := omega) only [go_sem, hb, ht, hA, hU, e2, hC, hG, mkAt_set, mkAt_length, hl, setO_twice, isSD]
    (repeat (with_reducible refine And.intro ?_ ?_; focus first | omega | rfl | assumption | exact ⟨_, rfl, rfl⟩ | (simp; omega) | (simp; done)))
    refine call_d rfl (sub_mk hS hp hir (by rfl) (fun S' rs' g1 g2 => markStringS_ok x.fVars (k + ((mcRs (rows.take i) : Nat) : Int) + 1) (1 + l) j r _ S' rs' g1 g2 (by omega))) ?_
    simp -implicitDefEqProofs (disch := omega) only [go_sem, hb, ht, hA, hU, e2, hC, hG, mkAt_set, mkAt_length, hl, setO_twice, isSD]
    (repeat (with_reducible refine And.intro ?_ ?_; focus first | omega | rfl | assumption | exact ⟨_, rfl, rfl⟩ | (simp; omega) | (simp; done)))
    refine call_d rfl (sub_mk hS hp hir (by rfl) (fun S' rs' g1 g2 => markBoundS_ok x.fWhere (k + ((mcRs (rows.take i) : Nat) : Int) + 1 + ((mcRs (x.fVars.map encS) : Nat) : Int)) (1 + l) j r _ S' rs' g1 g2 (by omega))) ?_
    simp -implicitDefEqProofs (disch := omega) only [go_sem, hb, ht, hA, hU, e2, hC, hG, mkAt_set, mkAt_length, hl, setO_twice, isSD]
    (repeat (with_reducible refine And.intro ?_ ?_; focus first | omega | rfl | assumption | exact ⟨_, rfl, rfl⟩ | (simp; omega) | (simp; done)))
    refine call_d rfl (sub_mk hS hp hir (by rfl) (fun S' rs' g1 g2 => markParamS_ok x.fParams (k + ((mcRs (rows.take i) : Nat) : Int) + 1 + ((mcRs (x.fVars.map encS) : Nat) : Int) + ((mcRs (x.fWhere.map MBound.enc) : Nat) : Int)) (1 + l) j r _ S' rs' g1 g2 (by omega))) ?_
    simp -implicitDefEqProofs (disch := omega) only [go_sem, hb, ht, hA, hU, e2, hC, hG, mkAt_set, mkAt_length, hl, setO_twice, isSD]
    (repeat (with_reducible refine And.intro ?_ ?_; focus first | omega | rfl | assumption | exact ⟨_, rfl, rfl⟩ | (simp; omega) | (simp; done)))
    refine call_w (markText_ok (k + ((mcRs (rows.take i) : Nat) : Int) + 1 + ((mcRs (x.fVars.map encS) : Nat) : Int) + ((mcRs (x.fWhere.map MBound.enc) : Nat) : Int) + ((mcRs (x.fParams.map MParam.enc) : Nat) : Int) + 1) (by omega)) ?_
    simp -implicitDefEqProofs (disch := omega) only [go_sem, hb, ht, hA, hU, e2, hC, hG, mkAt_set, mkAt_length, hl, setO_twice, isSD]
    (repeat (with_reducible refine And.intro ?_ ?_; focus first | omega | rfl | assumption | exact ⟨_, rfl, rfl⟩ | (simp; omega) | (simp; done)))
    refine call_d rfl (sub_mk hS hp hir (by rfl) (fun S' rs' g1 g2 => markTypeS_ok x.fResult.fArgs (k + ((mcRs (rows.take i) : Nat) : Int) + 1 + ((mcRs (x.fVars.map encS) : Nat) : Int) + ((mcRs (x.fWhere.map MBound.enc) : Nat) : Int) + ((mcRs (x.fParams.map MParam.enc) : Nat) : Int) + 1 + 1) (1 + l) j r _ S' rs' g1 g2 (by omega))) ?_
    simp -implicitDefEqProofs (disch := omega) only [go_sem, hb, ht, hA, hU, e2, hC, hG, mkAt_set, mkAt_length, hl, setO_twice, isSD]
    (repeat (with_reducible refine And.intro ?_ ?_; focus first | omega | rfl | assumption | exact ⟨_, rfl, rfl⟩ | (simp; omega) | (simp; done)))
    refine call_w (markText_ok (k + ((mcRs (rows.take i) : Nat) : Int) + 1 + ((mcRs (x.fVars.map encS) : Nat) : Int) + ((mcRs (x.fWhere.map MBound.enc) : Nat) : Int) + ((mcRs (x.fParams.map MParam.enc) : Nat) : Int) + 1 + 1 + ((mcRs (x.fResult.fArgs.map MType.enc) : Nat) : Int) + 1) (by omega)) ?_
    simp -implicitDefEqProofs (disch := omega) only [go_sem, hb, ht, hA, hU, e2, hC, hG, mkAt_set, mkAt_length, hl, setO_twice, isSD]
    (repeat (with_reducible refine And.intro ?_ ?_; focus first | omega | rfl | assumption | exact ⟨_, rfl, rfl⟩ | (simp; omega) | (simp; done)))
    refine call_w (markText_ok (k + ((mcRs (rows.take i) : Nat) : Int) + 1 + ((mcRs (x.fVars.map encS) : Nat) : Int) + ((mcRs (x.fWhere.map MBound.enc) : Nat) : Int) + ((mcRs (x.fParams.map MParam.enc) : Nat) : Int) + 1 + 1 + ((mcRs (x.fResult.fArgs.map MType.enc) : Nat) : Int) + 1 + 1) (by omega)) ?_
    simp -implicitDefEqProofs (disch := omega) only [go_sem, hb, ht, hA, hU, e2, hC, hG, mkAt_set, mkAt_length, hl, setO_twice, isSD]
    (repeat (with_reducible refine And.intro ?_ ?_; focus first | omega | rfl | assumption | exact ⟨_, rfl, rfl⟩ | (simp; omega) | (simp; done)))
    refine call_w (markText_ok (k + ((mcRs (rows.take i) : Nat) : Int) + 1 + ((mcRs (x.fVars.map encS) : Nat) : Int) + ((mcRs (x.fWhere.map MBound.enc) : Nat) : Int) + ((mcRs (x.fParams.map MParam.enc) : Nat) : Int) + 1 + 1 + ((mcRs (x.fResult.fArgs.map MType.enc) : Nat) : Int) + 1 + 1 + 1 + 1 + 1) (by omega)) ?_
    simp -implicitDefEqProofs (disch := omega) only [go_sem, hb, ht, hA, hU, e2, hC, hG, mkAt_set, mkAt_length, hl, setO_twice, isSD]
    (repeat (with_reducible refine And.intro ?_ ?_; focus first | omega | rfl | assumption | exact ⟨_, rfl, rfl⟩ | (simp; omega) | (simp; done)))
    refine call_d rfl (sub_mk hS hp hir (by rfl) (fun S' rs' g1 g2 => markTypeS_ok x.fBody.fType.fArgs (k + ((mcRs (rows.take i) : Nat) : Int) + 1 + ((mcRs (x.fVars.map encS) : Nat) : Int) + ((mcRs (x.fWhere.map MBound.enc) : Nat) : Int) + ((mcRs (x.fParams.map MParam.enc) : Nat) : Int) + 1 + 1 + ((mcRs (x.fResult.fArgs.map MType.enc) : Nat) : Int) + 1 + 1 + 1 + 1 + 1 + 1) (1 + l) j r _ S' rs' g1 g2 (by omega))) ?_
    simp -implicitDefEqProofs (disch := omega) only [go_sem, hb, ht, hA, hU, e2, hC, hG, mkAt_set, mkAt_length, hl, setO_twice, isSD]
    (repeat (with_reducible refine And.intro ?_ ?_; focus first | omega | rfl | assumption | exact ⟨_, rfl, rfl⟩ | (simp; omega) | (simp; done)))
    refine call_d rfl (sub_mk hS hp hir (by rfl) (fun S' rs' g1 g2 => markExprS_ok x.fBody.fArgs (k + ((mcRs (rows.take i) : Nat) : Int) + 1 + ((mcRs (x.fVars.map encS) : Nat) : Int) + ((mcRs (x.fWhere.map MBound.enc) : Nat) : Int) + ((mcRs (x.fParams.map MParam.enc) : Nat) : Int) + 1 + 1 + ((mcRs (x.fResult.fArgs.map MType.enc) : Nat) : Int) + 1 + 1 + 1 + 1 + 1 + 1 + ((mcRs (x.fBody.fType.fArgs.map MType.enc) : Nat) : Int)) (1 + l) j r _ S' rs' g1 g2 (by omega))) ?_
    simp -implicitDefEqProofs (disch := omega) only [go_sem, hb, ht, hA, hU, e2, hC, hG, mkAt_set, mkAt_length, hl, setO_twice, isSD]
    (repeat (with_reducible refine And.intro ?_ ?_; focus first | omega | rfl | assumption | exact ⟨_, rfl, rfl⟩ | (simp; omega) | (simp; done)))
    refine call_d rfl (sub_mk hS hp hir (by rfl) (fun S' rs' g1 g2 => markArmS_ok x.fBody.fArms (k + ((mcRs (rows.take i) : Nat) : Int) + 1 + ((mcRs (x.fVars.map encS) : Nat) : Int) + ((mcRs (x.fWhere.map MBound.enc) : Nat) : Int) + ((mcRs (x.fParams.map MParam.enc) : Nat) : Int) + 1 + 1 + ((mcRs (x.fResult.fArgs.map MType.enc) : Nat) : Int) + 1 + 1 + 1 + 1 + 1 + 1 + ((mcRs (x.fBody.fType.fArgs.map MType.enc) : Nat) : Int) + ((mcRs (x.fBody.fArgs.map MExpr.enc) : Nat) : Int)) (1 + l) j r _ S' rs' g1 g2 (by omega))) ?_
    simp -implicitDefEqProofs (disch := omega) only [go_sem, hb, ht, hA, hU, e2, hC, hG, mkAt_set, mkAt_length, hl, setO_twice, isSD]
    (repeat (with_reducible refine And.intro ?_ ?_; focus first | omega | rfl | assumption | exact ⟨_, rfl, rfl⟩ | (simp; omega) | (simp; done)))
    refine inv_at (i + 1) (by omega) (by rw [hK]; rfl) ?_ (by omega)
    have h3 := mkAt_to (k := k) hir
    rw [e1] at h3
    simp only [mkR, mkD] at h3
    rw [← h3]
    all_goals rfl
  · simp -implicitDefEqProofs (disch := omega) only [go_sem, hb]
    have hi : i = xs.length := by omega
    rw [mkTo_all (by omega), List.take_of_length_le (by omega)]
    all_goals (first | rfl | exact ⟨rfl, rfl⟩)
end Go.Proofs.YtokcpelkieeddaaGreat

namespace Go.Proofs.YtokcpelkieeddaaGreat
open Go Go.Ab
set_option maxHeartbeats 4000000 in
theorem markPackageS_ok (xs : List MPackage) : ∀ (k : Int) (l j r : Nat) (p : List (Nat × Nat)) (S : Store) (rs : List (List (List D))), getO S (l, j) = some (.xf rs) → atR rs r p = some (xs.map MPackage.enc) → 0 ≤ k ∧ k + mcRs (xs.map MPackage.enc) ≤ 4611686018427387904 → ACall Tryz.prog 74 [.c (.xp (l, j) r p), .c (.d (.i .i64 k))] S (fun res S' => res = .c (.d (.i .i64 (k + mcRs (xs.map MPackage.enc)))) ∧ S' = setO S (l, j) (.xf (updR rs r p (mkRs (xs.map MPackage.enc) k)))) := by
  intro k l j r p S rs hS hp hk
  have hlen := len_mc (f := MPackage.enc) (fun x => by simp only [MPackage.enc_eq, encS, encI, List.cons_append, List.nil_append, mcR, mcD]; omega) xs
  obtain ⟨rows, hr⟩ : ∃ rows, rows = xs.map MPackage.enc := ⟨_, rfl⟩
  have hl : rows.length = xs.length := by rw [hr, List.length_map]
  rw [← hr] at hp hk hlen ⊢
  have ht : ∀ x : Ab.Obj, getO (setO S (l, j) x) (l, j) = some x := fun x => getO_setO_eq _ _ _ _ hS
  have hA : ∀ new, atR (updR rs r p new) r p = some new := fun new => atR_updR hp
  have hU : ∀ a b, updR (updR rs r p a) r p b = updR rs r p b := fun a b => updR_updR hp
  refine acall_cw (rs := [.tmp 4]) Tryz.checked.mixed Tryz.func74 Tryz.ntmps74 rfl rfl rfl rfl rfl ?_
  simp -implicitDefEqProofs (disch := omega) only [go_sem]
  refine loop_at (ι := Nat) Tryz.checked.mixed rfl [0, 1, 5] (fun i => [.c (.xp (1 + l, j) r p), .c (.d (.i .i64 (k + mcRs (rows.take i)))), .c (.d (.i .i64 i))])
    (fun i => [] :: setO S (l, j) (.xf (updR rs r p (mkTo rows k i)))) (fun i => i ≤ xs.length) (fun i => xs.length - i) 0 ?_ ?_ (Nat.zero_le _) ?_
  · have z0 : k + ((mcRs (rows.take 0) : Nat) : Int) = k := by simp [mcRs]
    rw [z0]
    rfl
  · rw [mkTo_zero, updR_same hp, setO_self _ _ hS]
  intro i hi
  simp -implicitDefEqProofs (disch := omega) only [go_sem, ht, hA, mkTo_length, hl]
  with_reducible refine split2 (fun hb => ?_) (fun hb => ?_) <;> have h := hb <;> try simp only [wf_preprocess] at h
  · have hi : i < xs.length := by omega
    have hir : i < rows.length := by omega
    obtain ⟨x, hx⟩ : ∃ x, x = xs[i] := ⟨_, rfl⟩
    have e1 : rows[i] = [.s x.fName, .sl (x.fDeps.map encS), .sl (x.fTraits.map MTrait.enc), .sl (x.fDataTypes.map MDataType.enc), .sl (x.fInstances.map MInstance.enc), .sl (x.fFunctions.map MFunction.enc)] := by
      simp only [hr, List.getElem_map, ← hx]
      simp only [MPackage.enc_eq, encS, encI, List.cons_append, List.nil_append]
    have hm := mcRs_take hir
    have hle := mcRs_le (rows := rows) (i := i + 1)
    rw [hm, e1] at hle
    rw [e1] at hm
    simp only [mcR, mcD] at hle hm
    have hK : k + ((mcRs (rows.take (i + 1)) : Nat) : Int) = k + ((mcRs (rows.take i) : Nat) : Int) + 1 + ((mcRs (x.fDeps.map encS) : Nat) : Int) + ((mcRs (x.fTraits.map MTrait.enc) : Nat) : Int) + ((mcRs (x.fDataTypes.map MDataType.enc) : Nat) : Int) + ((mcRs (x.fInstances.map MInstance.enc) : Nat) : Int) + ((mcRs (x.fFunctions.map MFunction.enc) : Nat) : Int) := by rw [hm]; omega
    have e2 := mkTo_at (k := k) hir
    rw [e1] at e2
    have hC : ∀ row o, cellAt (mkAt rows k i row) i o = row[o]? := fun row o => mkAt_cell hir
    have hG : ∀ row, (mkAt rows k i row).getD i [] = row := fun row => mkAt_get hir
    simp -implicitDefEqProofs (disch := omega) only [go_sem, hb, ht, hA, hU, e2, hC, hG, mkAt_set, mkAt_length, hl, setO_twice, isSD]
    (repeat (with_reducible refine And.intro ?_ ?_; focus first | omega | rfl | assumption | exact ⟨_, rfl, rfl⟩ | (simp; omega) | (simp; done)))
    refine call_w (markText_ok (k + ((mcRs (rows.take i) : Nat) : Int)) (by omega)) ?_
    simp -implicitDefEqProofs (disch := omega) only [go_sem, hb, ht, hA, hU, e2, hC, hG, mkAt_set, mkAt_length, hl, setO_twice, isSD]
    (repeat (with_reducible refine And.intro ?_ ?_; focus first | omega | rfl | assumption | exact ⟨_, rfl, rfl⟩ | (simp; omega) | (simp; done)))
    refine call_d rfl (sub_mk hS hp hir (by rfl) (fun S' rs' g1 g2 => markStringS_ok x.fDeps (k + ((mcRs (rows.take i) : Nat) : Int) + 1) (1 + l) j r _ S' rs' g1 g2 (by omega))) ?_
    simp -implicitDefEqProofs (disch := omega) only [go_sem, hb, ht, hA, hU, e2, hC, hG, mkAt_set, mkAt_length, hl, setO_twice, isSD]
    (repeat (with_reducible refine And.intro ?_ ?_; focus first | omega | rfl | assumption | exact ⟨_, rfl, rfl⟩ | (simp; omega) | (simp; done)))
    refine call_d rfl (sub_mk hS hp hir (by rfl) (fun S' rs' g1 g2 => markTraitS_ok x.fTraits (k + ((mcRs (rows.take i) : Nat) : Int) + 1 + ((mcRs (x.fDeps.map encS) : Nat) : Int)) (1 + l) j r _ S' rs' g1 g2 (by omega))) ?_
    simp -implicitDefEqProofs (disch := omega) only [go_sem, hb, ht, hA, hU, e2, hC, hG, mkAt_set, mkAt_length, hl, setO_twice, isSD]
    (repeat (with_reducible refine And.intro ?_ ?_; focus first | omega | rfl | assumption | exact ⟨_, rfl, rfl⟩ | (simp; omega) | (simp; done)))
    refine call_d rfl (sub_mk hS hp hir (by rfl) (fun S' rs' g1 g2 => markDataTypeS_ok x.fDataTypes (k + ((mcRs (rows.take i) : Nat) : Int) + 1 + ((mcRs (x.fDeps.map encS) : Nat) : Int) + ((mcRs (x.fTraits.map MTrait.enc) : Nat) : Int)) (1 + l) j r _ S' rs' g1 g2 (by omega))) ?_
    simp -implicitDefEqProofs (disch := omega) only [go_sem, hb, ht, hA, hU, e2, hC, hG, mkAt_set, mkAt_length, hl, setO_twice, isSD]
    (repeat (with_reducible refine And.intro ?_ ?_; focus first | omega | rfl | assumption | exact ⟨_, rfl, rfl⟩ | (simp; omega) | (simp; done)))
    refine call_d rfl (sub_mk hS hp hir (by rfl) (fun S' rs' g1 g2 => markInstanceS_ok x.fInstances (k + ((mcRs (rows.take i) : Nat) : Int) + 1 + ((mcRs (x.fDeps.map encS) : Nat) : Int) + ((mcRs (x.fTraits.map MTrait.enc) : Nat) : Int) + ((mcRs (x.fDataTypes.map MDataType.enc) : Nat) : Int)) (1 + l) j r _ S' rs' g1 g2 (by omega))) ?_
    simp -implicitDefEqProofs (disch := omega) only [go_sem, hb, ht, hA, hU, e2, hC, hG, mkAt_set, mkAt_length, hl, setO_twice, isSD]
    (repeat (with_reducible refine And.intro ?_ ?_; focus first | omega | rfl | assumption | exact ⟨_, rfl, rfl⟩ | (simp; omega) | (simp; done)))
    refine call_d rfl (sub_mk hS hp hir (by rfl) (fun S' rs' g1 g2 => markFunctionS_ok x.fFunctions (k + ((mcRs (rows.take i) : Nat) : Int) + 1 + ((mcRs (x.fDeps.map encS) : Nat) : Int) + ((mcRs (x.fTraits.map MTrait.enc) : Nat) : Int) + ((mcRs (x.fDataTypes.map MDataType.enc) : Nat) : Int) + ((mcRs (x.fInstances.map MInstance.enc) : Nat) : Int)) (1 + l) j r _ S' rs' g1 g2 (by omega))) ?_
    simp -implicitDefEqProofs (disch := omega) only [go_sem, hb, ht, hA, hU, e2, hC, hG, mkAt_set, mkAt_length, hl, setO_twice, isSD]
    (repeat (with_reducible refine And.intro ?_ ?_; focus first | omega | rfl | assumption | exact ⟨_, rfl, rfl⟩ | (simp; omega) | (simp; done)))
    refine inv_at (i + 1) (by omega) (by rw [hK]; rfl) ?_ (by omega)
    have h3 := mkAt_to (k := k) hir
    rw [e1] at h3
    simp only [mkR, mkD] at h3
    rw [← h3]
    all_goals rfl
  · simp -implicitDefEqProofs (disch := omega) only [go_sem, hb]
    have hi : i = xs.length := by omega
    rw [mkTo_all (by omega), List.take_of_length_le (by omega)]
    all_goals (first | rfl | exact ⟨rfl, rfl⟩)
end Go.Proofs.YtokcpelkieeddaaGreat

namespace Go.Proofs.YtokcpelkieeddaaGreat
open Go Go.Ab
theorem markProgram_ok (x : MProgram) (k : Int) (l j b : Nat) (S : Store) (rs : List (List (List D))) (hS : getO S (l, j) = some (.xf rs)) (h0 : atR rs (b + 0) [] = some (x.fPackages.map MPackage.enc)) (hk : 0 ≤ k ∧ k + ((mcRs (x.fPackages.map MPackage.enc) : Nat) : Int) ≤ 4611686018427387904) : ACall Tryz.prog 26 [.agg [.xp (l, j) (b + 0) []], .c (.d (.i .i64 k))] S (fun res S' => res = .c (.d (.i .i64 (k + ((mcRs (x.fPackages.map MPackage.enc) : Nat) : Int)))) ∧ S' = setO S (l, j) (.xf (updR (rs) (b + 0) [] (mkRs (x.fPackages.map MPackage.enc) (k))))) := by
  have ht : ∀ x : Ab.Obj, getO (setO S (l, j) x) (l, j) = some x := fun x => getO_setO_eq _ _ _ _ hS
  refine acall_cw (rs := [.tmp 4]) Tryz.checked.mixed Tryz.func26 Tryz.ntmps26 rfl rfl rfl rfl rfl ?_
  simp -implicitDefEqProofs (disch := omega) only [go_sem]
  refine call_d rfl (markPackageS_ok x.fPackages (k) (1 + l) j (b + 0) [] _ _ (by rw [getO_up1]; first | exact hS | exact ht _) (by first | assumption | (simp (disch := omega) only [ne_eq, atR_ne]; assumption)) (by omega)) ?_
  simp -implicitDefEqProofs (disch := omega) only [go_sem, setO_twice, setO_up1]
  try exact ⟨rfl, rfl⟩
end Go.Proofs.YtokcpelkieeddaaGreat

namespace Go.Ab
end Go.Ab
namespace Go.Proofs.YtokcpelkieeddaaGreat
open Go Go.Ab
end Go.Proofs.YtokcpelkieeddaaGreat

namespace Go.Ab
mutual
def nodesT : MType → List MType
  | .mk k n a => .mk k n a :: nodesL a
def nodesL : List MType → List MType
  | [] => []
  | t :: ts => nodesT t ++ nodesL ts
end
mutual
theorem nodes_len : ∀ t : MType, (nodesT t).length = t.cnt
  | .mk k n a => by rw [nodesT, List.length_cons, MType.cnt, nodesL_len a]; omega
theorem nodesL_len : ∀ ts : List MType, (nodesL ts).length = MType.cnts ts
  | [] => rfl
  | t :: ts => by rw [nodesL, List.length_append, MType.cnts, nodes_len t, nodesL_len ts]
end
/-! how often a variable stands in a type -/
def isV (v : List UInt8) (u : MType) : Bool := decide (u.fKind = 1 ∧ u.fName = v)
def countV (v : List UInt8) (t : MType) : Nat := (nodesT t).countP (isV v)
def occurs (v : List UInt8) (t : MType) : Bool := decide (0 < countV v t)
def selfN : List UInt8 := [115, 101, 108, 102]
def mentions (g : MSignature) : Bool := occurs selfN g.fResult || g.fParams.any (occurs selfN)
def dynSafe (t : MTrait) : Bool := !t.fAssoc && !t.fSignatures.any mentions
end Go.Ab

namespace Go.Proofs.YtokcpelkieeddaaGreat
open Go Go.Ab
end Go.Proofs.YtokcpelkieeddaaGreat

namespace Go.Proofs.YtokcpelkieeddaaGreat
open Go Go.Ab
end Go.Proofs.YtokcpelkieeddaaGreat

namespace Go.Ab
theorem MTrait.bounds {x : MTrait} (h : x.sz ≤ 4194304) : x.fName.length ≤ 4194304 ∧ x.fSupertraits.length ≤ 4194304 ∧ x.fSignatures.length ≤ 4194304 := by
  simp only [MTrait.sz, MTrait.enc_eq, szRow, szRow_append, D.sz, List.length_map] at h
  omega
theorem MSignature.bounds {x : MSignature} (h : x.sz ≤ 4194304) : x.fName.length ≤ 4194304 ∧ x.fParams.length ≤ 4194304 ∧ x.fResult.sz ≤ 4194304 ∧ x.fVars.length ≤ 4194304 ∧ x.fBody.sz ≤ 4194304 ∧ ∀ t ∈ x.fParams, t.sz ≤ 4194304 := by
  simp only [MSignature.sz, MSignature.enc_eq, szRow, szRow_append, D.sz, List.length_map, MType.sz_def, MExpr.sz_def] at h
  refine ⟨by omega, by omega, by omega, by omega, by omega, fun t ht => ?_⟩
  have hx : t.sz ≤ szRows (x.fParams.map MType.enc) := szRows_mem (List.mem_map_of_mem ht)
  omega
end Go.Ab
namespace Go.Proofs.YtokcpelkieeddaaGreat
open Go Go.Ab
end Go.Proofs.YtokcpelkieeddaaGreat

namespace Go.Ab
noncomputable def seesO {α : Type} (w : MProgram) (i : Int) : Option (α × Nat) → Bool
  | some (_, p) => dec (isVis w i p)
  | none => false
abbrev viewV (w : MProgram) (vis : List Int) : V := .agg [.d (.sl (w.fPackages.map MPackage.enc)), .d (.sl (vis.map encI))]
noncomputable def dynCode (w : MProgram) (i : Int) (name : List UInt8) : Int :=
  if seesO w i (traitAt w name) = true then (match traitAt w name with | some (t, _) => if dynSafe t = true then 0 else 5 | none => 3) else 3
noncomputable def ownCode (w : MProgram) (i : Int) (k : Int) (name : List UInt8) (n : Nat) : Int :=
  if k = 1 then 0 else if k = 2 then (if builtInB name = true then 0 else if seesO w i (dataAt w name) = true then (match dataAt w name with | some (d, _) => if n = d.fVars.length then 0 else 2 | none => 1) else 1)
  else if k = 3 then (if seesO w i (traitAt w name) = true then (match traitAt w name with | some (t, _) => if t.fAssoc = true then 0 else 4 | none => 3) else 3)
  else if k = 4 then dynCode w i name else 1
mutual
noncomputable def tyCode (w : MProgram) (i : Int) : MType → Int
  | .mk k n a => if ownCode w i k n a.length = 0 then tyCodes w i a else ownCode w i k n a.length
noncomputable def tyCodes (w : MProgram) (i : Int) : List MType → Int
  | [] => 0
  | t :: ts => if tyCode w i t = 0 then tyCodes w i ts else tyCode w i t
end
end Go.Ab
namespace Go.Proofs.YtokcpelkieeddaaGreat
open Go Go.Ab
end Go.Proofs.YtokcpelkieeddaaGreat

namespace Go.Proofs.YtokcpelkieeddaaGreat
open Go Go.Ab
end Go.Proofs.YtokcpelkieeddaaGreat

namespace Go.Ab
end Go.Ab
namespace Go.Proofs.YtokcpelkieeddaaGreat
open Go Go.Ab
end Go.Proofs.YtokcpelkieeddaaGreat

namespace Go.Ab
end Go.Ab

namespace Go.Ab
/-- The place of the first constructor of a name. -/
def ctorI (name : List UInt8) : List MConstructor → Nat → Option Nat
  | [], _ => none
  | c :: cs, k => if c.fName = name then some k else ctorI name cs (k + 1)
/-- The first data type that has a constructor of a name, and its place. -/
def ctorL (name : List UInt8) : List MDataType → Option (MDataType × Nat)
  | [] => none
  | d :: ds => match ctorI name d.fConstructors 0 with
    | some k => some (d, k)
    | none => ctorL name ds
def ctorA (name : List UInt8) : List MPackage → Option (MDataType × Nat)
  | [] => none
  | q :: qs => match ctorL name q.fDataTypes with
    | some x => some x
    | none => ctorA name qs
def ctorAt (w : MProgram) (name : List UInt8) : Option (MDataType × Nat) := ctorA name w.fPackages
theorem ctorI_drop {name : List UInt8} {cs : List MConstructor} {k : Nat} (hk : k < cs.length) : ctorI name (cs.drop k) k = if cs[k].fName = name then some k else ctorI name (cs.drop (k + 1)) (k + 1) := by
  rw [List.drop_eq_getElem_cons hk, ctorI]
theorem ctorL_drop {name : List UInt8} {ds : List MDataType} {k : Nat} (hk : k < ds.length) : ctorL name (ds.drop k) = match ctorI name ds[k].fConstructors 0 with
    | some j => some (ds[k], j)
    | none => ctorL name (ds.drop (k + 1)) := by
  rw [List.drop_eq_getElem_cons hk, ctorL]
theorem ctorA_drop {name : List UInt8} {qs : List MPackage} {k : Nat} (hk : k < qs.length) : ctorA name (qs.drop k) = match ctorL name qs[k].fDataTypes with
    | some x => some x
    | none => ctorA name (qs.drop (k + 1)) := by
  rw [List.drop_eq_getElem_cons hk, ctorA]
theorem ctorI_lt {name : List UInt8} : ∀ {cs : List MConstructor} {i k : Nat}, ctorI name cs i = some k → i ≤ k ∧ k < i + cs.length
  | [], i, k, h => by cases h
  | c :: cs, i, k, h => by
    rw [ctorI] at h
    by_cases e : c.fName = name
    · rw [if_pos e] at h
      injection h with h
      subst h
      simp
    · rw [if_neg e] at h
      have := ctorI_lt h
      simp only [List.length_cons]
      omega
theorem ctorL_mem {name : List UInt8} : ∀ {ds : List MDataType} {d : MDataType} {k : Nat}, ctorL name ds = some (d, k) → d ∈ ds ∧ k < d.fConstructors.length
  | [], d, k, h => by cases h
  | e :: ds, d, k, h => by
    rw [ctorL] at h
    cases hf : ctorI name e.fConstructors 0 with
    | none =>
      rw [hf] at h
      obtain ⟨h1, h2⟩ := ctorL_mem (ds := ds) h
      exact ⟨by simp [h1], h2⟩
    | some j =>
      rw [hf] at h
      injection h with h
      injection h with h1 h2
      subst h1; subst h2
      have := ctorI_lt hf
      exact ⟨by simp, by omega⟩
theorem ctorA_mem {name : List UInt8} : ∀ {qs : List MPackage} {d : MDataType} {k : Nat}, ctorA name qs = some (d, k) → (∃ q ∈ qs, d ∈ q.fDataTypes) ∧ k < d.fConstructors.length
  | [], d, k, h => by cases h
  | q :: qs, d, k, h => by
    rw [ctorA] at h
    cases hf : ctorL name q.fDataTypes with
    | none =>
      rw [hf] at h
      obtain ⟨⟨q', h0, h1⟩, h2⟩ := ctorA_mem (qs := qs) h
      exact ⟨⟨q', by simp [h0], h1⟩, h2⟩
    | some x =>
      rw [hf] at h
      injection h with h
      subst h
      have := ctorL_mem hf
      exact ⟨⟨q, by simp, this.1⟩, this.2⟩
def ctC : Option (MDataType × Nat) → List C
  | some (t, _) => t.enc.map .d
  | none => [.d (.s []), .fsl [], .fsl []]
end Go.Ab

namespace Go.Ab
theorem MDataType.lenCt {d : MDataType} (h : d.sz ≤ 4194304) : d.fConstructors.length ≤ 4194304 := by
  simp only [MDataType.sz, MDataType.enc_eq, szRow, szRow_append, D.sz, List.length_map] at h
  omega
theorem MProgram.szDt {w : MProgram} {i k : Nat} (hi : i < w.fPackages.length) (hk : k < w.fPackages[i].fDataTypes.length) (h : w.sz ≤ 4194304) : w.fPackages[i].fDataTypes[k].sz ≤ 4194304 := by
  have hx : w.fPackages[i].sz ≤ szRows (w.fPackages.map MPackage.enc) := szRows_mem (List.mem_map_of_mem (List.getElem_mem hi))
  have hy : w.fPackages[i].fDataTypes[k].sz ≤ szRows (w.fPackages[i].fDataTypes.map MDataType.enc) := szRows_mem (List.mem_map_of_mem (List.getElem_mem hk))
  simp only [MProgram.sz, MProgram.enc_eq, szRow, szRow_append, D.sz, List.length_map] at h
  simp only [MPackage.sz, MPackage.enc_eq, szRow, szRow_append, D.sz, List.length_map] at hx
  omega
end Go.Ab
namespace Go.Proofs.YtokcpelkieeddaaGreat
open Go Go.Ab
theorem implCtAt_ok (w : MProgram) (name : List UInt8) (hsz : w.sz ≤ 4194304) : PCall Tryz.prog 71 [w.v, .c (.d (.s name))] (.tup [(true, ctC (ctorAt w name)), (false, [.d (.i .i64 (idxO (ctorAt w name)))]), (false, [.d (.b (ctorAt w name).isSome)])]) := fun S => by
  have hb0 := MProgram.bounds hsz
  refine acall_cw (rs := [.cell 4 33, .tmp 5, .tmp 6]) Tryz.checked.mixed Tryz.func71 Tryz.ntmps71 rfl rfl rfl rfl rfl ?_
  simp -implicitDefEqProofs (disch := omega) only [go_sem]
  refine loop_at (ι := Nat) Tryz.checked.mixed rfl [1, 4, 14, 15, 16] (fun i => [.c (.d (.s name)), .c (.ptr (0, 1) 0), .c (.d (.sl (w.fPackages.map MPackage.enc))), .c (.d (.i .i64 w.fPackages.length)), .c (.d (.i .i64 i))]) (fun _ => [.box (w.enc.map .d), .box [.d (.s []), .fsl [], .fsl []]] :: S)
    (fun i => i ≤ w.fPackages.length ∧ ctorA name (w.fPackages.drop i) = ctorAt w name) (fun i => w.fPackages.length - i) 0 rfl ?_ ⟨Nat.zero_le _, rfl⟩ ?_
  · simp -implicitDefEqProofs (disch := omega) only [go_sem]
  rintro i ⟨p1, p2⟩
  simp -implicitDefEqProofs (disch := omega) only [go_sem]
  with_reducible refine split2 (fun hb => ?_) (fun hb => ?_) <;> have h := hb <;> (try simp only [wf_preprocess] at h) <;> simp -implicitDefEqProofs (disch := omega) only [go_sem, hb] <;> (repeat (with_reducible refine And.intro ?_ ?_; focus first | omega | rfl | assumption | exact ⟨_, rfl, rfl⟩ | (simp; omega) | (simp; done)))
  · have hi : i < w.fPackages.length := by omega
    have hln := MProgram.lenDt hi hsz
    rw [ctorA_drop hi] at p2
    (repeat (with_reducible refine And.intro ?_ ?_; focus first | omega | rfl | assumption | exact ⟨_, rfl, rfl⟩ | (simp; omega) | (simp; done)))
    refine loop_at (ι := Nat) Tryz.checked.mixed rfl [1, 4, 14, 15, 16, 21, 22, 23] (fun k => [.c (.d (.s name)), .c (.ptr (0, 1) 0), .c (.d (.sl (w.fPackages.map MPackage.enc))), .c (.d (.i .i64 w.fPackages.length)), .c (.d (.i .i64 i)), .c (.d (.sl (w.fPackages[i].fDataTypes.map MDataType.enc))), .c (.d (.i .i64 w.fPackages[i].fDataTypes.length)), .c (.d (.i .i64 k))])
      (fun _ => [.box (w.enc.map .d), .box [.d (.s []), .fsl [], .fsl []], .box (w.fPackages[i].enc.map .d)] :: S)
      (fun k => k ≤ w.fPackages[i].fDataTypes.length ∧ ctorL name (w.fPackages[i].fDataTypes.drop k) = ctorL name w.fPackages[i].fDataTypes) (fun k => w.fPackages[i].fDataTypes.length - k) 0 rfl ?_ ⟨Nat.zero_le _, rfl⟩ ?_
    · simp -implicitDefEqProofs (disch := omega) only [go_sem]
    rintro k ⟨q1, q2⟩
    simp -implicitDefEqProofs (disch := omega) only [go_sem]
    with_reducible refine split2 (fun hb => ?_) (fun hb => ?_) <;> have h := hb <;> (try simp only [wf_preprocess] at h) <;> simp -implicitDefEqProofs (disch := omega) only [go_sem, hb] <;> (repeat (with_reducible refine And.intro ?_ ?_; focus first | omega | rfl | assumption | exact ⟨_, rfl, rfl⟩ | (simp; omega) | (simp; done)))
    · have hk : k < w.fPackages[i].fDataTypes.length := by omega
      have hlc := MDataType.lenCt (MProgram.szDt hi hk hsz)
      rw [ctorL_drop hk] at q2
      (repeat (with_reducible refine And.intro ?_ ?_; focus first | omega | rfl | assumption | exact ⟨_, rfl, rfl⟩ | (simp; omega) | (simp; done)))
      refine loop_at (ι := Nat) Tryz.checked.mixed rfl [1, 4, 10, 14, 15, 16, 21, 22, 23, 28, 29, 30] (fun j => [.c (.d (.s name)), .c (.ptr (0, 1) 0), .c (.ptr (0, 3) 0), .c (.d (.sl (w.fPackages.map MPackage.enc))), .c (.d (.i .i64 w.fPackages.length)), .c (.d (.i .i64 i)), .c (.d (.sl (w.fPackages[i].fDataTypes.map MDataType.enc))), .c (.d (.i .i64 w.fPackages[i].fDataTypes.length)), .c (.d (.i .i64 k)), .c (.d (.sl (w.fPackages[i].fDataTypes[k].fConstructors.map MConstructor.enc))), .c (.d (.i .i64 w.fPackages[i].fDataTypes[k].fConstructors.length)), .c (.d (.i .i64 j))])
        (fun _ => [.box (w.enc.map .d), .box [.d (.s []), .fsl [], .fsl []], .box (w.fPackages[i].enc.map .d), .box (w.fPackages[i].fDataTypes[k].enc.map .d)] :: S)
        (fun j => j ≤ w.fPackages[i].fDataTypes[k].fConstructors.length ∧ ctorI name (w.fPackages[i].fDataTypes[k].fConstructors.drop j) j = ctorI name w.fPackages[i].fDataTypes[k].fConstructors 0) (fun j => w.fPackages[i].fDataTypes[k].fConstructors.length - j) 0 rfl ?_ ⟨Nat.zero_le _, rfl⟩ ?_
      · simp -implicitDefEqProofs (disch := omega) only [go_sem]
      rintro j ⟨r1, r2⟩
      simp -implicitDefEqProofs (disch := omega) only [go_sem]
      with_reducible refine split2 (fun hb => ?_) (fun hb => ?_) <;> have h := hb <;> (try simp only [wf_preprocess] at h) <;> simp -implicitDefEqProofs (disch := omega) only [go_sem, hb] <;> (repeat (with_reducible refine And.intro ?_ ?_; focus first | omega | rfl | assumption | exact ⟨_, rfl, rfl⟩ | (simp; omega) | (simp; done)))
      · have hj : j < w.fPackages[i].fDataTypes[k].fConstructors.length := by omega
        rw [ctorI_drop hj] at r2
        (repeat (with_reducible refine And.intro ?_ ?_; focus first | omega | rfl | assumption | exact ⟨_, rfl, rfl⟩ | (simp; omega) | (simp; done)))
        with_reducible refine split2 (fun hb => ?_) (fun hb => ?_) <;> have h := hb <;> (try simp only [wf_preprocess] at h) <;> simp -implicitDefEqProofs (disch := omega) only [go_sem, hb] <;> (repeat (with_reducible refine And.intro ?_ ?_; focus first | omega | rfl | assumption | exact ⟨_, rfl, rfl⟩ | (simp; omega) | (simp; done)))
        · rw [if_pos (by simpa using h)] at r2
          rw [← r2] at q2
          rw [← q2] at p2
          rw [← p2]
          first | rfl | (simp only [ctC, idxO]; simp -implicitDefEqProofs (disch := omega) only [go_sem]; done)
        · rw [if_neg (by simpa using h)] at r2
          exact inv_drop 4 (by decide) (j + 1) (by omega) rfl rfl rfl rfl ⟨by omega, r2⟩
      · rw [List.drop_of_length_le (by omega), ctorI] at r2
        rw [← r2] at q2
        exact inv_drop 3 (by decide) (k + 1) (by omega) rfl rfl rfl rfl ⟨by omega, q2⟩
    · rw [List.drop_of_length_le (by omega), ctorL] at q2
      rw [← q2] at p2
      exact inv_drop 2 (by decide) (i + 1) (by omega) rfl rfl rfl rfl ⟨by omega, p2⟩
  · rw [List.drop_of_length_le (by omega), ctorA] at p2
    rw [← p2]
    first | rfl | (simp only [ctC, idxO]; simp -implicitDefEqProofs (disch := omega) only [go_sem]; done)
theorem specCtAt_ok (w : MProgram) (name : List UInt8) (hsz : w.sz ≤ 4194304) : PCall Tryz.prog 68 [w.v, .c (.d (.s name))] (.tup [(true, ctC (ctorAt w name)), (false, [.d (.i .i64 (idxO (ctorAt w name)))]), (false, [.d (.b (ctorAt w name).isSome)])]) := fun S => by
  have hb0 := MProgram.bounds hsz
  refine acall_cw (rs := [.cell 4 33, .tmp 5, .tmp 6]) Tryz.checked.mixed Tryz.func68 Tryz.ntmps68 rfl rfl rfl rfl rfl ?_
  simp -implicitDefEqProofs (disch := omega) only [go_sem]
  refine loop_at (ι := Nat) Tryz.checked.mixed rfl [1, 2, 4, 7] (fun i => [.c (.d (.s name)), .c (.ptr (0, 0) 0), .c (.ptr (0, 1) 0), .c (.d (.i .i64 i))]) (fun _ => [.box (w.enc.map .d), .box [.d (.s []), .fsl [], .fsl []]] :: S)
    (fun i => i ≤ w.fPackages.length ∧ ctorA name (w.fPackages.drop i) = ctorAt w name) (fun i => w.fPackages.length - i) 0 rfl ?_ ⟨Nat.zero_le _, rfl⟩ ?_
  · simp -implicitDefEqProofs (disch := omega) only [go_sem]
  rintro i ⟨p1, p2⟩
  simp -implicitDefEqProofs (disch := omega) only [go_sem]
  with_reducible refine split2 (fun hb => ?_) (fun hb => ?_) <;> have h := hb <;> (try simp only [wf_preprocess] at h) <;> simp -implicitDefEqProofs (disch := omega) only [go_sem, hb] <;> (repeat (with_reducible refine And.intro ?_ ?_; focus first | omega | rfl | assumption | exact ⟨_, rfl, rfl⟩ | (simp; omega) | (simp; done)))
  · have hi : i < w.fPackages.length := by omega
    have hln := MProgram.lenDt hi hsz
    rw [ctorA_drop hi] at p2
    (repeat (with_reducible refine And.intro ?_ ?_; focus first | omega | rfl | assumption | exact ⟨_, rfl, rfl⟩ | (simp; omega) | (simp; done)))
    refine loop_at (ι := Nat) Tryz.checked.mixed rfl [1, 2, 4, 7, 8] (fun k => [.c (.d (.s name)), .c (.ptr (0, 0) 0), .c (.ptr (0, 1) 0), .c (.d (.i .i64 i)), .c (.d (.i .i64 k))])
      (fun _ => [.box (w.enc.map .d), .box [.d (.s []), .fsl [], .fsl []]] :: S)
      (fun k => k ≤ w.fPackages[i].fDataTypes.length ∧ ctorL name (w.fPackages[i].fDataTypes.drop k) = ctorL name w.fPackages[i].fDataTypes) (fun k => w.fPackages[i].fDataTypes.length - k) 0 rfl ?_ ⟨Nat.zero_le _, rfl⟩ ?_
    · simp -implicitDefEqProofs (disch := omega) only [go_sem]
    rintro k ⟨q1, q2⟩
    simp -implicitDefEqProofs (disch := omega) only [go_sem]
    (repeat (with_reducible refine And.intro ?_ ?_; focus first | omega | rfl | assumption | exact ⟨_, rfl, rfl⟩ | (simp; omega) | (simp; done)))
    with_reducible refine split2 (fun hb => ?_) (fun hb => ?_) <;> have h := hb <;> (try simp only [wf_preprocess] at h) <;> simp -implicitDefEqProofs (disch := omega) only [go_sem, hb] <;> (repeat (with_reducible refine And.intro ?_ ?_; focus first | omega | rfl | assumption | exact ⟨_, rfl, rfl⟩ | (simp; omega) | (simp; done)))
    · have hk : k < w.fPackages[i].fDataTypes.length := by omega
      have hlc := MDataType.lenCt (MProgram.szDt hi hk hsz)
      rw [ctorL_drop hk] at q2
      (repeat (with_reducible refine And.intro ?_ ?_; focus first | omega | rfl | assumption | exact ⟨_, rfl, rfl⟩ | (simp; omega) | (simp; done)))
      refine loop_at (ι := Nat) Tryz.checked.mixed rfl [1, 2, 4, 7, 8, 9, 10] (fun j => [.c (.d (.s name)), .c (.ptr (0, 0) 0), .c (.ptr (0, 1) 0), .c (.d (.i .i64 i)), .c (.d (.i .i64 k)), .c (.ptr (0, 2) 0), .c (.d (.i .i64 j))])
        (fun _ => [.box (w.enc.map .d), .box [.d (.s []), .fsl [], .fsl []], .box (w.fPackages[i].fDataTypes[k].enc.map .d)] :: S)
        (fun j => j ≤ w.fPackages[i].fDataTypes[k].fConstructors.length ∧ ctorI name (w.fPackages[i].fDataTypes[k].fConstructors.drop j) j = ctorI name w.fPackages[i].fDataTypes[k].fConstructors 0) (fun j => w.fPackages[i].fDataTypes[k].fConstructors.length - j) 0 rfl ?_ ⟨Nat.zero_le _, rfl⟩ ?_
      · simp -implicitDefEqProofs (disch := omega) only [go_sem]
      rintro j ⟨r1, r2⟩
      simp -implicitDefEqProofs (disch := omega) only [go_sem]
      (repeat (with_reducible refine And.intro ?_ ?_; focus first | omega | rfl | assumption | exact ⟨_, rfl, rfl⟩ | (simp; omega) | (simp; done)))
      with_reducible refine split2 (fun hb => ?_) (fun hb => ?_) <;> have h := hb <;> (try simp only [wf_preprocess] at h) <;> simp -implicitDefEqProofs (disch := omega) only [go_sem, hb] <;> (repeat (with_reducible refine And.intro ?_ ?_; focus first | omega | rfl | assumption | exact ⟨_, rfl, rfl⟩ | (simp; omega) | (simp; done)))
      · have hj : j < w.fPackages[i].fDataTypes[k].fConstructors.length := by omega
        rw [ctorI_drop hj] at r2
        (repeat (with_reducible refine And.intro ?_ ?_; focus first | omega | rfl | assumption | exact ⟨_, rfl, rfl⟩ | (simp; omega) | (simp; done)))
        with_reducible refine split2 (fun hb => ?_) (fun hb => ?_) <;> have h := hb <;> (try simp only [wf_preprocess] at h) <;> simp -implicitDefEqProofs (disch := omega) only [go_sem, hb] <;> (repeat (with_reducible refine And.intro ?_ ?_; focus first | omega | rfl | assumption | exact ⟨_, rfl, rfl⟩ | (simp; omega) | (simp; done)))
        · rw [if_pos (by simpa using h)] at r2
          rw [← r2] at q2
          rw [← q2] at p2
          rw [← p2]
          first | rfl | (simp only [ctC, idxO]; simp -implicitDefEqProofs (disch := omega) only [go_sem]; done)
        · rw [if_neg (by simpa using h)] at r2
          exact inv_at (j + 1) (by omega) rfl rfl ⟨by omega, r2⟩
      · rw [List.drop_of_length_le (by omega), ctorI] at r2
        rw [← r2] at q2
        exact inv_drop 2 (by decide) (k + 1) (by omega) rfl rfl rfl rfl ⟨by omega, q2⟩
    · rw [List.drop_of_length_le (by omega), ctorL] at q2
      rw [← q2] at p2
      exact inv_at (i + 1) (by omega) rfl rfl ⟨by omega, p2⟩
  · rw [List.drop_of_length_le (by omega), ctorA] at p2
    rw [← p2]
    first | rfl | (simp only [ctC, idxO]; simp -implicitDefEqProofs (disch := omega) only [go_sem]; done)
end Go.Proofs.YtokcpelkieeddaaGreat

namespace Go.Ab
theorem repcs_labC {r : List D} {n : Nat} {w : World} {σ : Nat → Nat} {S : Store} {β : Hs} {vs : List Value} (h : RepCs w σ S β ((labR r n).map .d) vs) : RepCs w σ S β (r.map .d) vs := by
  obtain ⟨a, ha, hc⟩ := less_lab w σ S β (.agg vs.toArray) ⟨vs.toArray, rfl, by simpa using h⟩
  cases ha
  simpa using hc
def ddC (w : MProgram) (name : List UInt8) : MDataType := match ctorAt w name with
  | some (t, _) => t
  | none => ⟨[], [], []⟩
theorem ddC_sz {w : MProgram} {name : List UInt8} : (ddC w name).sz ≤ w.sz := by
  unfold ddC
  split
  · rename_i t j h
    obtain ⟨⟨q, h1, h2⟩, _⟩ := ctorA_mem h
    have k1 : q.sz ≤ szRows (w.fPackages.map MPackage.enc) := szRows_mem (List.mem_map_of_mem h1)
    have k2 : t.sz ≤ szRows (q.fDataTypes.map MDataType.enc) := szRows_mem (List.mem_map_of_mem h2)
    have e1 : w.sz = w.fPackages.length + szRows (w.fPackages.map MPackage.enc) := by simp [MProgram.sz, MProgram.enc_eq, szRow, D.sz]
    simp only [MPackage.sz, MPackage.enc_eq, szRow, D.sz, List.length_map] at k1
    omega
  · simp [MDataType.sz, MDataType.enc, szRow, D.sz, szRows]
end Go.Ab
namespace Go.Proofs.YtokcpelkieeddaaGreat
open Go Go.Ab
theorem specFindCt_ok (w : MProgram) (name : List UInt8) (hsz : w.sz ≤ 4194304) : PCall Tryz.prog 22 [w.v, .c (.d (.s name))] (.tup [(true, (ddC w name).enc.map .d), (false, [.d (.i .i64 (idxO (ctorAt w name)))]), (false, [.d (.b (ctorAt w name).isSome)])]) := fun S => by
  have hd := ddC_sz (w := w) (name := name)
  have h0 := specCtAt_ok w name hsz
  cases hq : ctorAt w name with
  | none =>
    have e : ddC w name = ⟨[], [], []⟩ := by unfold ddC; rw [hq]
    rw [e]
    rw [hq] at h0
    simp only [ctC, idxO, Option.isSome_none] at h0 ⊢
    have h1 := l17Data_ok ⟨[], [], []⟩ (by decide)
    refine acall_cw (rs := [.cell 4 33, .tmp 5, .tmp 6]) Tryz.checked.mixed Tryz.func22 Tryz.ntmps22 rfl rfl rfl rfl rfl ?_
    simp -implicitDefEqProofs (disch := omega) only [go_sem]
    refine call_w h0 ?_
    simp -implicitDefEqProofs (disch := omega) only [go_sem]
    refine call_w h1 ?_
    simp -implicitDefEqProofs (disch := omega) only [go_sem]
    all_goals rfl
  | some p =>
    obtain ⟨t, j⟩ := p
    have e : ddC w name = t := by unfold ddC; rw [hq]
    rw [e] at hd ⊢
    rw [hq] at h0
    simp only [ctC, idxO, Option.isSome_some, MDataType.enc_eq, List.map_cons, List.map_nil] at h0 ⊢
    refine acall_cw (rs := [.cell 4 33, .tmp 5, .tmp 6]) Tryz.checked.mixed Tryz.func22 Tryz.ntmps22 rfl rfl rfl rfl rfl ?_
    simp -implicitDefEqProofs (disch := omega) only [go_sem]
    refine call_w h0 ?_
    simp -implicitDefEqProofs (disch := omega) only [go_sem]
    refine call_w (l17Data_ok t (by omega)) ?_
    simp -implicitDefEqProofs (disch := omega) only [go_sem]
    all_goals rfl
theorem implFindCt_lab (w : MProgram) (name : List UInt8) (hsz : w.sz ≤ 4194304) (n : Nat) : PCall Tryz.prog 24 [w.v, .c (.d (.s name))] (.tup [(true, (labR (ddC w name).enc n).map .d), (false, [.d (.i .i64 (idxO (ctorAt w name)))]), (false, [.d (.b (ctorAt w name).isSome)])]) := by
  have hd := ddC_sz (w := w) (name := name)
  have h0 := implCtAt_ok w name hsz
  cases hq : ctorAt w name with
  | none =>
    have e : ddC w name = ⟨[], [], []⟩ := by unfold ddC; rw [hq]
    rw [e]
    rw [hq] at h0
    simp only [ctC, idxO, Option.isSome_none] at h0 ⊢
    have hE : (labR (⟨[], [], []⟩ : MDataType).enc n).map C.d = [.d (.s []), .d (.ol n []), .d (.ol (n + 1) [])] := by simp [MDataType.enc, labR, labD, cntD, cntRs, labRs]
    rw [hE]
    refine PCall.less (r := .tup [(true, [.d (.s []), .fsl [], .fsl []]), (false, [.d (.i .i64 0)]), (false, [.d (.b false)])]) (fun S => ?_) (less_tup1 fun w σ S β vs hc => cells_less (cs := [.d (.s []), .fsl [], .fsl []]) rfl (fun j x y hx hy v hv => ?_) hc)
    · refine acall_cw (rs := [.cell 4 33, .tmp 5, .tmp 6]) Tryz.checked.mixed Tryz.func24 Tryz.ntmps24 rfl rfl rfl rfl rfl ?_
      simp -implicitDefEqProofs (disch := omega) only [go_sem]
      refine call_w h0 ?_
      simp -implicitDefEqProofs (disch := omega) only [go_sem]
    · match j, hx, hy with
      | 0, hx, hy => cases hx; cases hy; exact hv
      | 1, hx, hy => cases hx; cases hy; exact cell_fsl _ hv
      | 2, hx, hy => cases hx; cases hy; exact cell_fsl _ hv
      | j + 3, hx, hy => simp at hx
  | some p =>
    intro S
    obtain ⟨t, j⟩ := p
    have e : ddC w name = t := by unfold ddC; rw [hq]
    rw [e] at hd ⊢
    rw [hq] at h0
    have h1 := copyData_lab t n (by omega)
    obtain ⟨row, hrow⟩ : ∃ row, row = labR t.enc n := ⟨_, rfl⟩
    have hE : ∃ a b c, row = [a, b, c] := by
      rw [hrow, MDataType.enc_eq]; exact ⟨_, _, _, rfl⟩
    rw [← hrow] at h1 ⊢
    obtain ⟨a, b, c, rfl⟩ := hE
    clear hrow
    simp only [ctC, idxO, Option.isSome_some, MDataType.enc_eq, List.map_cons, List.map_nil] at h0 h1 ⊢
    refine acall_cw (rs := [.cell 4 33, .tmp 5, .tmp 6]) Tryz.checked.mixed Tryz.func24 Tryz.ntmps24 rfl rfl rfl rfl rfl ?_
    simp -implicitDefEqProofs (disch := omega) only [go_sem]
    refine call_w h0 ?_
    simp -implicitDefEqProofs (disch := omega) only [go_sem]
    refine call_w h1 ?_
    simp -implicitDefEqProofs (disch := omega) only [go_sem]
end Go.Proofs.YtokcpelkieeddaaGreat
namespace Go.Proofs.YtokcpelkieeddaaGreat
open Go Go.Ab
theorem implFindCt_ok (w : MProgram) (name : List UInt8) (hsz : w.sz ≤ 4194304) : PCall Tryz.prog 24 [w.v, .c (.d (.s name))] (.tup [(true, (ddC w name).enc.map .d), (false, [.d (.i .i64 (idxO (ctorAt w name)))]), (false, [.d (.b (ctorAt w name).isSome)])]) :=
  PCall.less (implFindCt_lab w name hsz 0) (less_tup1 fun w σ S β vs h => repcs_labC h)
end Go.Proofs.YtokcpelkieeddaaGreat
namespace Go.Proofs.YtokcpelkieeddaaGreat.fnExactFindConstructor
open Go Go.Ab
theorem law (x0 : MProgram) (x1 : List UInt8) (f0 : FitL x0.enc) (f1 : FitL [D.s x1]) : ACall Tryz.prog 5 [x0.v, .c (.d (.s x1))] [] (fun r _ => r = .c (.d (.b true))) := by
  have hmx := mcr_sz x0.enc x0.plw.2
  rw [MProgram.enc_length, MProgram.sz_def] at hmx
  simp only [MProgram.enc_eq, List.cons_append, List.nil_append, mcR, mcD] at hmx
  have hd := ddC_sz (w := x0) (name := x1)
  have hmd := mcr_sz (ddC x0 x1).enc (ddC x0 x1).plw.2
  rw [MDataType.enc_length, MDataType.sz_def] at hmd
  simp only [MDataType.enc_eq, List.cons_append, List.nil_append, mcR, mcD] at hmd
  refine acall_cw (rs := [.tmp 4]) Tryz.checked.mixed Tryz.func5 Tryz.ntmps5 rfl rfl rfl rfl rfl ?_
  simp -implicitDefEqProofs (disch := omega) only [go_sem]
  with_reducible refine split2 (fun hb => ?_) (fun hb => ?_) <;> have h := hb <;> (try simp only [wf_preprocess] at h) <;> simp -implicitDefEqProofs (disch := omega) only [go_sem, hb] <;> (repeat (with_reducible refine And.intro ?_ ?_; focus first | omega | rfl | assumption | exact ⟨_, rfl, rfl⟩ | (simp; omega) | (simp; done)))
  have hs1 := h
  refine call_w (szProgram_ok x0 _ (by omega) (by omega) f0) ?_
  simp -implicitDefEqProofs (disch := omega) only [go_sem] <;> (repeat (with_reducible refine And.intro ?_ ?_; focus first | omega | rfl | assumption | exact ⟨_, rfl, rfl⟩ | (simp; omega) | (simp; done)))
  with_reducible refine split2 (fun hb => ?_) (fun hb => ?_) <;> have h := hb <;> (try simp only [wf_preprocess] at h) <;> simp -implicitDefEqProofs (disch := omega) only [go_sem, hb] <;> (repeat (with_reducible refine And.intro ?_ ?_; focus first | omega | rfl | assumption | exact ⟨_, rfl, rfl⟩ | (simp; omega) | (simp; done)))
  have h0 := sub1_nn h
  have c1 := specFindCt_ok x0 x1 (by omega)
  have c2 := implFindCt_lab x0 x1 (by omega)
  have c3 := implFindCt_ok x0 x1 (by omega)
  obtain ⟨A, hA⟩ : ∃ A, A = idxO (ctorAt x0 x1) := ⟨_, rfl⟩
  obtain ⟨B, hB⟩ : ∃ B, B = (ctorAt x0 x1).isSome := ⟨_, rfl⟩
  obtain ⟨X, hX⟩ : ∃ X, X = ddC x0 x1 := ⟨_, rfl⟩
  rw [← hX] at hd hmd
  rw [← hA, ← hB, ← hX] at c1 c3
  simp only [← hA, ← hB, ← hX] at c2
  simp only [MDataType.enc_eq, List.map_cons, List.map_nil] at c1 c3
  refine call_w (toProgram_ok x0 (by omega)) ?_
  simp -implicitDefEqProofs (disch := omega) only [go_sem] <;> (repeat (with_reducible refine And.intro ?_ ?_; focus first | omega | rfl | assumption | exact ⟨_, rfl, rfl⟩ | (simp; omega) | (simp; done)))
  refine call_w c1 ?_
  simp -implicitDefEqProofs (disch := omega) only [go_sem]
  refine call_d rfl (ACall.own (mk := V.agg) (r := x0.enc) holder_agg x0.plw.1 (fun n => toProgram_lab x0 n (by omega))) ?_
  simp -implicitDefEqProofs (disch := omega) only [go_sem, MProgram.enc_eq, List.cons_append, List.nil_append, rowX, cellX, rootD]
  refine call_d rfl (ACall.ownL (k := (0, 2)) rfl (mk := fun cs => .tup ((true, cs) :: [C.d (.i .i64 A), C.d (.b B)].map fun x => (false, [x]))) (r := X.enc) (holder_tup [C.d (.i .i64 A), C.d (.b B)] rfl) X.plw.1 (fun n => c2 n)) ?_
  simp -implicitDefEqProofs (disch := omega) only [go_sem, MDataType.enc_eq, List.map_cons, List.map_nil, rowX, cellX, rootD]
  refine call_d rfl (ACall.lend (k := (0, 4)) rfl (stay_plain rfl) (eqDataType_ok X X (by omega))) ?_
  simp -implicitDefEqProofs (disch := omega) only [go_sem, dec_true rfl, Bool.not_true]
  refine call_w (toProgram_ok x0 (by omega)) ?_
  simp -implicitDefEqProofs (disch := omega) only [go_sem] <;> (repeat (with_reducible refine And.intro ?_ ?_; focus first | omega | rfl | assumption | exact ⟨_, rfl, rfl⟩ | (simp; omega) | (simp; done)))
  refine call_a rfl (DS.refl _) (ACall.lend (k := (0, 2)) rfl (stay_plain rfl) (eqProgram_ok x0 x0 (by omega))) ?_
  simp -implicitDefEqProofs (disch := omega) only [go_sem, dec_true rfl, Bool.not_true]
  refine call_d rfl (markProgram_ok x0 1 0 2 0 _ _ rfl rfl ⟨by omega, by omega⟩) ?_
  simp -implicitDefEqProofs (disch := omega) only [go_sem, dec_neg]
  refine call_d rfl (ACall.lend (k := (0, 4)) rfl (stay_plain rfl) (eqDataType_ok X X (by omega))) ?_
  simp -implicitDefEqProofs (disch := omega) only [go_sem, dec_true rfl, Bool.not_true]
  refine call_d rfl (markDataType_ok X 1 0 4 0 _ _ rfl rfl rfl ⟨by omega, by omega⟩) ?_
  simp -implicitDefEqProofs (disch := omega) only [go_sem]
  refine call_d rfl (heldDataType_ok X 1 0 4 0 _ _ rfl rfl rfl ⟨by omega, by omega⟩) ?_
  simp -implicitDefEqProofs (disch := omega) only [go_sem, dec_neg, Bool.not_true]
  refine call_w (toProgram_ok x0 (by omega)) ?_
  simp -implicitDefEqProofs (disch := omega) only [go_sem] <;> (repeat (with_reducible refine And.intro ?_ ?_; focus first | omega | rfl | assumption | exact ⟨_, rfl, rfl⟩ | (simp; omega) | (simp; done)))
  refine call_w c3 ?_
  simp -implicitDefEqProofs (disch := omega) only [go_sem]
  refine call_w (eqDataType_ok X X (by omega)) ?_
  simp -implicitDefEqProofs (disch := omega) only [go_sem, dec_true rfl, Bool.not_true]
  refine call_d rfl (heldDataType_ok X 1 0 4 0 _ _ rfl rfl rfl ⟨by omega, by omega⟩) ?_
  simp -implicitDefEqProofs (disch := omega) only [go_sem, dec_neg, Bool.not_true]
end Go.Proofs.YtokcpelkieeddaaGreat.fnExactFindConstructor

namespace Go.Ab
theorem wt_pos {P : Program} {n : Nat} {t : TypeId} {ds : List D} (h : WT P n t ds) : ∃ m, n = m + 1 := by
  cases n with
  | zero => exact h.elim
  | succ m => exact ⟨m, rfl⟩
theorem wt_bool {P : Program} {n : Nat} {t : TypeId} {ds : List D} (ht : P.underlying t = some .bool) (h : WT P n t ds) : ∃ b, ds = [.b b] := by
  obtain ⟨m, rfl⟩ := wt_pos h
  simp only [WT, ht] at h; exact h
theorem wt_int {P : Program} {n : Nat} {t : TypeId} {k : IntKind} {ds : List D} (ht : P.underlying t = some (.int k)) (h : WT P n t ds) : ∃ x, ds = [.i k x] ∧ (Lit.int k x).wf = true := by
  obtain ⟨m, rfl⟩ := wt_pos h
  simp only [WT, ht] at h; exact h
theorem wt_string {P : Program} {n : Nat} {t : TypeId} {ds : List D} (ht : P.underlying t = some .string) (h : WT P n t ds) : ∃ l, ds = [.s l] := by
  obtain ⟨m, rfl⟩ := wt_pos h
  simp only [WT, ht] at h; exact ⟨h.choose, h.choose_spec.1⟩
theorem wt_slice {P : Program} {n : Nat} {t e : TypeId} {ds : List D} (ht : P.underlying t = some (.slice e)) (h : WT P n t ds) : ∃ es m, m < n ∧ ds = [.sl es] ∧ ∀ x ∈ es, WT P m e x := by
  obtain ⟨m, rfl⟩ := wt_pos h
  simp only [WT, ht] at h
  obtain ⟨es, h1, _, h2⟩ := h
  exact ⟨es, m, by omega, h1, fun x hx => (h2 x hx).2⟩
theorem wt_struct {P : Program} {n : Nat} {t : TypeId} {fs : Array Field} {ds : List D} (ht : P.underlying t = some (.struct fs)) (h : WT P n t ds) : ∃ m, m < n ∧ WTF P (WT P m) fs.toList ds := by
  obtain ⟨m, rfl⟩ := wt_pos h
  simp only [WT, ht] at h
  exact ⟨m, by omega, h⟩
theorem list_enc {α : Type} {enc : α → List D} : ∀ {es : List (List D)}, (∀ x ∈ es, ∃ m, x = enc m) → ∃ ms : List α, es = ms.map enc
  | [], _ => ⟨[], rfl⟩
  | e :: es, h => by
    obtain ⟨m, hm⟩ := h e (by simp)
    obtain ⟨ms, hms⟩ := list_enc (es := es) fun x hx => h x (by simp [hx])
    exact ⟨m :: ms, by rw [List.map_cons, ← hm, ← hms]⟩
theorem wtf_fit {P : Program} {W : TypeId → List D → Prop} (hW : ∀ t ds, W t ds → FitL ds) : ∀ (fs : List Field) (ds : List D), WTF P W fs ds → FitL ds
  | [], ds, h => by
    have h : ds = [] := h
    rw [h]; exact fitL_nil
  | f :: fs, ds, h => by
    obtain ⟨a, b, rfl, _, h1, h2⟩ := h
    exact fitL_append.2 ⟨hW _ _ h1, wtf_fit hW fs b h2⟩
theorem wt_fit {P : Program} : ∀ (n : Nat) (t : TypeId) (ds : List D), WT P n t ds → FitL ds
  | 0, t, ds, h => h.elim
  | n + 1, t, ds, h => by
    simp only [WT] at h
    split at h
    · obtain ⟨b, rfl⟩ := h; exact fitL_cons.2 ⟨.b _, fitL_nil⟩
    · obtain ⟨b, rfl, _⟩ := h; exact fitL_cons.2 ⟨.i _ _, fitL_nil⟩
    · obtain ⟨l, rfl, hl⟩ := h; exact fitL_cons.2 ⟨.s _ hl, fitL_nil⟩
    · obtain ⟨es, rfl, hl, hh⟩ := h
      exact fitL_cons.2 ⟨.sl _ hl fun e he d hd => wt_fit n _ e (hh e he).2 d hd, fitL_nil⟩
    · exact wtf_fit (wt_fit n) _ _ h
    · exact h.elim
end Go.Ab
namespace Go.Proofs.YtokcpelkieeddaaGreat
open Go Go.Ab
theorem wt_Type : ∀ (n : Nat) (ds : List D), WT Tryz.prog n 212 ds → ∃ x : MType, ds = x.enc := by
  intro n
  induction n using Nat.strongRecOn with
  | _ n ih =>
    intro ds h
    obtain ⟨m, hm, h⟩ := wt_struct Tryz.underlying212 h
    simp only [WTF] at h
    obtain ⟨a0, r0, rfl, l0, h0, a1, r1, rfl, l1, h1, a2, r2, rfl, l2, h2, rfl⟩ := h
    obtain ⟨x0, rfl, _⟩ := wt_int Tryz.underlying3 h0
    obtain ⟨x1, rfl⟩ := wt_string Tryz.underlying9 h1
    obtain ⟨es2, m2, hm2, rfl, hs2⟩ := wt_slice Tryz.underlying118 h2
    obtain ⟨x2, rfl⟩ := list_enc (enc := MType.enc) fun y hy => ih m2 (by omega) y (hs2 y hy)
    refine ⟨MType.mk x0 x1 x2, ?_⟩
    rw [MType.enc_eq]
    simp [MType.fKind, MType.fName, MType.fArgs]
theorem wt_Bound : ∀ (n : Nat) (ds : List D), WT Tryz.prog n 275 ds → ∃ x : MBound, ds = x.enc := by
  intro n
  induction n using Nat.strongRecOn with
  | _ n ih =>
    intro ds h
    obtain ⟨m, hm, h⟩ := wt_struct Tryz.underlying275 h
    simp only [WTF] at h
    obtain ⟨a0, r0, rfl, l0, h0, a1, r1, rfl, l1, h1, rfl⟩ := h
    obtain ⟨x0, rfl⟩ := wt_string Tryz.underlying9 h0
    obtain ⟨x1, rfl⟩ := wt_Type m a1 h1
    refine ⟨MBound.mk x0 x1, ?_⟩
    rw [MBound.enc_eq]
    simp
theorem wt_ExprArm : ∀ (n : Nat), (∀ ds : List D, WT Tryz.prog n 234 ds → ∃ x : MExpr, ds = x.enc) ∧ (∀ ds : List D, WT Tryz.prog n 294 ds → ∃ x : MArm, ds = x.enc) := by
  intro n
  induction n using Nat.strongRecOn with
  | _ n ih =>
    refine ⟨fun ds h => ?_, fun ds h => ?_⟩
    · obtain ⟨m, hm, h⟩ := wt_struct Tryz.underlying234 h
      simp only [WTF] at h
      obtain ⟨a0, r0, rfl, l0, h0, a1, r1, rfl, l1, h1, a2, r2, rfl, l2, h2, a3, r3, rfl, l3, h3, a4, r4, rfl, l4, h4, a5, r5, rfl, l5, h5, a6, r6, rfl, l6, h6, rfl⟩ := h
      obtain ⟨x0, rfl, _⟩ := wt_int Tryz.underlying3 h0
      obtain ⟨x1, rfl⟩ := wt_string Tryz.underlying9 h1
      obtain ⟨x2, rfl⟩ := wt_string Tryz.underlying9 h2
      obtain ⟨x3, rfl, _⟩ := wt_int Tryz.underlying3 h3
      obtain ⟨x4, rfl⟩ := wt_Type m a4 h4
      obtain ⟨es5, m5, hm5, rfl, hs5⟩ := wt_slice Tryz.underlying231 h5
      obtain ⟨x5, rfl⟩ := list_enc (enc := MExpr.enc) fun y hy => (ih m5 (by omega)).1 y (hs5 y hy)
      obtain ⟨es6, m6, hm6, rfl, hs6⟩ := wt_slice Tryz.underlying232 h6
      obtain ⟨x6, rfl⟩ := list_enc (enc := MArm.enc) fun y hy => (ih m6 (by omega)).2 y (hs6 y hy)
      refine ⟨MExpr.mk x0 x1 x2 x3 x4 x5 x6, ?_⟩
      rw [MExpr.enc_eq]
      simp [MExpr.fKind, MExpr.fTrait, MExpr.fName, MExpr.fN, MExpr.fType, MExpr.fArgs, MExpr.fArms]
    · obtain ⟨m, hm, h⟩ := wt_struct Tryz.underlying294 h
      simp only [WTF] at h
      obtain ⟨a0, r0, rfl, l0, h0, a1, r1, rfl, l1, h1, a2, r2, rfl, l2, h2, rfl⟩ := h
      obtain ⟨x0, rfl⟩ := wt_string Tryz.underlying9 h0
      obtain ⟨es1, m1, hm1, rfl, hs1⟩ := wt_slice Tryz.underlying22 h1
      obtain ⟨x1, rfl⟩ := list_enc (enc := encS) fun y hy => wt_string Tryz.underlying9 (hs1 y hy)
      obtain ⟨x2, rfl⟩ := (ih m (by omega)).1 a2 h2
      refine ⟨MArm.mk x0 x1 x2, ?_⟩
      rw [MArm.enc_eq]
      simp [MArm.fConstructor, MArm.fVars, MArm.fBody]
theorem wt_Expr (n : Nat) (ds : List D) (h : WT Tryz.prog n 234 ds) : ∃ x : MExpr, ds = x.enc := (wt_ExprArm n).1 ds h
theorem wt_Signature : ∀ (n : Nat) (ds : List D), WT Tryz.prog n 272 ds → ∃ x : MSignature, ds = x.enc := by
  intro n
  induction n using Nat.strongRecOn with
  | _ n ih =>
    intro ds h
    obtain ⟨m, hm, h⟩ := wt_struct Tryz.underlying272 h
    simp only [WTF] at h
    obtain ⟨a0, r0, rfl, l0, h0, a1, r1, rfl, l1, h1, a2, r2, rfl, l2, h2, a3, r3, rfl, l3, h3, a4, r4, rfl, l4, h4, a5, r5, rfl, l5, h5, rfl⟩ := h
    obtain ⟨x0, rfl⟩ := wt_string Tryz.underlying9 h0
    obtain ⟨es1, m1, hm1, rfl, hs1⟩ := wt_slice Tryz.underlying118 h1
    obtain ⟨x1, rfl⟩ := list_enc (enc := MType.enc) fun y hy => wt_Type m1 y (hs1 y hy)
    obtain ⟨x2, rfl⟩ := wt_Type m a2 h2
    obtain ⟨x3, rfl⟩ := wt_bool Tryz.underlying4 h3
    obtain ⟨es4, m4, hm4, rfl, hs4⟩ := wt_slice Tryz.underlying22 h4
    obtain ⟨x4, rfl⟩ := list_enc (enc := encS) fun y hy => wt_string Tryz.underlying9 (hs4 y hy)
    obtain ⟨x5, rfl⟩ := wt_Expr m a5 h5
    refine ⟨MSignature.mk x0 x1 x2 x3 x4 x5, ?_⟩
    rw [MSignature.enc_eq]
    simp
theorem wt_Trait : ∀ (n : Nat) (ds : List D), WT Tryz.prog n 223 ds → ∃ x : MTrait, ds = x.enc := by
  intro n
  induction n using Nat.strongRecOn with
  | _ n ih =>
    intro ds h
    obtain ⟨m, hm, h⟩ := wt_struct Tryz.underlying223 h
    simp only [WTF] at h
    obtain ⟨a0, r0, rfl, l0, h0, a1, r1, rfl, l1, h1, a2, r2, rfl, l2, h2, a3, r3, rfl, l3, h3, a4, r4, rfl, l4, h4, rfl⟩ := h
    obtain ⟨x0, rfl⟩ := wt_string Tryz.underlying9 h0
    obtain ⟨es1, m1, hm1, rfl, hs1⟩ := wt_slice Tryz.underlying22 h1
    obtain ⟨x1, rfl⟩ := list_enc (enc := encS) fun y hy => wt_string Tryz.underlying9 (hs1 y hy)
    obtain ⟨x2, rfl⟩ := wt_bool Tryz.underlying4 h2
    obtain ⟨x3, rfl⟩ := wt_bool Tryz.underlying4 h3
    obtain ⟨es4, m4, hm4, rfl, hs4⟩ := wt_slice Tryz.underlying221 h4
    obtain ⟨x4, rfl⟩ := list_enc (enc := MSignature.enc) fun y hy => wt_Signature m4 y (hs4 y hy)
    refine ⟨MTrait.mk x0 x1 x2 x3 x4, ?_⟩
    rw [MTrait.enc_eq]
    simp
theorem wt_Constructor : ∀ (n : Nat) (ds : List D), WT Tryz.prog n 120 ds → ∃ x : MConstructor, ds = x.enc := by
  intro n
  induction n using Nat.strongRecOn with
  | _ n ih =>
    intro ds h
    obtain ⟨m, hm, h⟩ := wt_struct Tryz.underlying120 h
    simp only [WTF] at h
    obtain ⟨a0, r0, rfl, l0, h0, a1, r1, rfl, l1, h1, rfl⟩ := h
    obtain ⟨x0, rfl⟩ := wt_string Tryz.underlying9 h0
    obtain ⟨es1, m1, hm1, rfl, hs1⟩ := wt_slice Tryz.underlying118 h1
    obtain ⟨x1, rfl⟩ := list_enc (enc := MType.enc) fun y hy => wt_Type m1 y (hs1 y hy)
    refine ⟨MConstructor.mk x0 x1, ?_⟩
    rw [MConstructor.enc_eq]
    simp
theorem wt_DataType : ∀ (n : Nat) (ds : List D), WT Tryz.prog n 25 ds → ∃ x : MDataType, ds = x.enc := by
  intro n
  induction n using Nat.strongRecOn with
  | _ n ih =>
    intro ds h
    obtain ⟨m, hm, h⟩ := wt_struct Tryz.underlying25 h
    simp only [WTF] at h
    obtain ⟨a0, r0, rfl, l0, h0, a1, r1, rfl, l1, h1, a2, r2, rfl, l2, h2, rfl⟩ := h
    obtain ⟨x0, rfl⟩ := wt_string Tryz.underlying9 h0
    obtain ⟨es1, m1, hm1, rfl, hs1⟩ := wt_slice Tryz.underlying22 h1
    obtain ⟨x1, rfl⟩ := list_enc (enc := encS) fun y hy => wt_string Tryz.underlying9 (hs1 y hy)
    obtain ⟨es2, m2, hm2, rfl, hs2⟩ := wt_slice Tryz.underlying23 h2
    obtain ⟨x2, rfl⟩ := list_enc (enc := MConstructor.enc) fun y hy => wt_Constructor m2 y (hs2 y hy)
    refine ⟨MDataType.mk x0 x1 x2, ?_⟩
    rw [MDataType.enc_eq]
    simp
theorem wt_Method : ∀ (n : Nat) (ds : List D), WT Tryz.prog n 278 ds → ∃ x : MMethod, ds = x.enc := by
  intro n
  induction n using Nat.strongRecOn with
  | _ n ih =>
    intro ds h
    obtain ⟨m, hm, h⟩ := wt_struct Tryz.underlying278 h
    simp only [WTF] at h
    obtain ⟨a0, r0, rfl, l0, h0, a1, r1, rfl, l1, h1, a2, r2, rfl, l2, h2, rfl⟩ := h
    obtain ⟨x0, rfl⟩ := wt_string Tryz.underlying9 h0
    obtain ⟨es1, m1, hm1, rfl, hs1⟩ := wt_slice Tryz.underlying22 h1
    obtain ⟨x1, rfl⟩ := list_enc (enc := encS) fun y hy => wt_string Tryz.underlying9 (hs1 y hy)
    obtain ⟨x2, rfl⟩ := wt_Expr m a2 h2
    refine ⟨MMethod.mk x0 x1 x2, ?_⟩
    rw [MMethod.enc_eq]
    simp
theorem wt_Instance : ∀ (n : Nat) (ds : List D), WT Tryz.prog n 228 ds → ∃ x : MInstance, ds = x.enc := by
  intro n
  induction n using Nat.strongRecOn with
  | _ n ih =>
    intro ds h
    obtain ⟨m, hm, h⟩ := wt_struct Tryz.underlying228 h
    simp only [WTF] at h
    obtain ⟨a0, r0, rfl, l0, h0, a1, r1, rfl, l1, h1, a2, r2, rfl, l2, h2, a3, r3, rfl, l3, h3, a4, r4, rfl, l4, h4, a5, r5, rfl, l5, h5, a6, r6, rfl, l6, h6, a7, r7, rfl, l7, h7, rfl⟩ := h
    obtain ⟨x0, rfl⟩ := wt_string Tryz.underlying9 h0
    obtain ⟨es1, m1, hm1, rfl, hs1⟩ := wt_slice Tryz.underlying22 h1
    obtain ⟨x1, rfl⟩ := list_enc (enc := encS) fun y hy => wt_string Tryz.underlying9 (hs1 y hy)
    obtain ⟨x2, rfl⟩ := wt_Type m a2 h2
    obtain ⟨es3, m3, hm3, rfl, hs3⟩ := wt_slice Tryz.underlying225 h3
    obtain ⟨x3, rfl⟩ := list_enc (enc := MBound.enc) fun y hy => wt_Bound m3 y (hs3 y hy)
    obtain ⟨x4, rfl⟩ := wt_bool Tryz.underlying4 h4
    obtain ⟨x5, rfl⟩ := wt_bool Tryz.underlying4 h5
    obtain ⟨x6, rfl⟩ := wt_Type m a6 h6
    obtain ⟨es7, m7, hm7, rfl, hs7⟩ := wt_slice Tryz.underlying226 h7
    obtain ⟨x7, rfl⟩ := list_enc (enc := MMethod.enc) fun y hy => wt_Method m7 y (hs7 y hy)
    refine ⟨MInstance.mk x0 x1 x2 x3 x4 x5 x6 x7, ?_⟩
    rw [MInstance.enc_eq]
    simp
theorem wt_Param : ∀ (n : Nat) (ds : List D), WT Tryz.prog n 281 ds → ∃ x : MParam, ds = x.enc := by
  intro n
  induction n using Nat.strongRecOn with
  | _ n ih =>
    intro ds h
    obtain ⟨m, hm, h⟩ := wt_struct Tryz.underlying281 h
    simp only [WTF] at h
    obtain ⟨a0, r0, rfl, l0, h0, a1, r1, rfl, l1, h1, rfl⟩ := h
    obtain ⟨x0, rfl⟩ := wt_string Tryz.underlying9 h0
    obtain ⟨x1, rfl⟩ := wt_Type m a1 h1
    refine ⟨MParam.mk x0 x1, ?_⟩
    rw [MParam.enc_eq]
    simp
theorem wt_Function : ∀ (n : Nat) (ds : List D), WT Tryz.prog n 236 ds → ∃ x : MFunction, ds = x.enc := by
  intro n
  induction n using Nat.strongRecOn with
  | _ n ih =>
    intro ds h
    obtain ⟨m, hm, h⟩ := wt_struct Tryz.underlying236 h
    simp only [WTF] at h
    obtain ⟨a0, r0, rfl, l0, h0, a1, r1, rfl, l1, h1, a2, r2, rfl, l2, h2, a3, r3, rfl, l3, h3, a4, r4, rfl, l4, h4, a5, r5, rfl, l5, h5, rfl⟩ := h
    obtain ⟨x0, rfl⟩ := wt_string Tryz.underlying9 h0
    obtain ⟨es1, m1, hm1, rfl, hs1⟩ := wt_slice Tryz.underlying22 h1
    obtain ⟨x1, rfl⟩ := list_enc (enc := encS) fun y hy => wt_string Tryz.underlying9 (hs1 y hy)
    obtain ⟨es2, m2, hm2, rfl, hs2⟩ := wt_slice Tryz.underlying225 h2
    obtain ⟨x2, rfl⟩ := list_enc (enc := MBound.enc) fun y hy => wt_Bound m2 y (hs2 y hy)
    obtain ⟨es3, m3, hm3, rfl, hs3⟩ := wt_slice Tryz.underlying230 h3
    obtain ⟨x3, rfl⟩ := list_enc (enc := MParam.enc) fun y hy => wt_Param m3 y (hs3 y hy)
    obtain ⟨x4, rfl⟩ := wt_Type m a4 h4
    obtain ⟨x5, rfl⟩ := wt_Expr m a5 h5
    refine ⟨MFunction.mk x0 x1 x2 x3 x4 x5, ?_⟩
    rw [MFunction.enc_eq]
    simp
theorem wt_Package : ∀ (n : Nat) (ds : List D), WT Tryz.prog n 143 ds → ∃ x : MPackage, ds = x.enc := by
  intro n
  induction n using Nat.strongRecOn with
  | _ n ih =>
    intro ds h
    obtain ⟨m, hm, h⟩ := wt_struct Tryz.underlying143 h
    simp only [WTF] at h
    obtain ⟨a0, r0, rfl, l0, h0, a1, r1, rfl, l1, h1, a2, r2, rfl, l2, h2, a3, r3, rfl, l3, h3, a4, r4, rfl, l4, h4, a5, r5, rfl, l5, h5, rfl⟩ := h
    obtain ⟨x0, rfl⟩ := wt_string Tryz.underlying9 h0
    obtain ⟨es1, m1, hm1, rfl, hs1⟩ := wt_slice Tryz.underlying22 h1
    obtain ⟨x1, rfl⟩ := list_enc (enc := encS) fun y hy => wt_string Tryz.underlying9 (hs1 y hy)
    obtain ⟨es2, m2, hm2, rfl, hs2⟩ := wt_slice Tryz.underlying138 h2
    obtain ⟨x2, rfl⟩ := list_enc (enc := MTrait.enc) fun y hy => wt_Trait m2 y (hs2 y hy)
    obtain ⟨es3, m3, hm3, rfl, hs3⟩ := wt_slice Tryz.underlying139 h3
    obtain ⟨x3, rfl⟩ := list_enc (enc := MDataType.enc) fun y hy => wt_DataType m3 y (hs3 y hy)
    obtain ⟨es4, m4, hm4, rfl, hs4⟩ := wt_slice Tryz.underlying140 h4
    obtain ⟨x4, rfl⟩ := list_enc (enc := MInstance.enc) fun y hy => wt_Instance m4 y (hs4 y hy)
    obtain ⟨es5, m5, hm5, rfl, hs5⟩ := wt_slice Tryz.underlying141 h5
    obtain ⟨x5, rfl⟩ := list_enc (enc := MFunction.enc) fun y hy => wt_Function m5 y (hs5 y hy)
    refine ⟨MPackage.mk x0 x1 x2 x3 x4 x5, ?_⟩
    rw [MPackage.enc_eq]
    simp
theorem wt_Program : ∀ (n : Nat) (ds : List D), WT Tryz.prog n 50 ds → ∃ x : MProgram, ds = x.enc := by
  intro n
  induction n using Nat.strongRecOn with
  | _ n ih =>
    intro ds h
    obtain ⟨m, hm, h⟩ := wt_struct Tryz.underlying50 h
    simp only [WTF] at h
    obtain ⟨a0, r0, rfl, l0, h0, rfl⟩ := h
    obtain ⟨es0, m0, hm0, rfl, hs0⟩ := wt_slice Tryz.underlying48 h0
    obtain ⟨x0, rfl⟩ := list_enc (enc := MPackage.enc) fun y hy => wt_Package m0 y (hs0 y hy)
    refine ⟨MProgram.mk x0, ?_⟩
    rw [MProgram.enc_eq]
    simp
end Go.Proofs.YtokcpelkieeddaaGreat

