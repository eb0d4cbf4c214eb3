/-
  SEVERAL TEXTS IN ONE (merged by program): contracts and models, each with its own heading.
-/
import Derived.Test.YtokcpelkieeddaaGreatPartUgbD
set_option linter.unusedSimpArgs false
set_option linter.unusedVariables false
set_option maxRecDepth 8000
set_option maxRecDepth 4000
namespace Go.Proofs.YtokcpelkieeddaaGreat
open Go Go.Ab
theorem markSExpr_all : ∀ n : Nat, (∀ xs : List MSExpr, SizeOf.sizeOf xs < n → ∀ (k : Int) (l j r : Nat) (p : List (Nat × Nat)) (S : Store) (rs : List (List (List D))), getO S (l, j) = some (.xf rs) → atR rs r p = some (xs.map MSExpr.enc) → 0 ≤ k ∧ k + mcRs (xs.map MSExpr.enc) ≤ 4611686018427387904 → ACall Tryz.prog 51 [.c (.xp (l, j) r p), .c (.d (.i .i64 k))] S (fun res S' => res = .c (.d (.i .i64 (k + mcRs (xs.map MSExpr.enc)))) ∧ S' = setO S (l, j) (.xf (updR rs r p (mkRs (xs.map MSExpr.enc) k)))))
  | 0 => fun xs h => by omega
  | n + 1 => by
    have ihSExpr := markSExpr_all n
    refine fun xs hn k l j r p S rs hS hp hk => ?_
    · have hlen := len_mc (f := MSExpr.enc) (fun x => by simp only [MSExpr.enc_eq, encS, encI, List.cons_append, List.nil_append, mcR, mcD]; omega) xs
      obtain ⟨rows, hr⟩ : ∃ rows, rows = xs.map MSExpr.enc := ⟨_, rfl⟩
      have hl : rows.length = xs.length := by rw [hr, List.length_map]
      rw [← hr] at hp hk hlen ⊢
      have ht : ∀ x : Ab.Obj, getO (setO S (l, j) x) (l, j) = some x := fun x => getO_setO_eq _ _ _ _ hS
      have hA : ∀ new, atR (updR rs r p new) r p = some new := fun new => atR_updR hp
      have hU : ∀ a b, updR (updR rs r p a) r p b = updR rs r p b := fun a b => updR_updR hp
      refine acall_cw (rs := [.tmp 4]) Tryz.checked.mixed Tryz.func51 Tryz.ntmps51 rfl rfl rfl rfl rfl ?_
      simp -implicitDefEqProofs (disch := omega) only [go_sem]
      refine loop_at (ι := Nat) Tryz.checked.mixed rfl [0, 1, 5] (fun i => [.c (.xp (1 + l, j) r p), .c (.d (.i .i64 (k + mcRs (rows.take i)))), .c (.d (.i .i64 i))])
        (fun i => [] :: setO S (l, j) (.xf (updR rs r p (mkTo rows k i)))) (fun i => i ≤ xs.length) (fun i => xs.length - i) 0 ?_ ?_ (Nat.zero_le _) ?_
      · have z0 : k + ((mcRs (rows.take 0) : Nat) : Int) = k := by simp [mcRs]
        rw [z0]
        rfl
      · rw [mkTo_zero, updR_same hp, setO_self _ _ hS]
      intro i hi
      simp -implicitDefEqProofs (disch := omega) only [go_sem, ht, hA, mkTo_length, hl]
      with_reducible refine split2 (fun hb => ?_) (fun hb => ?_) <;> have h := hb <;> try simp only [wf_preprocess] at h
      · have hi : i < xs.length := by omega
        have hir : i < rows.length := by omega
        obtain ⟨x, hx⟩ : ∃ x, x = xs[i] := ⟨_, rfl⟩
        have e1 : rows[i] = [.s x.fAtom, .sl (x.fList.map MSExpr.enc)] := by
          simp only [hr, List.getElem_map, ← hx]
          simp only [MSExpr.enc_eq, encS, encI, List.cons_append, List.nil_append]
        have hm := mcRs_take hir
        have hle := mcRs_le (rows := rows) (i := i + 1)
        rw [hm, e1] at hle
        rw [e1] at hm
        simp only [mcR, mcD] at hle hm
        have hK : k + ((mcRs (rows.take (i + 1)) : Nat) : Int) = k + ((mcRs (rows.take i) : Nat) : Int) + 1 + ((mcRs (x.fList.map MSExpr.enc) : Nat) : Int) := by rw [hm]; omega
        have e2 := mkTo_at (k := k) hir
        rw [e1] at e2
        have hC : ∀ row o, cellAt (mkAt rows k i row) i o = row[o]? := fun row o => mkAt_cell hir
        have hG : ∀ row, (mkAt rows k i row).getD i [] = row := fun row => mkAt_get hir
        simp -implicitDefEqProofs (disch := omega) only [go_sem, hb, ht, hA, hU, e2, hC, hG, mkAt_set, mkAt_length, hl, setO_twice, isSD]
        (repeat (with_reducible refine And.intro ?_ ?_; focus first | omega | rfl | assumption | exact ⟨_, rfl, rfl⟩ | (simp; omega) | (simp; done)))
        refine call_w (markText_ok (k + ((mcRs (rows.take i) : Nat) : Int)) (by omega)) ?_
        simp -implicitDefEqProofs (disch := omega) only [go_sem, hb, ht, hA, hU, e2, hC, hG, mkAt_set, mkAt_length, hl, setO_twice, isSD]
        (repeat (with_reducible refine And.intro ?_ ?_; focus first | omega | rfl | assumption | exact ⟨_, rfl, rfl⟩ | (simp; omega) | (simp; done)))
        refine call_d rfl (sub_mk hS hp hir (by rfl) (fun S' rs' g1 g2 => ihSExpr x.fList (by have := List.sizeOf_lt_of_mem (List.getElem_mem hi); rw [← hx] at this; have := MSExpr.lt_List x; omega) (k + ((mcRs (rows.take i) : Nat) : Int) + 1) (1 + l) j r _ S' rs' g1 g2 (by omega))) ?_
        simp -implicitDefEqProofs (disch := omega) only [go_sem, hb, ht, hA, hU, e2, hC, hG, mkAt_set, mkAt_length, hl, setO_twice, isSD]
        (repeat (with_reducible refine And.intro ?_ ?_; focus first | omega | rfl | assumption | exact ⟨_, rfl, rfl⟩ | (simp; omega) | (simp; done)))
        refine inv_at (i + 1) (by omega) (by rw [hK]; rfl) ?_ (by omega)
        have h3 := mkAt_to (k := k) hir
        rw [e1] at h3
        simp only [mkR, mkD] at h3
        rw [← h3]
        all_goals rfl
      · simp -implicitDefEqProofs (disch := omega) only [go_sem, hb]
        have hi : i = xs.length := by omega
        rw [mkTo_all (by omega), List.take_of_length_le (by omega)]
        all_goals (first | rfl | exact ⟨rfl, rfl⟩)
theorem markSExprS_ok (xs : List MSExpr) : ∀ (k : Int) (l j r : Nat) (p : List (Nat × Nat)) (S : Store) (rs : List (List (List D))), getO S (l, j) = some (.xf rs) → atR rs r p = some (xs.map MSExpr.enc) → 0 ≤ k ∧ k + mcRs (xs.map MSExpr.enc) ≤ 4611686018427387904 → ACall Tryz.prog 51 [.c (.xp (l, j) r p), .c (.d (.i .i64 k))] S (fun res S' => res = .c (.d (.i .i64 (k + mcRs (xs.map MSExpr.enc)))) ∧ S' = setO S (l, j) (.xf (updR rs r p (mkRs (xs.map MSExpr.enc) k)))) := (markSExpr_all _) xs (Nat.lt_succ_self _)
theorem markSExpr_ok (x : MSExpr) (k : Int) (l j b : Nat) (S : Store) (rs : List (List (List D))) (hS : getO S (l, j) = some (.xf rs)) (h1 : atR rs (b + 1) [] = some (x.fList.map MSExpr.enc)) (hk : 0 ≤ k ∧ k + ((mcRs (x.fList.map MSExpr.enc) : Nat) : Int) ≤ 4611686018427387904) : ACall Tryz.prog 14 [.agg [.d (.s x.fAtom), .xp (l, j) (b + 1) []], .c (.d (.i .i64 k))] S (fun res S' => res = .c (.d (.i .i64 (k + ((mcRs (x.fList.map MSExpr.enc) : Nat) : Int)))) ∧ S' = setO S (l, j) (.xf (updR (rs) (b + 1) [] (mkRs (x.fList.map MSExpr.enc) (k))))) := by
  have ht : ∀ x : Ab.Obj, getO (setO S (l, j) x) (l, j) = some x := fun x => getO_setO_eq _ _ _ _ hS
  refine acall_cw (rs := [.tmp 4]) Tryz.checked.mixed Tryz.func14 Tryz.ntmps14 rfl rfl rfl rfl rfl ?_
  simp -implicitDefEqProofs (disch := omega) only [go_sem]
  refine call_d rfl (markSExprS_ok x.fList (k) (1 + l) j (b + 1) [] _ _ (by rw [getO_up1]; first | exact hS | exact ht _) (by first | assumption | (simp (disch := omega) only [ne_eq, atR_ne]; assumption)) (by omega)) ?_
  simp -implicitDefEqProofs (disch := omega) only [go_sem, setO_twice, setO_up1]
  try exact ⟨rfl, rfl⟩
theorem heldSExpr_all : ∀ n : Nat, (∀ xs : List MSExpr, SizeOf.sizeOf xs < n → ∀ (k : Int) (l j r : Nat) (p : List (Nat × Nat)) (S : Store) (rs : List (List (List D))), getO S (l, j) = some (.xf rs) → atR rs r p = some (mkRs (xs.map MSExpr.enc) k) → 0 ≤ k ∧ k + mcRs (xs.map MSExpr.enc) ≤ 4611686018427387904 → ACall Tryz.prog 52 [.c (.xp (l, j) r p), .c (.d (.i .i64 k))] S (fun res S' => res = .c (.d (.i .i64 (k + mcRs (xs.map MSExpr.enc)))) ∧ S' = S))
  | 0 => fun xs h => by omega
  | n + 1 => by
    have ihSExpr := heldSExpr_all n
    refine fun xs hn k l j r p S rs hS hp hk => ?_
    · have hlen := len_mc (f := MSExpr.enc) (fun x => by simp only [MSExpr.enc_eq, encS, encI, List.cons_append, List.nil_append, mcR, mcD]; omega) xs
      obtain ⟨rows, hr⟩ : ∃ rows, rows = xs.map MSExpr.enc := ⟨_, rfl⟩
      have hl : rows.length = xs.length := by rw [hr, List.length_map]
      rw [← hr] at hp hk hlen ⊢
      refine acall_cw (rs := [.tmp 4]) Tryz.checked.mixed Tryz.func52 Tryz.ntmps52 rfl rfl rfl rfl rfl ?_
      simp -implicitDefEqProofs (disch := omega) only [go_sem]
      refine loop_at (ι := Nat) Tryz.checked.mixed rfl [0, 1, 5] (fun i => [.c (.xp (1 + l, j) r p), .c (.d (.i .i64 (k + mcRs (rows.take i)))), .c (.d (.i .i64 i))])
        (fun i => [] :: S) (fun i => i ≤ xs.length) (fun i => xs.length - i) 0 ?_ rfl (Nat.zero_le _) ?_
      · have z0 : k + ((mcRs (rows.take 0) : Nat) : Int) = k := by simp [mcRs]
        rw [z0]
        rfl
      intro i hi
      simp -implicitDefEqProofs (disch := omega) only [go_sem, hS, hp, mkRs_length, hl]
      with_reducible refine split2 (fun hb => ?_) (fun hb => ?_) <;> have h := hb <;> try simp only [wf_preprocess] at h
      · have hi : i < xs.length := by omega
        have hir : i < rows.length := by omega
        obtain ⟨x, hx⟩ : ∃ x, x = xs[i] := ⟨_, rfl⟩
        have e1 : rows[i] = [.s x.fAtom, .sl (x.fList.map MSExpr.enc)] := by
          simp only [hr, List.getElem_map, ← hx]
          simp only [MSExpr.enc_eq, encS, encI, List.cons_append, List.nil_append]
        have hm := mcRs_take hir
        have hle := mcRs_le (rows := rows) (i := i + 1)
        rw [hm, e1] at hle
        rw [e1] at hm
        simp only [mcR, mcD] at hle hm
        have hK : k + ((mcRs (rows.take (i + 1)) : Nat) : Int) = k + ((mcRs (rows.take i) : Nat) : Int) + 1 + ((mcRs (x.fList.map MSExpr.enc) : Nat) : Int) := by rw [hm]; omega
        have e2 : mkR rows[i] (k + ((mcRs (rows.take i) : Nat) : Int)) = [.s (mtext (k + ((mcRs (rows.take i) : Nat) : Int))), .sl (mkRs (x.fList.map MSExpr.enc) (k + ((mcRs (rows.take i) : Nat) : Int) + 1))] := by
          rw [e1]
          simp only [mkR, mkD]
          all_goals rfl
        have hC : ∀ o, cellAt (mkRs rows k) i o = ([.s (mtext (k + ((mcRs (rows.take i) : Nat) : Int))), .sl (mkRs (x.fList.map MSExpr.enc) (k + ((mcRs (rows.take i) : Nat) : Int) + 1))] : List D)[o]? := fun o => by
          have h1 : (mkRs rows k)[i]? = some (mkR rows[i] (k + ((mcRs (rows.take i) : Nat) : Int))) := by
            have h2 := mkRs_get (k := k) hir
            have h3 : i < (mkRs rows k).length := by rw [mkRs_length]; exact hir
            rw [List.getD_eq_getElem?_getD, List.getElem?_eq_getElem h3, Option.getD_some] at h2
            rw [List.getElem?_eq_getElem h3, h2]
          unfold cellAt
          rw [h1, Option.bind_some, e2]
        have hG := mkRs_get (k := k) hir
        rw [e2] at hG
        simp -implicitDefEqProofs (disch := omega) only [go_sem, hb, hS, hp, hC, hG, mkRs_length, hl, isSD]
        (repeat (with_reducible refine And.intro ?_ ?_; focus first | omega | rfl | assumption | exact ⟨_, rfl, rfl⟩ | (simp; omega) | (simp; done)))
        refine call_w (markText_ok (k + ((mcRs (rows.take i) : Nat) : Int)) (by omega)) ?_
        simp -implicitDefEqProofs (disch := omega) only [go_sem, hb, hS, hp, hC, hG, mkRs_length, hl, isSD]
        (repeat (with_reducible refine And.intro ?_ ?_; focus first | omega | rfl | assumption | exact ⟨_, rfl, rfl⟩ | (simp; omega) | (simp; done)))
        refine call_d rfl (ihSExpr x.fList (by have := List.sizeOf_lt_of_mem (List.getElem_mem hi); rw [← hx] at this; have := MSExpr.lt_List x; omega) (k + ((mcRs (rows.take i) : Nat) : Int) + 1) (1 + l) j r _ _ _ (by rw [getO_up1]; exact hS) (atR_snoc hp (by rw [hC]; rfl)) (by omega)) ?_
        simp -implicitDefEqProofs (disch := omega) only [go_sem, hb, hS, hp, hC, hG, mkRs_length, hl, isSD, dec_neg]
        (repeat (with_reducible refine And.intro ?_ ?_; focus first | omega | rfl | assumption | exact ⟨_, rfl, rfl⟩ | (simp; omega) | (simp; done)))
        refine inv_at (i + 1) (by omega) (by rw [hK]; rfl) rfl (by omega)
      · simp -implicitDefEqProofs (disch := omega) only [go_sem, hb]
        have hi : i = xs.length := by omega
        rw [List.take_of_length_le (by omega)]
        all_goals (first | rfl | exact ⟨rfl, rfl⟩)
theorem heldSExprS_ok (xs : List MSExpr) : ∀ (k : Int) (l j r : Nat) (p : List (Nat × Nat)) (S : Store) (rs : List (List (List D))), getO S (l, j) = some (.xf rs) → atR rs r p = some (mkRs (xs.map MSExpr.enc) k) → 0 ≤ k ∧ k + mcRs (xs.map MSExpr.enc) ≤ 4611686018427387904 → ACall Tryz.prog 52 [.c (.xp (l, j) r p), .c (.d (.i .i64 k))] S (fun res S' => res = .c (.d (.i .i64 (k + mcRs (xs.map MSExpr.enc)))) ∧ S' = S) := (heldSExpr_all _) xs (Nat.lt_succ_self _)
theorem heldSExpr_ok (x : MSExpr) (k : Int) (l j b : Nat) (S : Store) (rs : List (List (List D))) (hS : getO S (l, j) = some (.xf rs)) (h1 : atR rs (b + 1) [] = some (mkRs (x.fList.map MSExpr.enc) (k))) (hk : 0 ≤ k ∧ k + ((mcRs (x.fList.map MSExpr.enc) : Nat) : Int) ≤ 4611686018427387904) : ACall Tryz.prog 15 [.agg [.d (.s x.fAtom), .xp (l, j) (b + 1) []], .c (.d (.i .i64 k))] S (fun res S' => res = .c (.d (.i .i64 (k + ((mcRs (x.fList.map MSExpr.enc) : Nat) : Int)))) ∧ S' = S) := by
  refine acall_cw (rs := [.tmp 4]) Tryz.checked.mixed Tryz.func15 Tryz.ntmps15 rfl rfl rfl rfl rfl ?_
  simp -implicitDefEqProofs (disch := omega) only [go_sem]
  refine call_d rfl (heldSExprS_ok x.fList (k) (1 + l) j (b + 1) [] _ _ (by rw [getO_up1]; first | exact hS | exact ht _) (by first | assumption | (simp (disch := omega) only [ne_eq, atR_ne]; assumption)) (by omega)) ?_
  simp -implicitDefEqProofs (disch := omega) only [go_sem, dec_neg]
  try exact ⟨rfl, rfl⟩
end Go.Proofs.YtokcpelkieeddaaGreat

namespace Go.Proofs.YtokcpelkieeddaaGreat
open Go Go.Ab
end Go.Proofs.YtokcpelkieeddaaGreat

namespace Go.Proofs.YtokcpelkieeddaaGreat
open Go Go.Ab
end Go.Proofs.YtokcpelkieeddaaGreat

namespace Go.Proofs.YtokcpelkieeddaaGreat
open Go Go.Ab
set_option maxHeartbeats 4000000 in
theorem markConstructorS_ok (xs : List MConstructor) : ∀ (k : Int) (l j r : Nat) (p : List (Nat × Nat)) (S : Store) (rs : List (List (List D))), getO S (l, j) = some (.xf rs) → atR rs r p = some (xs.map MConstructor.enc) → 0 ≤ k ∧ k + mcRs (xs.map MConstructor.enc) ≤ 4611686018427387904 → ACall Tryz.prog 50 [.c (.xp (l, j) r p), .c (.d (.i .i64 k))] S (fun res S' => res = .c (.d (.i .i64 (k + mcRs (xs.map MConstructor.enc)))) ∧ S' = setO S (l, j) (.xf (updR rs r p (mkRs (xs.map MConstructor.enc) k)))) := by
  intro k l j r p S rs hS hp hk
  have hlen := len_mc (f := MConstructor.enc) (fun x => by simp only [MConstructor.enc_eq, encS, encI, List.cons_append, List.nil_append, mcR, mcD]; omega) xs
  obtain ⟨rows, hr⟩ : ∃ rows, rows = xs.map MConstructor.enc := ⟨_, rfl⟩
  have hl : rows.length = xs.length := by rw [hr, List.length_map]
  rw [← hr] at hp hk hlen ⊢
  have ht : ∀ x : Ab.Obj, getO (setO S (l, j) x) (l, j) = some x := fun x => getO_setO_eq _ _ _ _ hS
  have hA : ∀ new, atR (updR rs r p new) r p = some new := fun new => atR_updR hp
  have hU : ∀ a b, updR (updR rs r p a) r p b = updR rs r p b := fun a b => updR_updR hp
  refine acall_cw (rs := [.tmp 4]) Tryz.checked.mixed Tryz.func50 Tryz.ntmps50 rfl rfl rfl rfl rfl ?_
  simp -implicitDefEqProofs (disch := omega) only [go_sem]
  refine loop_at (ι := Nat) Tryz.checked.mixed rfl [0, 1, 5] (fun i => [.c (.xp (1 + l, j) r p), .c (.d (.i .i64 (k + mcRs (rows.take i)))), .c (.d (.i .i64 i))])
    (fun i => [] :: setO S (l, j) (.xf (updR rs r p (mkTo rows k i)))) (fun i => i ≤ xs.length) (fun i => xs.length - i) 0 ?_ ?_ (Nat.zero_le _) ?_
  · have z0 : k + ((mcRs (rows.take 0) : Nat) : Int) = k := by simp [mcRs]
    rw [z0]
    rfl
  · rw [mkTo_zero, updR_same hp, setO_self _ _ hS]
  intro i hi
  simp -implicitDefEqProofs (disch := omega) only [go_sem, ht, hA, mkTo_length, hl]
  with_reducible refine split2 (fun hb => ?_) (fun hb => ?_) <;> have h := hb <;> try simp only [wf_preprocess] at h
  · have hi : i < xs.length := by omega
    have hir : i < rows.length := by omega
    obtain ⟨x, hx⟩ : ∃ x, x = xs[i] := ⟨_, rfl⟩
    have e1 : rows[i] = [.s x.fName, .sl (x.fFields.map MType.enc)] := by
      simp only [hr, List.getElem_map, ← hx]
      simp only [MConstructor.enc_eq, encS, encI, List.cons_append, List.nil_append]
    have hm := mcRs_take hir
    have hle := mcRs_le (rows := rows) (i := i + 1)
    rw [hm, e1] at hle
    rw [e1] at hm
    simp only [mcR, mcD] at hle hm
    have hK : k + ((mcRs (rows.take (i + 1)) : Nat) : Int) = k + ((mcRs (rows.take i) : Nat) : Int) + 1 + ((mcRs (x.fFields.map MType.enc) : Nat) : Int) := by rw [hm]; omega
    have e2 := mkTo_at (k := k) hir
    rw [e1] at e2
    have hC : ∀ row o, cellAt (mkAt rows k i row) i o = row[o]? := fun row o => mkAt_cell hir
    have hG : ∀ row, (mkAt rows k i row).getD i [] = row := fun row => mkAt_get hir
    simp -implicitDefEqProofs (disch := omega) only [go_sem, hb, ht, hA, hU, e2, hC, hG, mkAt_set, mkAt_length, hl, setO_twice, isSD]
    (repeat (with_reducible refine And.intro ?_ ?_; focus first | omega | rfl | assumption | exact ⟨_, rfl, rfl⟩ | (simp; omega) | (simp; done)))
    refine call_w (markText_ok (k + ((mcRs (rows.take i) : Nat) : Int)) (by omega)) ?_
    simp -implicitDefEqProofs (disch := omega) only [go_sem, hb, ht, hA, hU, e2, hC, hG, mkAt_set, mkAt_length, hl, setO_twice, isSD]
    (repeat (with_reducible refine And.intro ?_ ?_; focus first | omega | rfl | assumption | exact ⟨_, rfl, rfl⟩ | (simp; omega) | (simp; done)))
    refine call_d rfl (sub_mk hS hp hir (by rfl) (fun S' rs' g1 g2 => markTypeS_ok x.fFields (k + ((mcRs (rows.take i) : Nat) : Int) + 1) (1 + l) j r _ S' rs' g1 g2 (by omega))) ?_
    simp -implicitDefEqProofs (disch := omega) only [go_sem, hb, ht, hA, hU, e2, hC, hG, mkAt_set, mkAt_length, hl, setO_twice, isSD]
    (repeat (with_reducible refine And.intro ?_ ?_; focus first | omega | rfl | assumption | exact ⟨_, rfl, rfl⟩ | (simp; omega) | (simp; done)))
    refine inv_at (i + 1) (by omega) (by rw [hK]; rfl) ?_ (by omega)
    have h3 := mkAt_to (k := k) hir
    rw [e1] at h3
    simp only [mkR, mkD] at h3
    rw [← h3]
    all_goals rfl
  · simp -implicitDefEqProofs (disch := omega) only [go_sem, hb]
    have hi : i = xs.length := by omega
    rw [mkTo_all (by omega), List.take_of_length_le (by omega)]
    all_goals (first | rfl | exact ⟨rfl, rfl⟩)
end Go.Proofs.YtokcpelkieeddaaGreat

namespace Go.Proofs.YtokcpelkieeddaaGreat
open Go Go.Ab
theorem markDataType_ok (x : MDataType) (k : Int) (l j b : Nat) (S : Store) (rs : List (List (List D))) (hS : getO S (l, j) = some (.xf rs)) (h1 : atR rs (b + 1) [] = some (x.fVars.map encS)) (h2 : atR rs (b + 2) [] = some (x.fConstructors.map MConstructor.enc)) (hk : 0 ≤ k ∧ k + ((mcRs (x.fVars.map encS) : Nat) : Int) + ((mcRs (x.fConstructors.map MConstructor.enc) : Nat) : Int) ≤ 4611686018427387904) : ACall Tryz.prog 13 [.agg [.d (.s x.fName), .xp (l, j) (b + 1) [], .xp (l, j) (b + 2) []], .c (.d (.i .i64 k))] S (fun res S' => res = .c (.d (.i .i64 (k + ((mcRs (x.fVars.map encS) : Nat) : Int) + ((mcRs (x.fConstructors.map MConstructor.enc) : Nat) : Int)))) ∧ S' = setO S (l, j) (.xf (updR (updR (rs) (b + 1) [] (mkRs (x.fVars.map encS) (k))) (b + 2) [] (mkRs (x.fConstructors.map MConstructor.enc) (k + ((mcRs (x.fVars.map encS) : Nat) : Int)))))) := by
  have ht : ∀ x : Ab.Obj, getO (setO S (l, j) x) (l, j) = some x := fun x => getO_setO_eq _ _ _ _ hS
  refine acall_cw (rs := [.tmp 4]) Tryz.checked.mixed Tryz.func13 Tryz.ntmps13 rfl rfl rfl rfl rfl ?_
  simp -implicitDefEqProofs (disch := omega) only [go_sem]
  refine call_d rfl (markStringS_ok x.fVars (k) (1 + l) j (b + 1) [] _ _ (by rw [getO_up1]; first | exact hS | exact ht _) (by first | assumption | (simp (disch := omega) only [ne_eq, atR_ne]; assumption)) (by omega)) ?_
  simp -implicitDefEqProofs (disch := omega) only [go_sem, setO_twice, setO_up1]
  refine call_d rfl (markConstructorS_ok x.fConstructors (k + ((mcRs (x.fVars.map encS) : Nat) : Int)) (1 + l) j (b + 2) [] _ _ (by rw [getO_up1]; first | exact hS | exact ht _) (by first | assumption | (simp (disch := omega) only [ne_eq, atR_ne]; assumption)) (by omega)) ?_
  simp -implicitDefEqProofs (disch := omega) only [go_sem, setO_twice, setO_up1]
  try exact ⟨rfl, rfl⟩
end Go.Proofs.YtokcpelkieeddaaGreat

namespace Go.Proofs.YtokcpelkieeddaaGreat.fnExactDataTypeToSExpr
open Go Go.Ab
theorem law (x0 : MDataType) (f0 : FitL x0.enc) : ACall Tryz.prog 3 [x0.v] [] (fun r _ => r = .c (.d (.b true))) := by
  have hmx := mcr_sz x0.enc x0.plw.2
  rw [MDataType.enc_length, MDataType.sz_def] at hmx
  simp only [MDataType.enc_eq, List.cons_append, List.nil_append, mcR, mcD] at hmx
  refine acall_cw (rs := [.tmp 2]) Tryz.checked.mixed Tryz.func3 Tryz.ntmps3 rfl rfl rfl rfl rfl ?_
  simp -implicitDefEqProofs (disch := omega) only [go_sem]
  refine call_w (szDataType_ok x0 _ (by omega) (by omega) f0) ?_
  simp -implicitDefEqProofs (disch := omega) only [go_sem] <;> (repeat (with_reducible refine And.intro ?_ ?_; focus first | omega | rfl | assumption | exact ⟨_, rfl, rfl⟩ | (simp; omega) | (simp; done)))
  with_reducible refine split2 (fun hb => ?_) (fun hb => ?_) <;> have h := hb <;> (try simp only [wf_preprocess] at h) <;> simp -implicitDefEqProofs (disch := omega) only [go_sem, hb] <;> (repeat (with_reducible refine And.intro ?_ ?_; focus first | omega | rfl | assumption | exact ⟨_, rfl, rfl⟩ | (simp; omega) | (simp; done)))
  have h0 := sub1_nn h
  have c1 := specData_ok x0 (by omega)
  have c2 := fun n => implData_lab x0 n (by omega)
  have hd : (outD x0).sz ≤ 1048576 := outD_sz (by omega)
  obtain ⟨X, hX⟩ : ∃ X, X = outD x0 := ⟨_, rfl⟩
  rw [← hX] at hd c1
  simp only [← hX] at c2
  have hmd := mcr_sz X.enc X.plw.2
  rw [MSExpr.enc_length, MSExpr.sz_def] at hmd
  simp only [MSExpr.enc_eq, List.cons_append, List.nil_append, mcR, mcD] at hmd
  have c2' : ∀ n, PCall Tryz.prog 10 [x0.v] (.agg ((labR X.enc n).map .d)) := fun n => by
    have := c2 n
    first | exact this | (rw [labX_eq]; exact this)
  have c3 : PCall Tryz.prog 10 [x0.v] X.v := by
    have := PCall.less (c2' 0) less_lab
    rw [MSExpr.v_eq] at this
    exact this
  refine call_w (toDataType_ok x0 (by omega)) ?_
  simp -implicitDefEqProofs (disch := omega) only [go_sem] <;> (repeat (with_reducible refine And.intro ?_ ?_; focus first | omega | rfl | assumption | exact ⟨_, rfl, rfl⟩ | (simp; omega) | (simp; done)))
  refine call_w c1 ?_
  simp -implicitDefEqProofs (disch := omega) only [go_sem]
  refine call_d rfl (ACall.own (mk := V.agg) (r := x0.enc) holder_agg x0.plw.1 (fun n => toDataType_lab x0 n (by omega))) ?_
  simp -implicitDefEqProofs (disch := omega) only [go_sem, MDataType.enc_eq, List.cons_append, List.nil_append, rowX, cellX, rootD]
  refine call_d rfl (ACall.ownL (k := (0, 2)) rfl (mk := V.agg) (r := X.enc) holder_agg X.plw.1 (fun n => c2' n)) ?_
  simp -implicitDefEqProofs (disch := omega) only [go_sem, MSExpr.enc_eq, List.cons_append, List.nil_append, rowX, cellX, rootD]
  refine call_d rfl (ACall.lend (k := (0, 4)) rfl (stay_plain rfl) (eqSExpr_ok X X (by omega))) ?_
  simp -implicitDefEqProofs (disch := omega) only [go_sem, dec_true rfl, Bool.not_true]
  refine call_w (toDataType_ok x0 (by omega)) ?_
  simp -implicitDefEqProofs (disch := omega) only [go_sem] <;> (repeat (with_reducible refine And.intro ?_ ?_; focus first | omega | rfl | assumption | exact ⟨_, rfl, rfl⟩ | (simp; omega) | (simp; done)))
  refine call_a rfl (DS.refl _) (ACall.lend (k := (0, 2)) rfl (stay_plain rfl) (eqDataType_ok x0 x0 (by omega))) ?_
  simp -implicitDefEqProofs (disch := omega) only [go_sem, dec_true rfl, Bool.not_true]
  refine call_d rfl (markDataType_ok x0 1 0 2 0 _ _ rfl rfl rfl ⟨by omega, by omega⟩) ?_
  simp -implicitDefEqProofs (disch := omega) only [go_sem, dec_neg]
  refine call_d rfl (ACall.lend (k := (0, 4)) rfl (stay_plain rfl) (eqSExpr_ok X X (by omega))) ?_
  simp -implicitDefEqProofs (disch := omega) only [go_sem, dec_true rfl, Bool.not_true]
  refine call_d rfl (markSExpr_ok X 1 0 4 0 _ _ rfl rfl ⟨by omega, by omega⟩) ?_
  simp -implicitDefEqProofs (disch := omega) only [go_sem]
  refine call_d rfl (heldSExpr_ok X 1 0 4 0 _ _ rfl rfl ⟨by omega, by omega⟩) ?_
  simp -implicitDefEqProofs (disch := omega) only [go_sem, dec_neg, Bool.not_true]
  refine call_w (toDataType_ok x0 (by omega)) ?_
  simp -implicitDefEqProofs (disch := omega) only [go_sem] <;> (repeat (with_reducible refine And.intro ?_ ?_; focus first | omega | rfl | assumption | exact ⟨_, rfl, rfl⟩ | (simp; omega) | (simp; done)))
  refine call_w c3 ?_
  simp -implicitDefEqProofs (disch := omega) only [go_sem]
  refine call_w (eqSExpr_ok X X (by omega)) ?_
  simp -implicitDefEqProofs (disch := omega) only [go_sem, dec_true rfl, Bool.not_true]
  refine call_d rfl (heldSExpr_ok X 1 0 4 0 _ _ rfl rfl ⟨by omega, by omega⟩) ?_
  simp -implicitDefEqProofs (disch := omega) only [go_sem, dec_neg, Bool.not_true]
end Go.Proofs.YtokcpelkieeddaaGreat.fnExactDataTypeToSExpr

namespace Go.Ab
theorem wt_pos {P : Program} {n : Nat} {t : TypeId} {ds : List D} (h : WT P n t ds) : ∃ m, n = m + 1 := by
  cases n with
  | zero => exact h.elim
  | succ m => exact ⟨m, rfl⟩
theorem wt_int {P : Program} {n : Nat} {t : TypeId} {k : IntKind} {ds : List D} (ht : P.underlying t = some (.int k)) (h : WT P n t ds) : ∃ x, ds = [.i k x] ∧ (Lit.int k x).wf = true := by
  obtain ⟨m, rfl⟩ := wt_pos h
  simp only [WT, ht] at h; exact h
theorem wt_string {P : Program} {n : Nat} {t : TypeId} {ds : List D} (ht : P.underlying t = some .string) (h : WT P n t ds) : ∃ l, ds = [.s l] := by
  obtain ⟨m, rfl⟩ := wt_pos h
  simp only [WT, ht] at h; exact ⟨h.choose, h.choose_spec.1⟩
theorem wt_slice {P : Program} {n : Nat} {t e : TypeId} {ds : List D} (ht : P.underlying t = some (.slice e)) (h : WT P n t ds) : ∃ es m, m < n ∧ ds = [.sl es] ∧ ∀ x ∈ es, WT P m e x := by
  obtain ⟨m, rfl⟩ := wt_pos h
  simp only [WT, ht] at h
  obtain ⟨es, h1, _, h2⟩ := h
  exact ⟨es, m, by omega, h1, fun x hx => (h2 x hx).2⟩
theorem wt_struct {P : Program} {n : Nat} {t : TypeId} {fs : Array Field} {ds : List D} (ht : P.underlying t = some (.struct fs)) (h : WT P n t ds) : ∃ m, m < n ∧ WTF P (WT P m) fs.toList ds := by
  obtain ⟨m, rfl⟩ := wt_pos h
  simp only [WT, ht] at h
  exact ⟨m, by omega, h⟩
theorem list_enc {α : Type} {enc : α → List D} : ∀ {es : List (List D)}, (∀ x ∈ es, ∃ m, x = enc m) → ∃ ms : List α, es = ms.map enc
  | [], _ => ⟨[], rfl⟩
  | e :: es, h => by
    obtain ⟨m, hm⟩ := h e (by simp)
    obtain ⟨ms, hms⟩ := list_enc (es := es) fun x hx => h x (by simp [hx])
    exact ⟨m :: ms, by rw [List.map_cons, ← hm, ← hms]⟩
theorem wtf_fit {P : Program} {W : TypeId → List D → Prop} (hW : ∀ t ds, W t ds → FitL ds) : ∀ (fs : List Field) (ds : List D), WTF P W fs ds → FitL ds
  | [], ds, h => by
    have h : ds = [] := h
    rw [h]; exact fitL_nil
  | f :: fs, ds, h => by
    obtain ⟨a, b, rfl, _, h1, h2⟩ := h
    exact fitL_append.2 ⟨hW _ _ h1, wtf_fit hW fs b h2⟩
theorem wt_fit {P : Program} : ∀ (n : Nat) (t : TypeId) (ds : List D), WT P n t ds → FitL ds
  | 0, t, ds, h => h.elim
  | n + 1, t, ds, h => by
    simp only [WT] at h
    split at h
    · obtain ⟨b, rfl⟩ := h; exact fitL_cons.2 ⟨.b _, fitL_nil⟩
    · obtain ⟨b, rfl, _⟩ := h; exact fitL_cons.2 ⟨.i _ _, fitL_nil⟩
    · obtain ⟨l, rfl, hl⟩ := h; exact fitL_cons.2 ⟨.s _ hl, fitL_nil⟩
    · obtain ⟨es, rfl, hl, hh⟩ := h
      exact fitL_cons.2 ⟨.sl _ hl fun e he d hd => wt_fit n _ e (hh e he).2 d hd, fitL_nil⟩
    · exact wtf_fit (wt_fit n) _ _ h
    · exact h.elim
end Go.Ab
namespace Go.Proofs.YtokcpelkieeddaaGreat
open Go Go.Ab
theorem wt_Type : ∀ (n : Nat) (ds : List D), WT Tryz.prog n 212 ds → ∃ x : MType, ds = x.enc := by
  intro n
  induction n using Nat.strongRecOn with
  | _ n ih =>
    intro ds h
    obtain ⟨m, hm, h⟩ := wt_struct Tryz.underlying212 h
    simp only [WTF] at h
    obtain ⟨a0, r0, rfl, l0, h0, a1, r1, rfl, l1, h1, a2, r2, rfl, l2, h2, rfl⟩ := h
    obtain ⟨x0, rfl, _⟩ := wt_int Tryz.underlying3 h0
    obtain ⟨x1, rfl⟩ := wt_string Tryz.underlying9 h1
    obtain ⟨es2, m2, hm2, rfl, hs2⟩ := wt_slice Tryz.underlying118 h2
    obtain ⟨x2, rfl⟩ := list_enc (enc := MType.enc) fun y hy => ih m2 (by omega) y (hs2 y hy)
    refine ⟨MType.mk x0 x1 x2, ?_⟩
    rw [MType.enc_eq]
    simp [MType.fKind, MType.fName, MType.fArgs]
theorem wt_Constructor : ∀ (n : Nat) (ds : List D), WT Tryz.prog n 120 ds → ∃ x : MConstructor, ds = x.enc := by
  intro n
  induction n using Nat.strongRecOn with
  | _ n ih =>
    intro ds h
    obtain ⟨m, hm, h⟩ := wt_struct Tryz.underlying120 h
    simp only [WTF] at h
    obtain ⟨a0, r0, rfl, l0, h0, a1, r1, rfl, l1, h1, rfl⟩ := h
    obtain ⟨x0, rfl⟩ := wt_string Tryz.underlying9 h0
    obtain ⟨es1, m1, hm1, rfl, hs1⟩ := wt_slice Tryz.underlying118 h1
    obtain ⟨x1, rfl⟩ := list_enc (enc := MType.enc) fun y hy => wt_Type m1 y (hs1 y hy)
    refine ⟨MConstructor.mk x0 x1, ?_⟩
    rw [MConstructor.enc_eq]
    simp
theorem wt_DataType : ∀ (n : Nat) (ds : List D), WT Tryz.prog n 25 ds → ∃ x : MDataType, ds = x.enc := by
  intro n
  induction n using Nat.strongRecOn with
  | _ n ih =>
    intro ds h
    obtain ⟨m, hm, h⟩ := wt_struct Tryz.underlying25 h
    simp only [WTF] at h
    obtain ⟨a0, r0, rfl, l0, h0, a1, r1, rfl, l1, h1, a2, r2, rfl, l2, h2, rfl⟩ := h
    obtain ⟨x0, rfl⟩ := wt_string Tryz.underlying9 h0
    obtain ⟨es1, m1, hm1, rfl, hs1⟩ := wt_slice Tryz.underlying22 h1
    obtain ⟨x1, rfl⟩ := list_enc (enc := encS) fun y hy => wt_string Tryz.underlying9 (hs1 y hy)
    obtain ⟨es2, m2, hm2, rfl, hs2⟩ := wt_slice Tryz.underlying23 h2
    obtain ⟨x2, rfl⟩ := list_enc (enc := MConstructor.enc) fun y hy => wt_Constructor m2 y (hs2 y hy)
    refine ⟨MDataType.mk x0 x1 x2, ?_⟩
    rw [MDataType.enc_eq]
    simp
end Go.Proofs.YtokcpelkieeddaaGreat

