/-
  SEVERAL TEXTS IN ONE (merged by program): contracts and models, each with its own heading.
-/
import Derived.Test.YtceaigchkgifgaaPartQjC
set_option linter.unusedSimpArgs false
set_option linter.unusedVariables false
set_option maxRecDepth 4000
namespace Go.Proofs.Ytceaigchkgifgaa
open Go Go.Ab
theorem implMatch_all : ∀ n : Nat, (∀ p : MType, SizeOf.sizeOf p < n → ∀ (t : MType) (s : List MBinding) (l j : Nat) (S : Store), getO S (l, j) = some (.tok 4 (s.map MBinding.enc)) → p.sz ≤ 4194304 → t.sz ≤ 4194304 → Small s → s.length + p.cnt ≤ 1073741824 →
      ACall Try.prog 126 [.c (.tsl (l, j) (s.map MBinding.enc)), p.v, t.v] S (fun r S' => r = matR (l, j) (matchT s p t) ∧ S' = matS (l, j) S (matchT s p t))) ∧
    (∀ ps : List MType, SizeOf.sizeOf ps < n → ∀ (ts : List MType) (s : List MBinding) (l j : Nat) (S : Store), getO S (l, j) = some (.tok 4 (s.map MBinding.enc)) → ps.length + szRows (ps.map MType.enc) ≤ 4194304 → ts.length + szRows (ts.map MType.enc) ≤ 4194304 → Small s → s.length + MType.cnts ps ≤ 1073741824 →
      ACall Try.prog 101 [.c (.tsl (l, j) (s.map MBinding.enc)), .c (.d (.sl (ps.map MType.enc))), .c (.d (.sl (ts.map MType.enc)))] S (fun r S' => r = matR (l, j) (matchAll s ps ts) ∧ S' = matS (l, j) S (matchAll s ps ts)))
  | 0 => ⟨fun x h => by omega, fun x h => by omega⟩
  | n + 1 => by
    obtain ⟨ih, ihS⟩ := implMatch_all n
    refine ⟨fun p hn t s l j S hk hp ht hs hc => matP_det ?_, fun ps hn ts s l j S hk hp ht hs hc => matP_det ?_⟩
    · have lArgs := MType.lt_Args p
      have hcnt := MType.cnt_eq p
      have hp' := hp
      have ht' := ht
      simp only [MType.sz, MType.enc_eq, szRow, szRow_append, D.sz, List.length_map] at hp' ht'
      refine acall_cw (rs := [.tmp 6, .tmp 7]) Try.checked.mixed Try.func126 Try.ntmps126 rfl rfl rfl rfl rfl ?_
      simp -implicitDefEqProofs (disch := omega) only [go_sem, hk]
      with_reducible refine split2 (fun hb => ?_) (fun hb => ?_) <;> have h := hb <;> (try simp only [wf_preprocess] at h) <;> simp -implicitDefEqProofs (disch := omega) only [go_sem, hb, hk] <;> (repeat (with_reducible refine And.intro ?_ ?_; focus first | omega | rfl | assumption | exact ⟨_, rfl, rfl⟩ | (simp; omega) | (simp; done)))
      · refine call_w (implLookup_ok s p.fName hs (by omega)) ?_
        cases hl : lookupB s p.fName with
        | none =>
          have hm : matchT s p t = some (s ++ [⟨p.fName, t⟩]) := by rw [matchT_eq, if_pos h, hl]
          rw [hm]
          simp -implicitDefEqProofs (disch := omega) only [go_sem, lookR_none]
          refine call_w (copyType_ok t ht) ?_
          simp -implicitDefEqProofs (disch := omega) only [go_sem] <;> (repeat (with_reducible refine And.intro ?_ ?_; focus first | omega | rfl | assumption | exact ⟨_, rfl, rfl⟩ | (simp; omega) | (simp; done)))
          simp -implicitDefEqProofs (disch := omega) only [go_sem, hk]
          (repeat (with_reducible refine And.intro ?_ ?_; focus first | omega | rfl | assumption | exact ⟨_, rfl, rfl⟩ | (simp; omega) | (simp; done)))
          simp [matP, MBinding.enc_eq, MType.enc_eq]
        | some u =>
          have hm : matchT s p t = if dec (u = t) = true then some s else none := by rw [matchT_eq, if_pos h, hl]
          have hu : u.sz ≤ 4194304 := by
            obtain ⟨b, hb, e⟩ := lookup_mem hl
            rw [← e]; exact hs b hb
          rw [hm]
          simp -implicitDefEqProofs (disch := omega) only [go_sem, lookR_some]
          refine call_w (implEqualType_ok u t hu) ?_
          cases hd : dec (u = t) with
          | true =>
            simp -implicitDefEqProofs (disch := omega) only [go_sem]
            simp only [matP, if_true]
            exact ⟨trivial, (setO_self _ _ hk).symm⟩
          | false =>
            simp -implicitDefEqProofs (disch := omega) only [go_sem]
            simp only [matP, Bool.false_eq_true, if_false]
            exact ⟨⟨_, rfl⟩, trivial⟩
      · have hm : ¬ (p.fKind = t.fKind ∧ p.fName = t.fName ∧ p.fArgs.length = t.fArgs.length) → matchT s p t = none := fun x => by rw [matchT_eq, if_neg h, if_neg x]
        have hm2 : (p.fKind = t.fKind ∧ p.fName = t.fName ∧ p.fArgs.length = t.fArgs.length) → matchT s p t = matchL s p.fArgs t.fArgs := fun x => by rw [matchT_eq, if_neg h, if_pos x]
        have h0 := h
        with_reducible refine split2 (fun hb => ?_) (fun hb => ?_) <;> have h := hb <;> (try simp only [wf_preprocess] at h) <;> simp -implicitDefEqProofs (disch := omega) only [go_sem, hb, hk] <;> (repeat (with_reducible refine And.intro ?_ ?_; focus first | omega | rfl | assumption | exact ⟨_, rfl, rfl⟩ | (simp; omega) | (simp; done)))
        · rw [hm (by omega)]
          exact ⟨⟨_, rfl⟩, rfl⟩
        have h1 := h
        with_reducible refine split2 (fun hb => ?_) (fun hb => ?_) <;> have h := hb <;> (try simp only [wf_preprocess] at h) <;> simp -implicitDefEqProofs (disch := omega) only [go_sem, hb, hk] <;> (repeat (with_reducible refine And.intro ?_ ?_; focus first | omega | rfl | assumption | exact ⟨_, rfl, rfl⟩ | (simp; omega) | (simp; done)))
        · rw [hm (fun x => h x.2.1)]
          exact ⟨⟨_, rfl⟩, rfl⟩
        have h2 := h
        have hm3 : matchT s p t = matchAll s p.fArgs t.fArgs := by
          unfold matchAll
          by_cases e : p.fArgs.length = t.fArgs.length
          · rw [if_pos e]; exact hm2 ⟨by omega, h2, e⟩
          · rw [if_neg e]; exact hm (fun x => e x.2.2)
        rw [hm3]
        refine call_d rfl (ihS p.fArgs (by omega) t.fArgs s (1 + l) j _ (by rw [getO_up1]; exact hk) (by omega) (by omega) hs (by omega)) ?_
        cases hL : matchAll s p.fArgs t.fArgs with
        | none =>
          simp -implicitDefEqProofs (disch := omega) only [go_sem, matR_none, matS_none]
          exact ⟨⟨_, rfl⟩, setO_twice _ _⟩
        | some s1 =>
          simp -implicitDefEqProofs (disch := omega) only [go_sem, matR_some, matS_some]
          exact ⟨rfl, rfl⟩
    · refine acall_cw (rs := [.tmp 6, .tmp 7]) Try.checked.mixed Try.func101 Try.ntmps101 rfl rfl rfl rfl rfl ?_
      simp -implicitDefEqProofs (disch := omega) only [go_sem, hk]
      with_reducible refine split2 (fun hb => ?_) (fun hb => ?_) <;> have h := hb <;> (try simp only [wf_preprocess] at h) <;> simp -implicitDefEqProofs (disch := omega) only [go_sem, hb, hk] <;> (repeat (with_reducible refine And.intro ?_ ?_; focus first | omega | rfl | assumption | exact ⟨_, rfl, rfl⟩ | (simp; omega) | (simp; done)))
      · have hm : matchAll s ps ts = none := if_neg (by omega)
        rw [hm]
        exact ⟨⟨_, rfl⟩, rfl⟩
      have hl : ps.length = ts.length := by omega
      have hm0 : matchAll s ps ts = matchL s ps ts := if_pos hl
      rw [hm0]
      refine loop_at (ι := Nat × List MBinding) Try.checked.mixed rfl [0, 1, 2, 17, 18] (fun y => [.c (.tsl (1 + l, j) (y.2.map MBinding.enc)), .c (.d (.sl (ps.map MType.enc))), .c (.d (.sl (ts.map MType.enc))), .c (.d (.i .i64 ps.length)), .c (.d (.i .i64 y.1))]) (fun y => [] :: setO S (l, j) (.tok 4 (y.2.map MBinding.enc)))
        (fun y => y.1 ≤ ps.length ∧ Small y.2 ∧ y.2.length + MType.cnts (ps.drop y.1) ≤ 1073741824 ∧ matchL y.2 (ps.drop y.1) (ts.drop y.1) = matchL s ps ts) (fun y => ps.length - y.1) (0, s) rfl (by rw [setO_self _ _ hk]) ⟨Nat.zero_le _, hs, hc, rfl⟩ ?_
      rintro ⟨i, cur⟩ ⟨p1, p2, p3, p4⟩
      simp only at p1 p2 p3 p4
      simp -implicitDefEqProofs (disch := omega) only [go_sem]
      with_reducible refine split2 (fun hb => ?_) (fun hb => ?_) <;> have h := hb <;> (try simp only [wf_preprocess] at h) <;> simp -implicitDefEqProofs (disch := omega) only [go_sem, hb] <;> (repeat (with_reducible refine And.intro ?_ ?_; focus first | omega | rfl | assumption | exact ⟨_, rfl, rfl⟩ | (simp; omega) | (simp; done)))
      · have hi : i < ps.length := by omega
        have hi' : i < ts.length := by omega
        have hx : ps[i].sz ≤ szRows (ps.map MType.enc) := szRows_mem (List.mem_map_of_mem (List.getElem_mem hi))
        have hy : ts[i].sz ≤ szRows (ts.map MType.enc) := szRows_mem (List.mem_map_of_mem (List.getElem_mem hi'))
        rw [List.drop_eq_getElem_cons hi, MType.cnts] at p3
        have p5 := matchL_drop hi hi' _ p4
        (repeat (with_reducible refine And.intro ?_ ?_; focus first | omega | rfl | assumption | exact ⟨_, rfl, rfl⟩ | (simp; omega) | (simp; done)))
        refine call_d rfl (ih ps[i] (by have := List.sizeOf_lt_of_mem (List.getElem_mem hi); omega) ts[i] cur (1 + l) j _ (by rw [getO_up1]; exact getO_setO_eq _ _ _ _ hk) (by omega) (by omega) p2 (by omega)) ?_
        cases hm : matchT cur ps[i] ts[i] with
        | none =>
          rw [hm] at p5
          simp -implicitDefEqProofs (disch := omega) only [go_sem, matR_none, matS_none, setO_twice]
          rw [← p5]
          exact ⟨⟨_, rfl⟩, setO_twice _ _⟩
        | some nx =>
          rw [hm] at p5
          have hlen := matchT_len _ _ _ _ hm
          simp -implicitDefEqProofs (disch := omega) only [go_sem, matR_some, matS_some, setO_twice]
          exact inv_at (i + 1, nx) (by simp only; omega) rfl rfl ⟨by simp only; omega, matchT_small _ _ _ _ (by omega) p2 hm, by simp only; omega, p5⟩
      · have hi : i = ps.length := by omega
        have hi' : i = ts.length := by omega
        have hr : matchL s ps ts = some cur := by
          rw [← p4, List.drop_of_length_le (by omega), matchL]
        rw [hr]
        exact ⟨rfl, rfl⟩
theorem implMatchL_ok {ps ts : List MType} {s : List MBinding} {l j : Nat} {S : Store} (hk : getO S (l, j) = some (.tok 4 (s.map MBinding.enc))) (hp : ps.length + szRows (ps.map MType.enc) ≤ 4194304) (ht : ts.length + szRows (ts.map MType.enc) ≤ 4194304)
    (hs : Small s) (hc : s.length + MType.cnts ps ≤ 1073741824) : ACall Try.prog 101 [.c (.tsl (l, j) (s.map MBinding.enc)), .c (.d (.sl (ps.map MType.enc))), .c (.d (.sl (ts.map MType.enc)))] S (fun r S' => r = matR (l, j) (matchAll s ps ts) ∧ S' = matS (l, j) S (matchAll s ps ts)) :=
  (implMatch_all _).2 ps (Nat.lt_succ_self _) ts s l j S hk hp ht hs hc
theorem implMatchL0 {ps ts : List MType} {S : Store} (hp : ps.length + szRows (ps.map MType.enc) ≤ 4194304) (ht : ts.length + szRows (ts.map MType.enc) ≤ 4194304) :
    ACall Try.prog 101 [.c (.fsl []), .c (.d (.sl (ps.map MType.enc))), .c (.d (.sl (ts.map MType.enc)))] S (fun r S' => r = matO (matchAll [] ps ts) ∧ S' = S) := by
  have hc := cnts_le ps
  refine ACall.tok0 0 (es := []) (esz := 4) rfl (by simp) (implMatchL_ok (s := []) (l := 0) (j := 0) (S := [.tok 4 []] :: S) rfl hp ht small_nil (by simp; omega)) ?_
  rintro r fr S' ⟨h1, h2⟩
  cases hm : matchAll [] ps ts with
  | none =>
    rw [hm] at h1 h2
    subst h1
    injection h2 with h2 h3
    exact ⟨_, rfl, rfl, h3⟩
  | some s =>
    rw [hm] at h1 h2
    subst h1
    injection h2 with h2 h3
    exact ⟨_, rfl, rfl, h3⟩
theorem implMatch_ok (p t : MType) (hp : p.sz ≤ 4194303) (ht : t.sz ≤ 4194303) : PCall Try.prog 64 [p.v, t.v] (matO (matchAll [] [p] [t])) := fun S => by
  refine acall_cw (rs := [.tmp 4, .tmp 5]) Try.checked.mixed Try.func64 Try.ntmps64 rfl rfl rfl rfl rfl ?_
  simp -implicitDefEqProofs (disch := omega) only [go_sem]
  (repeat (with_reducible refine And.intro ?_ ?_; focus first | omega | rfl | assumption | exact ⟨_, rfl, rfl⟩ | (simp; omega) | (simp; done)))
  have h0 := fun S => implMatchL0 (ps := [p]) (ts := [t]) (S := S) (by simp [szRows, MType.sz_def, szRow]; omega) (by simp [szRows, MType.sz_def, szRow]; omega)
  simp only [List.map_cons, List.map_nil, MType.enc_eq] at h0
  refine call_m [true] rfl (h0 _) ?_
  cases matchAll [] [p] [t] with
  | none => simp -implicitDefEqProofs (disch := omega) only [go_sem, matO_none]
  | some s => simp -implicitDefEqProofs (disch := omega) only [go_sem, matO_some]
theorem implMatches_ok (p t : MType) (hp : p.sz ≤ 4194303) (ht : t.sz ≤ 4194303) : PCall Try.prog 31 [p.v, t.v] (.c (.d (.b (mats p t)))) := fun S => by
  rw [show mats p t = (matchAll [] [p] [t]).isSome from rfl]
  refine acall_cw (rs := [.tmp 4]) Try.checked.mixed Try.func31 Try.ntmps31 rfl rfl rfl rfl rfl ?_
  simp -implicitDefEqProofs (disch := omega) only [go_sem]
  refine call_w (implMatch_ok p t hp ht) ?_
  cases matchAll [] [p] [t] with
  | none => simp -implicitDefEqProofs (disch := omega) only [go_sem, matO_none]
  | some s => simp -implicitDefEqProofs (disch := omega) only [go_sem, matO_some]
end Go.Proofs.Ytceaigchkgifgaa

namespace Go.Proofs.Ytceaigchkgifgaa
open Go Go.Ab
theorem specAtLeast_ok (a b : MType) (ha : a.sz ≤ 4194303) (hb : b.sz ≤ 4194303) : PCall Try.prog 10 [a.v, b.v] (.c (.d (.b (mats b a)))) := fun S => by
  refine acall_cw (rs := [.tmp 4]) Try.checked.mixed Try.func10 Try.ntmps10 rfl rfl rfl rfl rfl ?_
  simp -implicitDefEqProofs (disch := omega) only [go_sem]
  refine call_w (specMatches_ok b a hb ha) ?_
  simp -implicitDefEqProofs (disch := omega) only [go_sem] <;> (repeat (with_reducible refine And.intro ?_ ?_; focus first | omega | rfl | assumption | exact ⟨_, rfl, rfl⟩ | (simp; omega) | (simp; done)))
theorem implAtLeast_ok (a b : MType) (ha : a.sz ≤ 4194303) (hb : b.sz ≤ 4194303) : PCall Try.prog 9 [a.v, b.v] (.c (.d (.b (mats b a)))) := fun S => by
  refine acall_cw (rs := [.tmp 4]) Try.checked.mixed Try.func9 Try.ntmps9 rfl rfl rfl rfl rfl ?_
  simp -implicitDefEqProofs (disch := omega) only [go_sem]
  refine call_w (implMatches_ok b a hb ha) ?_
  simp -implicitDefEqProofs (disch := omega) only [go_sem] <;> (repeat (with_reducible refine And.intro ?_ ?_; focus first | omega | rfl | assumption | exact ⟨_, rfl, rfl⟩ | (simp; omega) | (simp; done)))
theorem specMore_ok (a b : MType) (ha : a.sz ≤ 4194303) (hb : b.sz ≤ 4194303) : PCall Try.prog 12 [a.v, b.v] (.c (.d (.b (mats b a && !mats a b)))) := fun S => by
  refine acall_cw (rs := [.tmp 4]) Try.checked.mixed Try.func12 Try.ntmps12 rfl rfl rfl rfl rfl ?_
  simp -implicitDefEqProofs (disch := omega) only [go_sem]
  refine call_w (specAtLeast_ok a b ha hb) ?_
  simp -implicitDefEqProofs (disch := omega) only [go_sem] <;> (repeat (with_reducible refine And.intro ?_ ?_; focus first | omega | rfl | assumption | exact ⟨_, rfl, rfl⟩ | (simp; omega) | (simp; done)))
  cases h : mats b a with
  | false =>
    simp -implicitDefEqProofs (disch := omega) only [go_sem, h]
    rfl
  | true =>
    simp -implicitDefEqProofs (disch := omega) only [go_sem, h]
    refine call_w (specAtLeast_ok b a hb ha) ?_
    simp -implicitDefEqProofs (disch := omega) only [go_sem] <;> (repeat (with_reducible refine And.intro ?_ ?_; focus first | omega | rfl | assumption | exact ⟨_, rfl, rfl⟩ | (simp; omega) | (simp; done)))
theorem implMore_ok (a b : MType) (ha : a.sz ≤ 4194303) (hb : b.sz ≤ 4194303) : PCall Try.prog 11 [a.v, b.v] (.c (.d (.b (mats b a && !mats a b)))) := fun S => by
  refine acall_cw (rs := [.tmp 4]) Try.checked.mixed Try.func11 Try.ntmps11 rfl rfl rfl rfl rfl ?_
  simp -implicitDefEqProofs (disch := omega) only [go_sem]
  refine call_w (implMatches_ok b a hb ha) ?_
  simp -implicitDefEqProofs (disch := omega) only [go_sem] <;> (repeat (with_reducible refine And.intro ?_ ?_; focus first | omega | rfl | assumption | exact ⟨_, rfl, rfl⟩ | (simp; omega) | (simp; done)))
  cases h : mats b a with
  | false =>
    simp -implicitDefEqProofs (disch := omega) only [go_sem, h]
    rfl
  | true =>
    simp -implicitDefEqProofs (disch := omega) only [go_sem, h]
    refine call_w (implMatches_ok a b ha hb) ?_
    simp -implicitDefEqProofs (disch := omega) only [go_sem] <;> (repeat (with_reducible refine And.intro ?_ ?_; focus first | omega | rfl | assumption | exact ⟨_, rfl, rfl⟩ | (simp; omega) | (simp; done)))
end Go.Proofs.Ytceaigchkgifgaa

namespace Go.Ab
mutual
def subT (σ : List UInt8 → MType) : MType → MType
  | .mk k n a => if k = 1 then σ n else .mk k n (subL σ a)
def subL (σ : List UInt8 → MType) : List MType → List MType
  | [] => []
  | t :: ts => subT σ t :: subL σ ts
end
theorem subL_len (σ : List UInt8 → MType) : ∀ ts, (subL σ ts).length = ts.length
  | [] => rfl
  | t :: ts => by rw [subL, List.length_cons, subL_len σ ts, List.length_cons]
mutual
theorem subT_sub (σ τ : List UInt8 → MType) : ∀ t, subT τ (subT σ t) = subT (fun n => subT τ (σ n)) t
  | .mk k n a => by
    rw [subT, subT]
    by_cases h : k = 1
    · rw [if_pos h, if_pos h]
    · rw [if_neg h, if_neg h, subT, if_neg h, subL_sub σ τ a]
theorem subL_sub (σ τ : List UInt8 → MType) : ∀ ts, subL τ (subL σ ts) = subL (fun n => subT τ (σ n)) ts
  | [] => rfl
  | t :: ts => by rw [subL, subL, subL, subT_sub σ τ t, subL_sub σ τ ts]
end
def Agree (s : List MBinding) (σ : List UInt8 → MType) : Prop := ∀ v u, lookupB s v = some u → σ v = u
theorem lookup_append (b : MBinding) (v : List UInt8) : ∀ s : List MBinding, lookupB (s ++ [b]) v = match lookupB s v with | some u => some u | none => if b.fVar = v then some b.fType else none
  | [] => by
    show lookupB [b] v = if b.fVar = v then some b.fType else none
    rw [lookupB]
    rfl
  | c :: s => by
    rw [List.cons_append, lookupB, lookupB]
    by_cases h : c.fVar = v
    · rw [if_pos h, if_pos h]
    · rw [if_neg h, if_neg h, lookup_append b v s]
mutual
theorem match_sound : ∀ (p : MType) (s : List MBinding) (t : MType) (s' : List MBinding), matchT s p t = some s' → (∀ v u, lookupB s v = some u → lookupB s' v = some u) ∧ ∀ σ, Agree s' σ → subT σ p = t
  | .mk k n a, s, t, s', h => by
    rw [matchT] at h
    split at h
    · rename_i hk
      cases hl : lookupB s n with
      | some u =>
        rw [hl] at h
        simp only at h
        by_cases hd : dec (u = t) = true
        · rw [if_pos hd] at h
          cases h
          refine ⟨fun v u h => h, fun σ ha => ?_⟩
          rw [subT, if_pos hk, ha n u hl]
          exact of_dec hd
        · rw [if_neg hd] at h; cases h
      | none =>
        rw [hl] at h
        simp only at h
        cases h
        refine ⟨fun v u h => by rw [lookup_append, h], fun σ ha => ?_⟩
        rw [subT, if_pos hk]
        exact ha n t (by rw [lookup_append, hl]; simp)
    · rename_i hk
      split at h
      · rename_i hc
        obtain ⟨h1, h2⟩ := matchL_sound a s t.fArgs s' h hc.2.2
        refine ⟨h1, fun σ ha => ?_⟩
        rw [subT, if_neg hk, h2 σ ha, hc.1, hc.2.1]
        exact MType.eta t
      · cases h
theorem matchL_sound : ∀ (ps : List MType) (s : List MBinding) (ts : List MType) (s' : List MBinding), matchL s ps ts = some s' → ps.length = ts.length → (∀ v u, lookupB s v = some u → lookupB s' v = some u) ∧ ∀ σ, Agree s' σ → subL σ ps = ts
  | [], s, ts, s', h, hl => by
    rw [matchL] at h; cases h
    refine ⟨fun v u h => h, fun σ ha => ?_⟩
    cases ts with
    | nil => rfl
    | cons t ts => simp at hl
  | p :: ps, s, [], s', h, hl => by rw [matchL] at h; cases h
  | p :: ps, s, t :: ts, s', h, hl => by
    rw [matchL] at h
    cases hm : matchT s p t with
    | none => rw [hm] at h; cases h
    | some s1 =>
      rw [hm] at h
      obtain ⟨a1, a2⟩ := match_sound p s t s1 hm
      obtain ⟨b1, b2⟩ := matchL_sound ps s1 ts s' h (by simpa using hl)
      refine ⟨fun v u h => b1 v u (a1 v u h), fun σ ha => ?_⟩
      rw [subL, a2 σ (fun v u h => ha v u (b1 v u h)), b2 σ ha]
end
mutual
theorem match_complete (σ : List UInt8 → MType) : ∀ (p : MType) (s : List MBinding), Agree s σ → ∃ s', matchT s p (subT σ p) = some s' ∧ Agree s' σ
  | .mk k n a, s, ha => by
    rw [subT]
    by_cases hk : k = 1
    · rw [if_pos hk, matchT, if_pos hk]
      cases hl : lookupB s n with
      | some u =>
        have e := ha n u hl
        simp only
        rw [if_pos (dec_true e.symm)]
        exact ⟨s, rfl, ha⟩
      | none =>
        refine ⟨_, rfl, fun v u h => ?_⟩
        rw [lookup_append] at h
        cases hv : lookupB s v with
        | some u' => rw [hv] at h; cases h; exact ha v _ hv
        | none =>
          rw [hv] at h
          simp only at h
          split at h
          · rename_i e; cases h; rw [← e]
          · cases h
    · rw [if_neg hk, matchT, if_neg hk]
      rw [if_pos ⟨rfl, rfl, (subL_len σ a).symm⟩]
      exact matchL_complete σ a s ha
theorem matchL_complete (σ : List UInt8 → MType) : ∀ (ps : List MType) (s : List MBinding), Agree s σ → ∃ s', matchL s ps (subL σ ps) = some s' ∧ Agree s' σ
  | [], s, ha => ⟨s, by rw [subL, matchL], ha⟩
  | p :: ps, s, ha => by
    obtain ⟨s1, h1, a1⟩ := match_complete σ p s ha
    obtain ⟨s2, h2, a2⟩ := matchL_complete σ ps s1 a1
    exact ⟨s2, by rw [subL, matchL, h1]; exact h2, a2⟩
end
theorem mats_iff (p t : MType) : mats p t = true ↔ ∃ σ, subT σ p = t := by
  unfold mats matchAll
  rw [if_pos (by simp)]
  constructor
  · intro h
    cases hm : matchL [] [p] [t] with
    | none => rw [hm] at h; cases h
    | some s =>
      obtain ⟨_, h2⟩ := matchL_sound _ _ _ _ hm (by simp)
      have := h2 (fun v => (lookupB s v).getD t) (fun v u hv => by simp only [hv]; rfl)
      rw [subL, subL] at this
      exact ⟨_, by injection this⟩
  · rintro ⟨σ, rfl⟩
    obtain ⟨s, h, _⟩ := matchL_complete σ [p] [] (fun v u h => by cases h)
    rw [subL, subL] at h
    rw [h]; rfl
theorem mats_trans {a b c : MType} (h1 : mats b a = true) (h2 : mats a c = true) : mats b c = true := by
  obtain ⟨σ, rfl⟩ := (mats_iff _ _).1 h1
  obtain ⟨τ, rfl⟩ := (mats_iff _ _).1 h2
  exact (mats_iff _ _).2 ⟨fun n => subT τ (σ n), (subT_sub σ τ b).symm⟩
end Go.Ab

namespace Go.Ab
theorem list_bytes {es : List (List D)} (h : ∀ y ∈ es, ∃ x, y = [.i .u8 x] ∧ (Lit.int .u8 x).wf = true) : ∃ xs : List Int, es = xs.map encB ∧ ∀ x ∈ xs, 0 ≤ x ∧ x ≤ 255 := by
  induction es with
  | nil => exact ⟨[], rfl, fun x h => by cases h⟩
  | cons y es ih =>
    obtain ⟨x, rfl, hx⟩ := h y List.mem_cons_self
    obtain ⟨xs, rfl, hxs⟩ := ih fun z hz => h z (List.mem_cons_of_mem _ hz)
    refine ⟨x :: xs, rfl, fun z hz => ?_⟩
    rcases List.mem_cons.1 hz with rfl | hz
    · have h1 : IntKind.u8.min = 0 := by decide
      have h2 : IntKind.u8.max = 255 := by decide
      simp only [Lit.wf, Bool.and_eq_true, decide_eq_true_eq, h1, h2] at hx
      exact hx
    · exact hxs z hz
end Go.Ab
namespace Go.Proofs.Ytceaigchkgifgaa
open Go Go.Ab
theorem big_ok (bs : List Int) : PCall Try.prog 6 [.c (.d (.sl (bs.map encB)))] (.c (.d (.b (decide (1048576 < (bs.length : Int)))))) := fun S => by
  refine acall_cw (rs := [.tmp 2]) Try.checked.mixed Try.func6 Try.ntmps6 rfl rfl rfl rfl rfl ?_
  simp -implicitDefEqProofs (disch := omega) only [go_sem]
theorem tail_ok (bs : List Int) : PCall Try.prog 8 [.c (.d (.sl (bs.map encB)))] (.c (.d (.sl (bs.tail.map encB)))) := fun S => by
  refine acall_cw (rs := [.tmp 2]) Try.checked.mixed Try.func8 Try.ntmps8 rfl rfl rfl rfl rfl ?_
  cases bs with
  | nil =>
    have d0 : decide (((0 : Nat) : Int) = 0) = true := rfl
    simp -implicitDefEqProofs (disch := omega) only [go_sem, d0]
    rfl
  | cons b r =>
    have d0 : decide (((r.length + 1 : Nat) : Int) = 0) = false := decide_eq_false (by omega)
    simp -implicitDefEqProofs (disch := omega) only [go_sem, d0]
    have h1 : ∀ y ∈ encB b :: r.map encB, y.length = 1 := by
      intro y hy
      rcases List.mem_cons.1 hy with rfl | hy
      · rfl
      · obtain ⟨z, _, rfl⟩ := List.mem_map.1 hy
        rfl
    refine ⟨⟨by omega, by omega, h1⟩, ?_⟩
    rw [List.take_of_length_le (by simp)]
    rfl
end Go.Proofs.Ytceaigchkgifgaa
namespace Go.Proofs.Ytceaigchkgifgaa.fnSpecial
open Go Go.Ab
theorem law (x0 : List Int) (b0 : ∀ x ∈ x0, 0 ≤ x ∧ x ≤ 255) : ACall Try.prog 3 [.c (.d (.sl (x0.map encB)))] [] (fun r _ => r = .c (.d (.b true))) := by
  refine acall_cwm (rs := [.tmp 2]) Try.checked.mixed Try.func3 Try.ntmps3 rfl rfl rfl rfl rfl ?_
  simp -implicitDefEqProofs (disch := omega) only [go_sem]
  refine call_w (big_ok x0) ?_
  simp -implicitDefEqProofs (disch := omega) only [go_sem]
  with_reducible refine split2 (fun hb => ?_) (fun hb => ?_) <;> have h := hb <;> (try simp only [wf_preprocess] at h) <;> simp -implicitDefEqProofs (disch := omega) only [go_sem, hb] <;> (repeat (with_reducible refine And.intro ?_ ?_; focus first | omega | rfl | assumption | exact ⟨_, rfl, rfl⟩ | (simp; omega) | (simp; done)))
  have hB : Bytes x0 := ⟨by omega, b0⟩
  refine call_w (drawLeast_ok hB) ?_
  simp -implicitDefEqProofs (disch := omega) only [go_sem]
  refine call_w (tail_ok x0) ?_
  simp -implicitDefEqProofs (disch := omega) only [go_sem]
  refine call_w (drawLeast_ok hB.tail) ?_
  simp -implicitDefEqProofs (disch := omega) only [go_sem]
  generalize ha : (twoD x0).2 = a at *
  generalize hb : (twoD x0).1 = b at *
  generalize hd : (twoD x0.tail).2 = d at *
  have sa : a.sz ≤ 4194303 := ha ▸ (twoD_sz x0).2
  have sb : b.sz ≤ 4194303 := hb ▸ (twoD_sz x0).1
  have sd : d.sz ≤ 4194303 := hd ▸ (twoD_sz x0.tail).2
  cases h1 : mats b a <;> cases h2 : mats a b
  · refine call_w (implAtLeast_ok a b sa sb) ?_
    simp -implicitDefEqProofs (disch := omega) only [go_sem, h1]
    refine call_w (specAtLeast_ok a b sa sb) ?_
    simp -implicitDefEqProofs (disch := omega) only [go_sem, h1]
    refine call_w (implMore_ok a b sa sb) ?_
    simp -implicitDefEqProofs (disch := omega) only [go_sem, h1, h2, Bool.and_self, Bool.and_false, Bool.and_true]
    refine call_w (specMore_ok a b sa sb) ?_
    simp -implicitDefEqProofs (disch := omega) only [go_sem, h1, h2, Bool.and_self, Bool.and_false, Bool.and_true]
    refine call_w (implMore_ok a b sa sb) ?_
    simp -implicitDefEqProofs (disch := omega) only [go_sem, h1, h2, Bool.and_self, Bool.and_false, Bool.and_true]
    refine ⟨by rfl, ?_⟩
    simp -implicitDefEqProofs (disch := omega) only [go_sem]
    refine call_w (implAtLeast_ok d a sd sa) ?_
    cases h3 : mats a d
    · simp -implicitDefEqProofs (disch := omega) only [go_sem, h3]
    · simp -implicitDefEqProofs (disch := omega) only [go_sem, h3]
      refine call_w (implAtLeast_ok a b sa sb) ?_
      simp -implicitDefEqProofs (disch := omega) only [go_sem, h1]
  · refine call_w (implAtLeast_ok a b sa sb) ?_
    simp -implicitDefEqProofs (disch := omega) only [go_sem, h1]
    refine call_w (specAtLeast_ok a b sa sb) ?_
    simp -implicitDefEqProofs (disch := omega) only [go_sem, h1]
    refine call_w (implMore_ok a b sa sb) ?_
    simp -implicitDefEqProofs (disch := omega) only [go_sem, h1, h2, Bool.and_self, Bool.and_false, Bool.and_true]
    refine call_w (specMore_ok a b sa sb) ?_
    simp -implicitDefEqProofs (disch := omega) only [go_sem, h1, h2, Bool.and_self, Bool.and_false, Bool.and_true]
    refine call_w (implMore_ok a b sa sb) ?_
    simp -implicitDefEqProofs (disch := omega) only [go_sem, h1, h2, Bool.and_self, Bool.and_false, Bool.and_true]
    refine ⟨by rfl, ?_⟩
    simp -implicitDefEqProofs (disch := omega) only [go_sem]
    refine call_w (implAtLeast_ok d a sd sa) ?_
    cases h3 : mats a d
    · simp -implicitDefEqProofs (disch := omega) only [go_sem, h3]
    · simp -implicitDefEqProofs (disch := omega) only [go_sem, h3]
      refine call_w (implAtLeast_ok a b sa sb) ?_
      simp -implicitDefEqProofs (disch := omega) only [go_sem, h1]
  · refine call_w (implAtLeast_ok a b sa sb) ?_
    simp -implicitDefEqProofs (disch := omega) only [go_sem, h1]
    refine call_w (specAtLeast_ok a b sa sb) ?_
    simp -implicitDefEqProofs (disch := omega) only [go_sem, h1]
    refine call_w (implMore_ok a b sa sb) ?_
    simp -implicitDefEqProofs (disch := omega) only [go_sem, h1, h2, Bool.and_self, Bool.and_false, Bool.and_true]
    refine call_w (specMore_ok a b sa sb) ?_
    simp -implicitDefEqProofs (disch := omega) only [go_sem, h1, h2, Bool.and_self, Bool.and_false, Bool.and_true]
    refine call_w (implMore_ok a b sa sb) ?_
    simp -implicitDefEqProofs (disch := omega) only [go_sem, h1, h2, Bool.and_self, Bool.and_false, Bool.and_true]
    refine call_w (implMore_ok b a sb sa) ?_
    simp -implicitDefEqProofs (disch := omega) only [go_sem, h1, h2, Bool.and_self, Bool.and_false, Bool.and_true]
    refine ⟨by rfl, ?_⟩
    simp -implicitDefEqProofs (disch := omega) only [go_sem]
    refine call_w (implAtLeast_ok d a sd sa) ?_
    cases h3 : mats a d
    · simp -implicitDefEqProofs (disch := omega) only [go_sem, h3]
    · simp -implicitDefEqProofs (disch := omega) only [go_sem, h3]
      refine call_w (implAtLeast_ok a b sa sb) ?_
      simp -implicitDefEqProofs (disch := omega) only [go_sem, h1]
      refine call_w (implAtLeast_ok d b sd sb) ?_
      have h4 := mats_trans h1 h3
      simp -implicitDefEqProofs (disch := omega) only [go_sem, h4]
  · refine call_w (implAtLeast_ok a b sa sb) ?_
    simp -implicitDefEqProofs (disch := omega) only [go_sem, h1]
    refine call_w (specAtLeast_ok a b sa sb) ?_
    simp -implicitDefEqProofs (disch := omega) only [go_sem, h1]
    refine call_w (implMore_ok a b sa sb) ?_
    simp -implicitDefEqProofs (disch := omega) only [go_sem, h1, h2, Bool.and_self, Bool.and_false, Bool.and_true]
    refine call_w (specMore_ok a b sa sb) ?_
    simp -implicitDefEqProofs (disch := omega) only [go_sem, h1, h2, Bool.and_self, Bool.and_false, Bool.and_true]
    refine call_w (implMore_ok a b sa sb) ?_
    simp -implicitDefEqProofs (disch := omega) only [go_sem, h1, h2, Bool.and_self, Bool.and_false, Bool.and_true]
    refine ⟨by rfl, ?_⟩
    simp -implicitDefEqProofs (disch := omega) only [go_sem]
    refine call_w (implAtLeast_ok d a sd sa) ?_
    cases h3 : mats a d
    · simp -implicitDefEqProofs (disch := omega) only [go_sem, h3]
    · simp -implicitDefEqProofs (disch := omega) only [go_sem, h3]
      refine call_w (implAtLeast_ok a b sa sb) ?_
      simp -implicitDefEqProofs (disch := omega) only [go_sem, h1]
      refine call_w (implAtLeast_ok d b sd sb) ?_
      have h4 := mats_trans h1 h3
      simp -implicitDefEqProofs (disch := omega) only [go_sem, h4]
end Go.Proofs.Ytceaigchkgifgaa.fnSpecial

namespace Go.Ab
def lowerB (b : UInt8) : Prop := 97 ≤ b.toNat ∧ b.toNat ≤ 122
def digitB (b : UInt8) : Prop := 48 ≤ b.toNat ∧ b.toNat ≤ 57
def nameOk (s : List UInt8) : Prop := ∀ i, i < s.length → lowerB (s.getD i 0) ∨ (i ≠ 0 ∧ digitB (s.getD i 0))
def reserved : List (List UInt8) := [[105, 110, 116], [98, 111, 111, 108], [97, 115, 115, 111, 99], [100, 121, 110], [105, 102], [108, 101, 116], [99, 97, 115, 101], [110, 101, 119], [109, 101, 116, 104, 111, 100], [112, 97, 99, 107], [116, 114, 117, 101], [102, 97, 108, 115, 101]]
noncomputable def validName (s : List UInt8) : Bool := dec ((1 ≤ s.length ∧ s.length ≤ 8) ∧ s ∉ reserved ∧ nameOk s)
noncomputable def builtInB (s : List UInt8) : Bool := dec (s = [105, 110, 116] ∨ s = [98, 111, 111, 108])
noncomputable def indexS (xs : List (List UInt8)) (s : List UInt8) : Int := if s ∈ xs then ((xs.findIdx fun x => dec (x = s) : Nat) : Int) else -1
theorem indexS_here {xs : List (List UInt8)} {s : List UInt8} {i : Nat} (hi : i < xs.length) (hj : ∀ j, j < i → xs.getD j [] ≠ s) (h : xs.getD i [] = s) : indexS xs s = i := by
  have e : ∀ j, ∀ hj : j < xs.length, xs.getD j [] = xs[j] := fun j hj => by simp [List.getD, hj]
  have hm : s ∈ xs := by rw [← h, e i hi]; exact List.getElem_mem hi
  unfold indexS
  rw [if_pos hm]
  congr 1
  rw [List.findIdx_eq hi]
  exact ⟨dec_true (by rw [← e i hi]; exact h), fun j hji => dec_false (by rw [← e j (by omega)]; exact hj j hji)⟩
theorem indexS_no {xs : List (List UInt8)} {s : List UInt8} (hj : ∀ j, j < xs.length → xs.getD j [] ≠ s) : indexS xs s = -1 := by
  unfold indexS
  refine if_neg fun hm => ?_
  obtain ⟨j, h1, h2⟩ := List.getElem_of_mem hm
  exact hj j h1 (by simp [List.getD, h1, h2])
theorem indexS_pos {xs : List (List UInt8)} {s : List UInt8} : decide (indexS xs s ≥ 0) = dec (s ∈ xs) := by
  rw [decide_dec]
  refine dec_congr ?_
  unfold indexS
  split
  · rename_i h; exact ⟨fun _ => h, fun _ => by omega⟩
  · rename_i h; exact ⟨fun x => by omega, fun x => absurd x h⟩
noncomputable def fineT (k : Int) (n : List UInt8) (len : Nat) : Bool :=
  dec ((k = 1 ∨ k = 4) ∧ validName n = true ∧ len = 0 ∨ k = 3 ∧ validName n = true ∧ len = 1 ∨ k = 2 ∧ (validName n = true ∧ len ≤ 3 ∨ builtInB n = true ∧ len = 0))
mutual
noncomputable def formed : MType → Bool
  | .mk k n a => fineT k n a.length && formeds a
noncomputable def formeds : List MType → Bool
  | [] => true
  | t :: ts => formed t && formeds ts
end
mutual
def depthT : MType → Nat
  | .mk _ _ a => depths a
def depths : List MType → Nat
  | [] => 0
  | t :: ts => max (depthT t + 1) (depths ts)
end
mutual
theorem depthT_le : ∀ t : MType, depthT t + 1 ≤ t.cnt
  | .mk k n a => by
    have := depths_le a
    rw [depthT, MType.cnt]; omega
theorem depths_le : ∀ ts : List MType, depths ts ≤ MType.cnts ts
  | [] => by simp [depths]
  | t :: ts => by
    have h1 := depthT_le t
    have h2 := depths_le ts
    rw [depths, MType.cnts]
    omega
end
end Go.Ab

namespace Go.Ab
mutual
def nodesT : MType → List MType
  | .mk k n a => .mk k n a :: nodesL a
def nodesL : List MType → List MType
  | [] => []
  | t :: ts => nodesT t ++ nodesL ts
end
theorem nodesT_eq (t : MType) : nodesT t = t :: nodesL t.fArgs := by cases t; rw [nodesT]; rfl
theorem nodesL_drop {ts : List MType} {i : Nat} (hi : i < ts.length) : nodesL (ts.drop i) = nodesT ts[i] ++ nodesL (ts.drop (i + 1)) := by rw [List.drop_eq_getElem_cons hi, nodesL]
mutual
theorem nodes_len : ∀ t : MType, (nodesT t).length = t.cnt
  | .mk k n a => by rw [nodesT, List.length_cons, MType.cnt, nodesL_len a]; omega
theorem nodesL_len : ∀ ts : List MType, (nodesL ts).length = MType.cnts ts
  | [] => rfl
  | t :: ts => by rw [nodesL, List.length_append, MType.cnts, nodes_len t, nodesL_len ts]
end
def addV (out : List (List UInt8)) (u : MType) : List (List UInt8) := if u.fKind = 1 ∧ u.fName ∉ out then out ++ [u.fName] else out
def tvars (out : List (List UInt8)) (t : MType) : List (List UInt8) := (nodesT t).foldl addV out
def tvarsL (out : List (List UInt8)) (ts : List MType) : List (List UInt8) := (nodesL ts).foldl addV out
theorem addV_len (out : List (List UInt8)) (u : MType) : (addV out u).length ≤ out.length + 1 := by
  unfold addV
  split <;> simp
theorem foldV_len : ∀ (us : List MType) (out : List (List UInt8)), (us.foldl addV out).length ≤ out.length + us.length
  | [], out => by simp
  | u :: us, out => by
    have h1 := addV_len out u
    have h2 := foldV_len us (addV out u)
    rw [List.foldl_cons, List.length_cons]
    omega
theorem tvars_len (t : MType) (out : List (List UInt8)) : (tvars out t).length ≤ out.length + t.cnt := by
  have := foldV_len (nodesT t) out
  rw [nodes_len] at this
  exact this
theorem tvars_eq (out : List (List UInt8)) (t : MType) : tvars out t = tvarsL (addV out t) t.fArgs := by
  unfold tvars tvarsL
  rw [nodesT_eq, List.foldl_cons]
theorem tvarsL_drop {ts : List MType} {i : Nat} (hi : i < ts.length) (out : List (List UInt8)) : tvarsL out (ts.drop i) = tvarsL (tvars out ts[i]) (ts.drop (i + 1)) := by
  unfold tvarsL tvars
  rw [nodesL_drop hi, List.foldl_append]
def hasProj (t : MType) : Bool := (nodesT t).any fun u => decide (u.fKind = 3)
def hasProjL (ts : List MType) : Bool := (nodesL ts).any fun u => decide (u.fKind = 3)
theorem hasProj_eq (t : MType) : hasProj t = (decide (t.fKind = 3) || hasProjL t.fArgs) := by
  unfold hasProj hasProjL
  rw [nodesT_eq, List.any_cons]
theorem hasProjL_drop {ts : List MType} {i : Nat} (hi : i < ts.length) : hasProjL (ts.drop i) = (hasProj ts[i] || hasProjL (ts.drop (i + 1))) := by
  unfold hasProjL hasProj
  rw [nodesL_drop hi, List.any_append]
theorem hasProj_fold (us : List MType) : ∀ b : Bool, us.foldl (fun b u => b || decide (u.fKind = 3)) b = (b || us.any fun u => decide (u.fKind = 3)) := by
  induction us with
  | nil => intro b; simp
  | cons u us ih => intro b; rw [List.foldl_cons, ih, List.any_cons, Bool.or_assoc]
end Go.Ab

namespace Go.Proofs.Ytceaigchkgifgaa
open Go Go.Ab
theorem l1Has_ok (xs : List (List UInt8)) (s : List UInt8) (hl : xs.length ≤ 1073741824) : PCall Try.prog 71 [.c (.d (.sl (xs.map encS))), .c (.d (.s s))] (.c (.d (.b (dec (s ∈ xs))))) := fun S => by
  refine acall_cw (rs := [.tmp 4]) Try.checked.mixed Try.func71 Try.ntmps71 rfl rfl rfl rfl rfl ?_
  simp -implicitDefEqProofs (disch := omega) only [go_sem, encS]
  refine loop_at (ι := Nat) Try.checked.mixed rfl [0, 1, 5] (fun i => [.c (.d (.sl (xs.map encS))), .c (.d (.s s)), .c (.d (.i .i64 i))]) (fun _ => [] :: S)
    (fun i => i ≤ xs.length ∧ ∀ j, j < i → ∀ h : j < xs.length, xs[j] ≠ s) (fun i => xs.length - i) 0 rfl rfl ⟨Nat.zero_le _, fun j h => by omega⟩ ?_
  rintro i ⟨p1, p2⟩
  simp -implicitDefEqProofs (disch := omega) only [go_sem, encS]
  with_reducible refine split2 (fun hb => ?_) (fun hb => ?_) <;> have h := hb <;> (try simp only [wf_preprocess] at h) <;> simp -implicitDefEqProofs (disch := omega) only [go_sem, hb, encS] <;> (repeat (with_reducible refine And.intro ?_ ?_; focus first | omega | rfl | assumption | exact ⟨_, rfl, rfl⟩ | (simp; omega) | (simp; done)))
  · have hi : i < xs.length := by omega
    with_reducible refine split2 (fun hb => ?_) (fun hb => ?_) <;> have h := hb <;> (try simp only [wf_preprocess] at h) <;> simp -implicitDefEqProofs (disch := omega) only [go_sem, hb, encS] <;> (repeat (with_reducible refine And.intro ?_ ?_; focus first | omega | rfl | assumption | exact ⟨_, rfl, rfl⟩ | (simp; omega) | (simp; done)))
    · exact bool_eq (dec_true (by rw [← h]; exact List.getElem_mem hi)).symm
    · refine inv_at (i + 1) (by omega) rfl rfl ⟨by omega, fun j hj hl => ?_⟩
      by_cases e : j = i
      · subst e; exact h
      · exact p2 j (by omega) hl
  · refine bool_eq (dec_false fun hm => ?_).symm
    obtain ⟨j, h1, h2⟩ := List.getElem_of_mem hm
    exact p2 j (by omega) h1 h2
theorem indexS_ok (xs : List (List UInt8)) (s : List UInt8) (hl : xs.length ≤ 1073741824) : PCall Try.prog 69 [.c (.d (.sl (xs.map encS))), .c (.d (.s s))] (.c (.d (.i .i64 (indexS xs s)))) := fun S => by
  refine acall_cw (rs := [.tmp 4]) Try.checked.mixed Try.func69 Try.ntmps69 rfl rfl rfl rfl rfl ?_
  simp -implicitDefEqProofs (disch := omega) only [go_sem, encS]
  refine loop_at (ι := Nat) Try.checked.mixed rfl [0, 1, 7, 8] (fun i => [.c (.d (.sl (xs.map encS))), .c (.d (.s s)), .c (.d (.i .i64 xs.length)), .c (.d (.i .i64 i))]) (fun _ => [] :: S)
    (fun i => i ≤ xs.length ∧ ∀ j, j < i → xs.getD j [] ≠ s) (fun i => xs.length - i) 0 rfl rfl ⟨Nat.zero_le _, fun j h => by omega⟩ ?_
  rintro i ⟨p1, p2⟩
  simp -implicitDefEqProofs (disch := omega) only [go_sem, encS]
  with_reducible refine split2 (fun hb => ?_) (fun hb => ?_) <;> have h := hb <;> (try simp only [wf_preprocess] at h) <;> simp -implicitDefEqProofs (disch := omega) only [go_sem, hb, encS] <;> (repeat (with_reducible refine And.intro ?_ ?_; focus first | omega | rfl | assumption | exact ⟨_, rfl, rfl⟩ | (simp; omega) | (simp; done)))
  · have hi : i < xs.length := by omega
    have e : xs.getD i [] = xs[i] := by simp [List.getD, hi]
    with_reducible refine split2 (fun hb => ?_) (fun hb => ?_) <;> have h := hb <;> (try simp only [wf_preprocess] at h) <;> simp -implicitDefEqProofs (disch := omega) only [go_sem, hb, encS] <;> (repeat (with_reducible refine And.intro ?_ ?_; focus first | omega | rfl | assumption | exact ⟨_, rfl, rfl⟩ | (simp; omega) | (simp; done)))
    · rw [indexS_here hi p2 (by rw [e]; exact h.symm)]
    · refine inv_at (i + 1) (by omega) rfl rfl ⟨by omega, fun j hj => ?_⟩
      by_cases e' : j = i
      · subst e'; rw [e]; exact fun x => h x.symm
      · exact p2 j (by omega)
  · rw [indexS_no (fun j hj => p2 j (by omega))]
theorem containsS_ok (xs : List (List UInt8)) (s : List UInt8) (hl : xs.length ≤ 1073741824) : PCall Try.prog 40 [.c (.d (.sl (xs.map encS))), .c (.d (.s s))] (.c (.d (.b (dec (s ∈ xs))))) := fun S => by
  refine acall_cw (rs := [.tmp 4]) Try.checked.mixed Try.func40 Try.ntmps40 rfl rfl rfl rfl rfl ?_
  simp -implicitDefEqProofs (disch := omega) only [go_sem]
  refine call_w (indexS_ok xs s hl) ?_
  simp -implicitDefEqProofs (disch := omega) only [go_sem] <;> (repeat (with_reducible refine And.intro ?_ ?_; focus first | omega | rfl | assumption | exact ⟨_, rfl, rfl⟩ | (simp; omega) | (simp; done)))
  exact bool_eq indexS_pos
theorem l4Base_ok (s : List UInt8) : PCall Try.prog 70 [.c (.d (.s s))] (.c (.d (.b (builtInB s)))) := fun S => by
  refine acall_cw (rs := [.tmp 2]) Try.checked.mixed Try.func70 Try.ntmps70 rfl rfl rfl rfl rfl ?_
  simp -implicitDefEqProofs (disch := omega) only [go_sem]
  with_reducible refine split2 (fun hb => ?_) (fun hb => ?_) <;> have h := hb <;> (try simp only [wf_preprocess] at h) <;> simp -implicitDefEqProofs (disch := omega) only [go_sem, hb] <;> (repeat (with_reducible refine And.intro ?_ ?_; focus first | omega | rfl | assumption | exact ⟨_, rfl, rfl⟩ | (simp; omega) | (simp; done)))
  · exact bool_eq (dec_true (.inl h)).symm
  · exact bool_eq (by rw [decide_dec]; exact dec_congr ⟨fun x => .inr x, fun x => x.resolve_left h⟩)
theorem isBuiltIn_ok (s : List UInt8) : PCall Try.prog 39 [.c (.d (.s s))] (.c (.d (.b (builtInB s)))) := fun S => by
  refine acall_cw (rs := [.tmp 2]) Try.checked.mixed Try.func39 Try.ntmps39 rfl rfl rfl rfl rfl ?_
  simp -implicitDefEqProofs (disch := omega) only [go_sem]
  with_reducible refine split2 (fun hb => ?_) (fun hb => ?_) <;> have h := hb <;> (try simp only [wf_preprocess] at h) <;> simp -implicitDefEqProofs (disch := omega) only [go_sem, hb] <;> (repeat (with_reducible refine And.intro ?_ ?_; focus first | omega | rfl | assumption | exact ⟨_, rfl, rfl⟩ | (simp; omega) | (simp; done)))
  · exact bool_eq (dec_true (.inl h)).symm
  · exact bool_eq (by rw [decide_dec]; exact dec_congr ⟨fun x => .inr x, fun x => x.resolve_left h⟩)
end Go.Proofs.Ytceaigchkgifgaa

namespace Go.Proofs.Ytceaigchkgifgaa
open Go Go.Ab
theorem arg_szT {x : MType} {i : Nat} (hi : i < x.fArgs.length) (h : x.sz ≤ 4194304) : x.fArgs[i].sz ≤ 4194304 ∧ x.fArgs.length ≤ 4194304 ∧ x.fName.length ≤ 4194304 := by
  have hx : x.fArgs[i].sz ≤ szRows (x.fArgs.map MType.enc) := szRows_mem (List.mem_map_of_mem (List.getElem_mem hi))
  simp only [MType.sz, MType.enc_eq, szRow, D.sz, List.length_map] at h
  omega
theorem ty_szT {x : MType} (h : x.sz ≤ 4194304) : x.fArgs.length ≤ 4194304 ∧ x.fName.length ≤ 4194304 := by
  simp only [MType.sz, MType.enc_eq, szRow, D.sz, List.length_map] at h
  omega
theorem eachType_all : ∀ n : Nat, ∀ t : MType, SizeOf.sizeOf t < n → t.sz ≤ 4194304 → ∀ (g : Nat) (caps : List (Key × Nat)) (α : Type) (st : α → Store) (I : Nat → α → Prop) (f : α → MType → α) (hf : FStep Try.prog g caps st I f MType.v (fun u => u.sz ≤ 4194304)) (m : Nat) (a : α), I (m + t.cnt) a →
    I m ((nodesT t).foldl f a) ∧ ACall Try.prog 37 [t.v, .c (.fn g caps)] (st a) (fun r S' => r = .tup [] ∧ S' = st ((nodesT t).foldl f a))
  | 0 => fun t h => by omega
  | n + 1 => by
    have ih := eachType_all n
    intro t hn hsz g caps α st I f hf m a ha
    have lArgs := MType.lt_Args t
    have hts := ty_szT hsz
    rw [MType.cnt_eq, show m + (1 + MType.cnts t.fArgs) = (m + MType.cnts t.fArgs) + 1 by omega] at ha
    have h1 := hf _ a t ha hsz
    -- the arguments
    have hI : ∀ (ts : List MType), SizeOf.sizeOf ts < n → (∀ x ∈ ts, x.sz ≤ 4194304) → ∀ a, I (m + MType.cnts ts) a → I m ((nodesL ts).foldl f a) := by
      intro ts
      induction ts with
      | nil => intro _ _ a ha; exact ha
      | cons x xs ihx =>
        intro hs hz a ha
        simp only [List.cons.sizeOf_spec] at hs
        rw [nodesL, List.foldl_append]
        rw [MType.cnts, show m + (x.cnt + MType.cnts xs) = (m + MType.cnts xs) + x.cnt by omega] at ha
        exact ihx (by omega) (fun y hy => hz y (by simp [hy])) _ (ih x (by omega) (hz x (by simp)) g caps α st I f hf _ a ha).1
    have hall : ∀ x ∈ t.fArgs, x.sz ≤ 4194304 := fun x hx => by
      obtain ⟨i, hi, e⟩ := List.getElem_of_mem hx
      rw [← e]; exact (arg_szT hi hsz).1
    refine ⟨by rw [nodesT_eq, List.foldl_cons]; exact hI t.fArgs (by omega) hall _ h1.1, ?_⟩
    refine acall_cw (rs := []) Try.checked.mixed Try.func37 Try.ntmps37 rfl rfl rfl rfl rfl ?_
    simp -implicitDefEqProofs (disch := omega) only [go_sem]
    refine call_d rfl (h1.2 [_]) ?_
    simp -implicitDefEqProofs (disch := omega) only [go_sem]
    refine loop_at (ι := Nat × α) Try.checked.mixed rfl [1, 10, 11, 12] (fun y => [.c (.fn g (upCaps 1 caps)), .c (.d (.sl (t.fArgs.map MType.enc))), .c (.d (.i .i64 t.fArgs.length)), .c (.d (.i .i64 y.1))]) (fun y => [.box [.d (.i .i64 t.fKind), .d (.s t.fName), .d (.sl (t.fArgs.map MType.enc))]] :: st y.2)
      (fun y => y.1 ≤ t.fArgs.length ∧ I (m + MType.cnts (t.fArgs.drop y.1)) y.2 ∧ (nodesL (t.fArgs.drop y.1)).foldl f y.2 = (nodesT t).foldl f a) (fun y => t.fArgs.length - y.1) (0, f a t) rfl rfl ⟨Nat.zero_le _, h1.1, by rw [nodesT_eq, List.foldl_cons]; rfl⟩ ?_
    rintro ⟨i, b⟩ ⟨p1, p2, p3⟩
    simp only at p1 p2 p3
    simp -implicitDefEqProofs (disch := omega) only [go_sem]
    with_reducible refine split2 (fun hb => ?_) (fun hb => ?_) <;> have h := hb <;> (try simp only [wf_preprocess] at h) <;> simp -implicitDefEqProofs (disch := omega) only [go_sem, hb] <;> (repeat (with_reducible refine And.intro ?_ ?_; focus first | omega | rfl | assumption | exact ⟨_, rfl, rfl⟩ | (simp; omega) | (simp; done)))
    · have hi : i < t.fArgs.length := by omega
      have hs := List.sizeOf_lt_of_mem (List.getElem_mem hi)
      rw [nodesL_drop hi, List.foldl_append] at p3
      rw [List.drop_eq_getElem_cons hi, MType.cnts, show m + (t.fArgs[i].cnt + MType.cnts (t.fArgs.drop (i + 1))) = (m + MType.cnts (t.fArgs.drop (i + 1))) + t.fArgs[i].cnt by omega] at p2
      have h2 := (ih t.fArgs[i] (by omega) (arg_szT hi hsz).1 g caps α st I f hf _ b p2).1
      (repeat (with_reducible refine And.intro ?_ ?_; focus first | omega | rfl | assumption | exact ⟨_, rfl, rfl⟩ | (simp; omega) | (simp; done)))
      refine call_d rfl (((ih t.fArgs[i] (by omega) (arg_szT hi hsz).1 g (upCaps 1 caps) α (fun a => [.box [.d (.i .i64 t.fKind), .d (.s t.fName), .d (.sl (t.fArgs.map MType.enc))], .box [.d (.i .i64 t.fArgs[i].fKind), .d (.s t.fArgs[i].fName), .d (.sl (t.fArgs[i].fArgs.map MType.enc))]] :: st a) I f (hf.push _) _ b p2)).2) ?_
      simp -implicitDefEqProofs (disch := omega) only [go_sem]
      exact inv_drop 1 (by decide) (i + 1, (nodesT t.fArgs[i]).foldl f b) (by simp only; omega) rfl rfl (by simp only [zipTm, tmRefs, List.all_cons, List.all_nil, V.refs, C.refs, refs_upCaps1, Bool.and_true]) rfl ⟨by simp only; omega, h2, p3⟩
    · have hi : i = t.fArgs.length := by omega
      rw [hi, List.drop_length, nodesL, List.foldl_nil] at p3
      rw [p3]
theorem eachType_ok {t : MType} (hsz : t.sz ≤ 4194304) {g : Nat} {caps : List (Key × Nat)} {α : Type} {st : α → Store} {I : Nat → α → Prop} {f : α → MType → α} (hf : FStep Try.prog g caps st I f MType.v (fun u => u.sz ≤ 4194304)) (m : Nat) (a : α) (ha : I (m + t.cnt) a) :
    I m ((nodesT t).foldl f a) ∧ ACall Try.prog 37 [t.v, .c (.fn g caps)] (st a) (fun r S' => r = .tup [] ∧ S' = st ((nodesT t).foldl f a)) := eachType_all _ t (Nat.lt_succ_self _) hsz g caps α st I f hf m a ha
theorem variablesOf1_step (rest : List Ab.Obj) (S : Store) : FStep Try.prog 103 [((0, 0), 0)] (fun out : List (List UInt8) => (.box [.tsl (0, 1) (out.map encS)] :: .tok 1 (out.map encS) :: rest) :: S) (fun n out => out.length + n ≤ 1073741824) addV MType.v (fun u => u.sz ≤ 4194304) := by
  intro n out u hI hu
  refine ⟨by have := addV_len out u; omega, fun F => ?_⟩
  have hts := ty_szT hu
  refine acall_cw (rs := []) Try.checked.mixed Try.func103 Try.ntmps103 rfl rfl rfl rfl rfl ?_
  simp -implicitDefEqProofs (disch := omega) only [go_sem]
  with_reducible refine split2 (fun hb => ?_) (fun hb => ?_) <;> have h := hb <;> (try simp only [wf_preprocess] at h) <;> simp -implicitDefEqProofs (disch := omega) only [go_sem, hb] <;> (repeat (with_reducible refine And.intro ?_ ?_; focus first | omega | rfl | assumption | exact ⟨_, rfl, rfl⟩ | (simp; omega) | (simp; done)))
  · have h1 := h
    refine call_w (containsS_ok out u.fName (by omega)) ?_
    simp -implicitDefEqProofs (disch := omega) only [go_sem] <;> (repeat (with_reducible refine And.intro ?_ ?_; focus first | omega | rfl | assumption | exact ⟨_, rfl, rfl⟩ | (simp; omega) | (simp; done)))
    with_reducible refine split2 (fun hb => ?_) (fun hb => ?_) <;> have h := hb <;> (try simp only [wf_preprocess] at h) <;> simp -implicitDefEqProofs (disch := omega) only [go_sem, hb] <;> (repeat (with_reducible refine And.intro ?_ ?_; focus first | omega | rfl | assumption | exact ⟨_, rfl, rfl⟩ | (simp; omega) | (simp; done)))
    · (repeat (with_reducible refine And.intro ?_ ?_; focus first | omega | rfl | assumption | exact ⟨_, rfl, rfl⟩ | (simp; omega) | (simp; done)))
      have ha : addV out u = out ++ [u.fName] := if_pos ⟨h1, h⟩
      rw [ha]; simp [encS]
    · have ha : addV out u = out := if_neg fun x => x.2 h
      rw [ha]
  · have ha : addV out u = out := if_neg fun x => h x.1
    rw [ha]
theorem variablesOf_ok (ts : List MType) (hl : ts.length ≤ 4194304) (hz : ∀ t ∈ ts, t.sz ≤ 4194304) (hc : MType.cnts ts ≤ 1073741823) : PCall Try.prog 66 [.c (.d (.sl (ts.map MType.enc)))] (.c (.d (.sl ((tvarsL [] ts).map encS)))) := fun S => by
  refine acall_cw (rs := [.tmp 2]) Try.checked.mixed Try.func66 Try.ntmps66 rfl rfl rfl rfl rfl ?_
  simp -implicitDefEqProofs (disch := omega) only [go_sem]
  (repeat (with_reducible refine And.intro ?_ ?_; focus first | omega | rfl | assumption | exact ⟨_, rfl, rfl⟩ | (simp; omega) | (simp; done)))
  refine aw_tokbox 0 0 1 [] [.fsl []] rfl rfl (by simp) ?_
  refine loop_at (ι := Nat × List (List UInt8)) Try.checked.mixed rfl [3, 7, 8, 9] (fun y => [.c (.ptr (0, 0) 0), .c (.d (.sl (ts.map MType.enc))), .c (.d (.i .i64 ts.length)), .c (.d (.i .i64 y.1))]) (fun y => [.box [.tsl (0, 1) (y.2.map encS)], .tok 1 (y.2.map encS)] :: S)
    (fun y => y.1 ≤ ts.length ∧ y.2.length + MType.cnts (ts.drop y.1) ≤ 1073741824 ∧ tvarsL y.2 (ts.drop y.1) = tvarsL [] ts) (fun y => ts.length - y.1) (0, []) rfl rfl ⟨Nat.zero_le _, by simp only [List.drop_zero, List.length_nil]; omega, rfl⟩ ?_
  rintro ⟨i, out⟩ ⟨p1, p2, p3⟩
  simp only at p1 p2 p3
  simp -implicitDefEqProofs (disch := omega) only [go_sem]
  with_reducible refine split2 (fun hb => ?_) (fun hb => ?_) <;> have h := hb <;> (try simp only [wf_preprocess] at h) <;> simp -implicitDefEqProofs (disch := omega) only [go_sem, hb] <;> (repeat (with_reducible refine And.intro ?_ ?_; focus first | omega | rfl | assumption | exact ⟨_, rfl, rfl⟩ | (simp; omega) | (simp; done)))
  · have hi : i < ts.length := by omega
    rw [tvarsL_drop hi] at p3
    rw [List.drop_eq_getElem_cons hi, MType.cnts] at p2
    have hlen := tvars_len ts[i] out
    (repeat (with_reducible refine And.intro ?_ ?_; focus first | omega | rfl | assumption | exact ⟨_, rfl, rfl⟩ | (simp; omega) | (simp; done)))
    refine call_d rfl (eachType_ok (hz _ (List.getElem_mem hi)) (variablesOf1_step [Ab.Obj.box [.d (.i .i64 ts[i].fKind), .d (.s ts[i].fName), .d (.sl (ts[i].fArgs.map MType.enc))]] S) (MType.cnts (ts.drop (i + 1))) out (by omega)).2 ?_
    simp -implicitDefEqProofs (disch := omega) only [go_sem]
    exact inv_drop 2 (by decide) (i + 1, tvars out ts[i]) (by simp only; omega) rfl rfl rfl rfl ⟨by simp only; omega, by simp only; omega, p3⟩
  · have hi : i = ts.length := by omega
    rw [hi, List.drop_length] at p3
    rw [← p3]; rfl
theorem implTypeVars_ok (t : MType) (hsz : t.sz ≤ 4194304) : PCall Try.prog 33 [t.v] (.c (.d (.sl ((tvars [] t).map encS)))) := fun S => by
  have hc := cnt_le t
  have h0 := variablesOf_ok [t] (by simp) (by simpa using hsz) (by simp [MType.cnts]; omega)
  simp only [List.map_cons, List.map_nil, MType.enc_eq] at h0
  refine acall_cw (rs := [.tmp 2]) Try.checked.mixed Try.func33 Try.ntmps33 rfl rfl rfl rfl rfl ?_
  simp -implicitDefEqProofs (disch := omega) only [go_sem]
  (repeat (with_reducible refine And.intro ?_ ?_; focus first | omega | rfl | assumption | exact ⟨_, rfl, rfl⟩ | (simp; omega) | (simp; done)))
  refine call_w h0 ?_
  simp -implicitDefEqProofs (disch := omega) only [go_sem]
  rw [show tvarsL [] [t] = tvars [] t by simp [tvarsL, tvars, nodesL]]
theorem l4Vars_all : ∀ n : Nat, ∀ t : MType, SizeOf.sizeOf t < n → t.sz ≤ 4194304 → ∀ (out : List (List UInt8)) (l j : Nat) (S : Store), getO S (l, j) = some (.tok 1 (out.map encS)) → out.length + t.cnt ≤ 1073741824 →
    ACall Try.prog 68 [t.v, .c (.tsl (l, j) (out.map encS))] S (fun r S' => r = .c (.tsl (l, j) ((tvars out t).map encS)) ∧ S' = setO S (l, j) (.tok 1 ((tvars out t).map encS)))
  | 0 => fun t h => by omega
  | n + 1 => by
    have ih := l4Vars_all n
    intro t hn hsz out l j S hk hc
    have lArgs := MType.lt_Args t
    have hts := ty_szT hsz
    have hcn := MType.cnt_eq t
    -- the loop, from whatever list
    have hkS : ∀ x : Ab.Obj, getO (setO S (l, j) x) (l, j) = some x := fun x => getO_setO_eq _ _ _ _ hk
    have hS0 : setO S (l, j) (.tok 1 (out.map encS)) = S := setO_self _ _ hk
    have fin : tvars out t = tvarsL (addV out t) t.fArgs := tvars_eq out t
    have hal := addV_len out t
    have e0 : (out ++ [t.fName]).map encS = out.map encS ++ [[D.s t.fName]] := by simp [encS]
    refine acall_cw (rs := [.tmp 4]) Try.checked.mixed Try.func68 Try.ntmps68 rfl rfl rfl rfl rfl ?_
    simp -implicitDefEqProofs (disch := omega) only [go_sem, hk]
    repeat' (first
      | (with_reducible refine split2 (fun hb => ?_) (fun hb => ?_) <;> have h := hb <;> (try simp only [wf_preprocess] at h) <;> simp -implicitDefEqProofs (disch := omega) only [go_sem, hb, hk] <;> (repeat (with_reducible refine And.intro ?_ ?_; focus first | omega | rfl | assumption | exact ⟨_, rfl, rfl⟩ | (simp; omega) | (simp; done))))
      | (refine call_w (l1Has_ok out t.fName (by omega)) ?_; simp -implicitDefEqProofs (disch := omega) only [go_sem, hk]; (repeat (with_reducible refine And.intro ?_ ?_; focus first | omega | rfl | assumption | exact ⟨_, rfl, rfl⟩ | (simp; omega) | (simp; done)))))
    all_goals first
      | (have ha : addV out t = out ++ [t.fName] := if_pos ⟨by assumption, by assumption⟩)
      | (have ha : addV out t = out := if_neg (fun x => by have := x.1; have := x.2; contradiction))
    all_goals
      refine loop_at (ι := Nat × List (List UInt8)) Try.checked.mixed rfl [1, 2, 5] (fun y => [.c (.tsl (1 + l, j) (y.2.map encS)), .c (.ptr (0, 0) 0), .c (.d (.i .i64 y.1))]) (fun y => [.box [.d (.i .i64 t.fKind), .d (.s t.fName), .d (.sl (t.fArgs.map MType.enc))]] :: setO S (l, j) (.tok 1 (y.2.map encS)))
        (fun y => y.1 ≤ t.fArgs.length ∧ y.2.length + MType.cnts (t.fArgs.drop y.1) ≤ 1073741824 ∧ tvarsL y.2 (t.fArgs.drop y.1) = tvars out t) (fun y => t.fArgs.length - y.1) (0, addV out t) (by first | (rw [ha, e0]; rfl) | (rw [ha]; rfl)) (by first | (simp only [ha, e0]; done) | (simp only [ha, hS0]; done)) ⟨Nat.zero_le _, by simp only [List.drop_zero]; omega, by rw [fin]; rfl⟩ ?_
      rintro ⟨i, b⟩ ⟨p1, p2, p3⟩
      simp only at p1 p2 p3
      simp -implicitDefEqProofs (disch := omega) only [go_sem]
      with_reducible refine split2 (fun hb => ?_) (fun hb => ?_) <;> have h := hb <;> (try simp only [wf_preprocess] at h) <;> simp -implicitDefEqProofs (disch := omega) only [go_sem, hb] <;> (repeat (with_reducible refine And.intro ?_ ?_; focus first | omega | rfl | assumption | exact ⟨_, rfl, rfl⟩ | (simp; omega) | (simp; done)))
      · have hi : i < t.fArgs.length := by omega
        have hs := List.sizeOf_lt_of_mem (List.getElem_mem hi)
        rw [tvarsL_drop hi] at p3
        rw [List.drop_eq_getElem_cons hi, MType.cnts] at p2
        have hlen := tvars_len t.fArgs[i] b
        (repeat (with_reducible refine And.intro ?_ ?_; focus first | omega | rfl | assumption | exact ⟨_, rfl, rfl⟩ | (simp; omega) | (simp; done)))
        refine call_d rfl (ih t.fArgs[i] (by omega) (arg_szT hi hsz).1 b (1 + l) j _ (by rw [getO_up1]; exact hkS _) (by omega)) ?_
        simp -implicitDefEqProofs (disch := omega) only [go_sem, setO_twice]
        exact inv_at (i + 1, tvars b t.fArgs[i]) (by simp only; omega) rfl rfl ⟨by simp only; omega, by simp only; omega, p3⟩
      · have hi : i = t.fArgs.length := by omega
        rw [hi, List.drop_length] at p3
        rw [← p3]
        exact ⟨rfl, rfl⟩
theorem specTypeVars_ok (t : MType) (hsz : t.sz ≤ 4194304) : PCall Try.prog 35 [t.v] (.c (.d (.sl ((tvars [] t).map encS)))) := fun S => by
  have hc := cnt_le t
  have h0 : ∀ S, ACall Try.prog 68 [t.v, .c (.fsl [])] S (fun r S' => r = .c (.d (.sl ((tvars [] t).map encS))) ∧ S' = S) := fun S => by
    refine ACall.tok0 1 (es := []) (esz := 1) rfl (by simp) (l4Vars_all _ t (Nat.lt_succ_self _) hsz [] 0 0 ([.tok 1 []] :: S) rfl (by simp; omega)) ?_
    rintro r fr S' ⟨rfl, h2⟩
    injection h2 with h2 h3
    exact ⟨_, rfl, rfl, h3⟩
  refine acall_cw (rs := [.tmp 2]) Try.checked.mixed Try.func35 Try.ntmps35 rfl rfl rfl rfl rfl ?_
  simp -implicitDefEqProofs (disch := omega) only [go_sem]
  (repeat (with_reducible refine And.intro ?_ ?_; focus first | omega | rfl | assumption | exact ⟨_, rfl, rfl⟩ | (simp; omega) | (simp; done)))
  refine call_m [true, true] rfl (h0 _) ?_
  simp -implicitDefEqProofs (disch := omega) only [go_sem]
theorem specHasProj_all : ∀ n : Nat, ∀ t : MType, SizeOf.sizeOf t < n → t.sz ≤ 4194304 → PCall Try.prog 36 [t.v] (.c (.d (.b (hasProj t))))
  | 0 => fun t h => by omega
  | n + 1 => by
    have ih := specHasProj_all n
    intro t hn hsz S
    have lArgs := MType.lt_Args t
    have hts := ty_szT hsz
    refine acall_cw (rs := [.tmp 2]) Try.checked.mixed Try.func36 Try.ntmps36 rfl rfl rfl rfl rfl ?_
    simp -implicitDefEqProofs (disch := omega) only [go_sem]
    refine loop_at (ι := Nat) Try.checked.mixed rfl [1, 3] (fun i => [.c (.ptr (0, 0) 0), .c (.d (.i .i64 i))]) (fun _ => [.box [.d (.i .i64 t.fKind), .d (.s t.fName), .d (.sl (t.fArgs.map MType.enc))]] :: S)
      (fun i => i ≤ t.fArgs.length ∧ hasProjL (t.fArgs.drop i) = hasProjL t.fArgs) (fun i => t.fArgs.length - i) 0 rfl rfl ⟨Nat.zero_le _, rfl⟩ ?_
    rintro i ⟨p1, p2⟩
    simp -implicitDefEqProofs (disch := omega) only [go_sem]
    with_reducible refine split2 (fun hb => ?_) (fun hb => ?_) <;> have h := hb <;> (try simp only [wf_preprocess] at h) <;> simp -implicitDefEqProofs (disch := omega) only [go_sem, hb] <;> (repeat (with_reducible refine And.intro ?_ ?_; focus first | omega | rfl | assumption | exact ⟨_, rfl, rfl⟩ | (simp; omega) | (simp; done)))
    · have hi : i < t.fArgs.length := by omega
      rw [hasProjL_drop hi] at p2
      (repeat (with_reducible refine And.intro ?_ ?_; focus first | omega | rfl | assumption | exact ⟨_, rfl, rfl⟩ | (simp; omega) | (simp; done)))
      refine call_w (ih t.fArgs[i] (by have := List.sizeOf_lt_of_mem (List.getElem_mem hi); omega) (arg_szT hi hsz).1) ?_
      simp -implicitDefEqProofs (disch := omega) only [go_sem] <;> (repeat (with_reducible refine And.intro ?_ ?_; focus first | omega | rfl | assumption | exact ⟨_, rfl, rfl⟩ | (simp; omega) | (simp; done)))
      with_reducible refine split2 (fun hb => ?_) (fun hb => ?_) <;> have h := hb <;> (try simp only [wf_preprocess] at h) <;> simp -implicitDefEqProofs (disch := omega) only [go_sem, hb] <;> (repeat (with_reducible refine And.intro ?_ ?_; focus first | omega | rfl | assumption | exact ⟨_, rfl, rfl⟩ | (simp; omega) | (simp; done)))
      · rw [hasProj_eq, ← p2, h]; simp
      · exact inv_at (i + 1) (by omega) rfl rfl ⟨by omega, by rw [← p2, h]; rfl⟩
    · have hi : i = t.fArgs.length := by omega
      rw [hi, List.drop_length] at p2
      rw [hasProj_eq, ← p2]
      exact bool_eq (by simp [hasProjL, nodesL])
theorem specHasProj_ok (t : MType) (hsz : t.sz ≤ 4194304) : PCall Try.prog 36 [t.v] (.c (.d (.b (hasProj t)))) := specHasProj_all _ t (Nat.lt_succ_self _) hsz
theorem hasProj1_step (rest : List Ab.Obj) (cs : List C) (S : Store) : FStep Try.prog 67 [((0, 1), 0)] (fun b : Bool => (.box cs :: .box [.d (.b b)] :: rest) :: S) (fun _ _ => True) (fun b u => b || decide (u.fKind = 3)) MType.v (fun u => u.sz ≤ 4194304) := by
  intro n b u _ hu
  refine ⟨trivial, fun F => ?_⟩
  refine acall_cw (rs := []) Try.checked.mixed Try.func67 Try.ntmps67 rfl rfl rfl rfl rfl ?_
  simp -implicitDefEqProofs (disch := omega) only [go_sem]
  cases b with
  | true =>
    simp -implicitDefEqProofs (disch := omega) only [go_sem]
    rfl
  | false =>
    simp -implicitDefEqProofs (disch := omega) only [go_sem]
    rfl
theorem implHasProj_ok (t : MType) (hsz : t.sz ≤ 4194304) : PCall Try.prog 34 [t.v] (.c (.d (.b (hasProj t)))) := fun S => by
  refine acall_cw (rs := [.tmp 2]) Try.checked.mixed Try.func34 Try.ntmps34 rfl rfl rfl rfl rfl ?_
  simp -implicitDefEqProofs (disch := omega) only [go_sem]
  (repeat (with_reducible refine And.intro ?_ ?_; focus first | omega | rfl | assumption | exact ⟨_, rfl, rfl⟩ | (simp; omega) | (simp; done)))
  refine call_d rfl (eachType_ok hsz (hasProj1_step [] [.d (.i .i64 t.fKind), .d (.s t.fName), .d (.sl (t.fArgs.map MType.enc))] S) 0 false trivial).2 ?_
  simp -implicitDefEqProofs (disch := omega) only [go_sem]
  rw [hasProj_fold]
  rfl
end Go.Proofs.Ytceaigchkgifgaa

namespace Go.Ab
mutual
def cntD : D → Nat
  | .sl es => cntRs es + 1
  | .ol _ _ => 0
  | .b _ => 0
  | .i _ _ => 0
  | .s _ => 0
  | .o _ => 0
def cntR : List D → Nat
  | [] => 0
  | d :: ds => cntD d + cntR ds
def cntRs : List (List D) → Nat
  | [] => 0
  | r :: rs => cntR r + cntRs rs
end
mutual
def labD : D → Nat → D
  | .sl es, n => .ol n (labRs es (n + 1))
  | .ol m es, _ => .ol m es
  | .b x, _ => .b x
  | .i k x, _ => .i k x
  | .s l, _ => .s l
  | .o v, _ => .o v
def labR : List D → Nat → List D
  | [], _ => []
  | d :: ds, n => labD d n :: labR ds (n + cntD d)
def labRs : List (List D) → Nat → List (List D)
  | [], _ => []
  | r :: rs, n => labR r n :: labRs rs (n + cntR r)
end
mutual
def plD : D → Bool
  | .sl es => plRs es
  | .ol _ _ => false
  | .b _ => true
  | .i _ _ => true
  | .s _ => true
  | .o _ => false
def plR : List D → Bool
  | [] => true
  | d :: ds => plD d && plR ds
def plRs : List (List D) → Bool
  | [] => true
  | r :: rs => plR r && plRs rs
end
theorem labR_length : ∀ r n, (labR r n).length = r.length
  | [], _ => rfl
  | d :: ds, n => by rw [labR, List.length_cons, labR_length ds, List.length_cons]
theorem labRs_length : ∀ rs n, (labRs rs n).length = rs.length
  | [], _ => rfl
  | r :: rs, n => by rw [labRs, List.length_cons, labRs_length rs, List.length_cons]
section
variable {P : Program} {w : World} {σ σ' : Nat → Nat} {S : Store} {β : Hs} {N : Nat} {s : St}
mutual
theorem er_D : ∀ (d : D) (n : Nat) (v : Value), RepD w σ (labD d n) v → RepD w σ d v
  | .sl es, n, v, h => by
    rw [labD] at h
    have hl := labRs_length es (n + 1)
    have hrec := er_Rs es (n + 1)
    generalize labRs es (n + 1) = q at h hl hrec
    cases h with
    | onil n a cap =>
      have : es = [] := List.eq_nil_of_length_eq_zero (by simpa using hl.symm)
      subst this
      exact .nil a cap
    | ol n b off cap esz q vals c t hcap hlen hb hσ hfit hc hv =>
      obtain ⟨r1, r2⟩ := hrec vals hv
      rw [hl] at hcap hfit hc ⊢
      refine .sl b off cap esz es vals c t (0, 0) hcap (fun e he => ?_) hb (by omega) hc r2
      obtain ⟨e', h1, h2⟩ := r1 e he
      rw [← h2]; exact hlen e' h1
  | .ol m es, n, v, h => h
  | .b x, n, v, h => h
  | .i k x, n, v, h => h
  | .s l, n, v, h => h
  | .o u, n, v, h => h
theorem er_R : ∀ (r : List D) (n : Nat) (vals : Nat → Value), (∀ j d, (labR r n)[j]? = some d → RepD w σ d (vals j)) → ∀ (j : Nat) d, r[j]? = some d → RepD w σ d (vals j)
  | [], n, vals, h, j, d, hd => by simp at hd
  | a :: r, n, vals, h, j, d, hd => by
    cases j with
    | zero =>
      simp at hd; subst hd
      exact er_D a n _ (h 0 _ rfl)
    | succ j => exact er_R r (n + cntD a) (fun i => vals (i + 1)) (fun i d hi => h (i + 1) d (by rw [labR]; exact hi)) j d hd
theorem er_Rs : ∀ (rs : List (List D)) (n : Nat) (vals : Nat → Value), (∀ j d, (labRs rs n).flatten[j]? = some d → RepD w σ d (vals j)) →
    (∀ e ∈ rs, ∃ e' ∈ labRs rs n, e'.length = e.length) ∧ ∀ (j : Nat) d, rs.flatten[j]? = some d → RepD w σ d (vals j)
  | [], n, vals, h => ⟨fun e he => (by cases he), fun j d hd => (by simp at hd)⟩
  | r :: rs, n, vals, h => by
    rw [labRs, List.flatten_cons] at h
    have h1 := er_R r n vals fun j d hd => h j d (by rw [List.getElem?_append_left (List.getElem?_eq_some_iff.1 hd).1]; exact hd)
    obtain ⟨h2, h3⟩ := er_Rs rs (n + cntR r) (fun i => vals (r.length + i)) fun j d hd => h (r.length + j) d (by rw [List.getElem?_append_right (by rw [labR_length]; omega), labR_length, Nat.add_sub_cancel_left]; exact hd)
    refine ⟨fun e he => ?_, fun j d hd => ?_⟩
    · rcases List.mem_cons.1 he with e1 | he
      · subst e1; exact ⟨_, by rw [labRs]; exact List.mem_cons_self .., labR_length _ _⟩
      · obtain ⟨e', q1, q2⟩ := h2 e he
        exact ⟨e', by rw [labRs]; exact List.mem_cons_of_mem _ q1, q2⟩
    · rw [List.flatten_cons] at hd
      by_cases hj : j < r.length
      · rw [List.getElem?_append_left hj] at hd; exact h1 j d hd
      · rw [List.getElem?_append_right (by omega)] at hd
        have := h3 (j - r.length) d hd
        rwa [show r.length + (j - r.length) = j by omega] at this
end
inductive Lesses : List V → List V → Prop
  | nil : Lesses [] []
  | cons {x y : V} {xs ys : List V} : Less x y → Lesses xs ys → Lesses (x :: xs) (y :: ys)
theorem Lesses.length : ∀ {xs ys : List V}, Lesses xs ys → xs.length = ys.length
  | _, _, .nil => rfl
  | _, _, .cons _ h => by rw [List.length_cons, List.length_cons, Lesses.length h]
theorem Lesses.at : ∀ {xs ys : List V}, Lesses xs ys → ∀ (j : Nat) (x y : V), xs[j]? = some x → ys[j]? = some y → Less x y
  | _, _, .nil, j, x, y, h, _ => by simp at h
  | _, _, .cons a h, 0, x, y, h1, h2 => by simp at h1 h2; subst h1; subst h2; exact a
  | _, _, .cons a h, j + 1, x, y, h1, h2 => Lesses.at h j x y (by simpa using h1) (by simpa using h2)
theorem PCall.args {f : FuncId} {args args' : List V} {r : V} (h : PCall P f args' r) (hl : Lesses args args') : PCall P f args r := fun S => (h S).weaken hl.length fun j x y hx hy w σ β v hr => hl.at j x y hx hy w σ S β v hr
def mapL (row : Bool) (j n : Nat) (es : List (List D)) (tm : List (Nat × V)) : List (Nat × V) := tm.map fun x => (x.1, x.2.mapC (C.lab row j n es))
theorem look_mapL {row : Bool} {j n : Nat} {es : List (List D)} {tm : List (Nat × V)} {t : Nat} : look (mapL row j n es tm) t = (look tm t).mapC (C.lab row j n es) := look_map (f := V.mapC (C.lab row j n es)) rfl tm t
def labC (j n : Nat) (tm : List (Nat × V)) (own : List Obj) (Ω : Store) : Option Obj → St
  | some (.mrow _ es) => ⟨mapL true j n es tm, (own.map (Obj.mapC (C.lab true j n es))).set j .dead :: Ω⟩
  | some (.ltok m _ es) => ⟨mapL false j m es tm, (own.map (Obj.mapC (C.lab false j m es))).set j .dead :: Ω⟩
  | _ => ⟨tm, own :: Ω⟩
def labAt (j n : Nat) (s : St) : St :=
  match s.st with
  | own :: Ω => labC j n s.tm own Ω (own[j]?)
  | [] => s
def labUp : Nat → Nat → St → St
  | 0, _, s => s
  | k + 1, n, s => labUp k n (labAt k n s)
def labAll (n : Nat) (s : St) : St :=
  match s.st with
  | own :: _ => labUp own.length n s
  | [] => s
theorem labAt_mk {j n : Nat} {tm : List (Nat × V)} {own : List Obj} {Ω : Store} : labAt j n ⟨tm, own :: Ω⟩ = labC j n tm own Ω (own[j]?) := rfl
theorem labAll_mk {n : Nat} {tm : List (Nat × V)} {own : List Obj} {Ω : Store} : labAll n ⟨tm, own :: Ω⟩ = labUp own.length n ⟨tm, own :: Ω⟩ := rfl
def retL (P : Program) (n : Nat) (rs : List ResultVar) (post : V → Store → Prop) (e : Exit) (s : St) : Prop := retQ P rs post e (labAll n s)
theorem retL_ret {n : Nat} {rs : List ResultVar} {post : V → Store → Prop} : retL P n rs post .ret s = retS P rs post (labAll n s) := rfl
theorem retL_normal {n : Nat} {rs : List ResultVar} {post : V → Store → Prop} : retL P n rs post .normal s = retS P rs post (labAll n s) := rfl
theorem lab_tsl1 {row : Bool} {j n l i : Nat} {es es' : List (List D)} : C.lab row j n es (.tsl (1 + l, i) es') = .tsl (1 + l, i) es' := by rw [Nat.add_comm]; rfl
theorem lab_tsl0 {row : Bool} {j n i : Nat} {es es' : List (List D)} : C.lab row j n es (.tsl (0, i) es') = if i = j ∧ row = false ∧ es'.length = es.length then .d (.ol n es) else .tsl (0, i) es' := rfl
theorem lab_msl1 {row : Bool} {j n l i : Nat} {es : List (List D)} : C.lab row j n es (.msl (1 + l, i)) = .msl (1 + l, i) := by rw [Nat.add_comm]; rfl
theorem lab_msl0 {row : Bool} {j n i : Nat} {es : List (List D)} : C.lab row j n es (.msl (0, i)) = if i = j ∧ row = true then .d (.ol n es) else .msl (0, i) := rfl
theorem lab_d {row : Bool} {j n : Nat} {es : List (List D)} {x : D} : C.lab row j n es (.d x) = .d x := rfl
theorem lab_any {row : Bool} {j n : Nat} {es : List (List D)} : C.lab row j n es .any = .any := rfl
theorem lab_fsl {row : Bool} {j n : Nat} {es es' : List (List D)} : C.lab row j n es (.fsl es') = .fsl es' := rfl
theorem lab_lfl {row : Bool} {j n m : Nat} {es es' : List (List D)} : C.lab row j n es (.lfl m es') = .lfl m es' := rfl
theorem lab_ptr {row : Bool} {j n off : Nat} {es : List (List D)} {k : Key} : C.lab row j n es (.ptr k off) = .ptr k off := rfl
theorem lab_fn {row : Bool} {j n f : Nat} {es : List (List D)} {caps : List (Key × Nat)} : C.lab row j n es (.fn f caps) = .fn f caps := rfl
theorem lab_rptr {row : Bool} {j n : Nat} {es : List (List D)} {cs : List D} : C.lab row j n es (.rptr cs) = .rptr cs := rfl
end
attribute [go_sem ↓] retL_ret retL_normal labAll_mk
attribute [go_sem] labUp labAt_mk labC look_mapL V.mapC Obj.mapC lab_tsl1 lab_tsl0 lab_msl1 lab_msl0 lab_d lab_any lab_fsl lab_lfl lab_ptr lab_fn lab_rptr
end Go.Ab

namespace Go.Ab
section
variable {P : Program} {w w' : World} {σ σ' : Nat → Nat} {S : Store} {β : Hs}
def Sealed (w : World) (σ : Nat → Nat) (lo hi b : Nat) : Prop := ∃ c t fz m, w.heap[b]? = some (.cells c t fz) ∧ σ b = c.size + 1 + m ∧ lo ≤ m ∧ m < hi
theorem Sealed.mono {lo hi lo' hi' b : Nat} (h : Sealed w σ lo hi b) (h1 : lo' ≤ lo) (h2 : hi ≤ hi') : Sealed w σ lo' hi' b := by
  obtain ⟨c, t, fz, m, a1, a2, a3, a4⟩ := h
  exact ⟨c, t, fz, m, a1, a2, by omega, by omega⟩
theorem Sealed.apart {lo hi lo' hi' b : Nat} (h : Sealed w σ lo hi b) (h' : Sealed w σ lo' hi' b) (ho : hi ≤ lo') : False := by
  obtain ⟨c, t, fz, m, a1, a2, a3, a4⟩ := h
  obtain ⟨c', t', fz', m', b1, b2, b3, b4⟩ := h'
  rw [a1] at b1; cases b1
  omega
abbrev Kids := List (List (Option Value))
def kidAt (rows : Kids) (i o : Nat) : Option Value := ((rows[i]?).bind fun r => r[o]?).bind id
def rowsV (rows : Kids) : Array Value := (rows.map fun r => Value.tuple (r.map fun u => u.getD (.bool false)).toArray).toArray
def mkT (v : Value) (rows : Kids) : Value := .tuple #[v, .tuple (rowsV rows)]
theorem hdr_mkT {v : Value} {rows : Kids} : hdr (mkT v rows) = some v := rfl
def IsT (v : Value) : Prop := ∃ a, v = .tuple a
theorem kid_mkT {v : Value} {rows : Kids} (h : ∀ i o u, kidAt rows i o = some u → IsT u) (i o : Nat) : kid (mkT v rows) i o = kidAt rows i o := by
  have h' := h i o
  unfold kid mkT rowsV kidAt at *
  simp only [List.getElem?_toArray, List.getElem?_cons_succ, List.getElem?_cons_zero, List.getElem?_map]
  cases hr : rows[i]? with
  | none => rfl
  | some r =>
    rw [hr] at h'
    simp only [Option.map_some, List.getElem?_toArray, List.getElem?_map]
    cases hu : r[o]? with
    | none => simp [hu]
    | some u =>
      simp only [Option.bind_some, hu, id] at h'
      cases u with
      | none => simp [hu]
      | some u =>
        obtain ⟨a, rfl⟩ := h' u rfl
        simp [hu]
def CellT (w : World) (d : D) (v : Value) (u : Option Value) : Prop :=
  match d with
  | .sl es => ∃ T, u = some T ∧ IsT T ∧ hdr T = some v ∧ ExT w es T
  | d => u = none ∧ SD d v
theorem rows_lab {z : Nat} : ∀ {rs : List (List D)} {n : Nat}, (∀ r ∈ labRs rs n, r.length = z) → ∀ r ∈ rs, r.length = z
  | [], _, _, r, h => by cases h
  | a :: rs, n, ha, r, h => by
    rw [labRs] at ha
    rcases List.mem_cons.1 h with e | h
    · subst e; rw [← labR_length r n]; exact ha _ (by simp)
    · exact rows_lab (n := n + cntR a) (fun r hr => ha r (by simp [hr])) r h
structure RowT (w : World) (σ : Nat → Nat) (r : List D) (n m : Nat) (vals : Nat → Value) (us : List (Option Value)) : Prop where
  len : us.length = r.length
  cell : ∀ (j : Nat) (d : D), r[j]? = some d → ∃ u, us[j]? = some u ∧ CellT w d (vals j) u
  own : ∀ (j : Nat) (u : Value), us[j]? = some (some u) → ∀ b, Owns u b → Sealed w σ n m b
  apart : ∀ (j j' : Nat) (u u' : Value) (b : Nat), j ≠ j' → us[j]? = some (some u) → us[j']? = some (some u') → Owns u b → Owns u' b → False
structure RowsT (w : World) (σ : Nat → Nat) (z : Nat) (rs : List (List D)) (n m : Nat) (vals : Nat → Value) (U : Kids) : Prop where
  cell : ∀ (i o : Nat) (d : D), cellAt rs i o = some d → ∃ u, ((U[i]?).bind fun r => r[o]?) = some u ∧ CellT w d (vals (i * z + o)) u
  kid : ∀ (i o : Nat) (u : Value), kidAt U i o = some u → ∃ es, cellAt rs i o = some (.sl es)
  own : ∀ (i o : Nat) (u : Value), kidAt U i o = some u → ∀ b, Owns u b → Sealed w σ n m b
  apart : ∀ (i o i' o' : Nat) (u u' : Value) (b : Nat), (i, o) ≠ (i', o') → kidAt U i o = some u → kidAt U i' o' = some u' → Owns u b → Owns u' b → False
theorem kidAt_zero {us : List (Option Value)} {U : Kids} {o : Nat} {u : Value} : kidAt (us :: U) 0 o = some u ↔ us[o]? = some (some u) := by
  show (us[o]?).bind id = some u ↔ _
  cases us[o]? with
  | none => simp
  | some x => simp
mutual
theorem lab_D : ∀ (d : D) (n : Nat) (v : Value), plD d = true → RepD w σ (labD d n) v → ∃ u, CellT w d v u ∧ ∀ T, u = some T → ∀ b, Owns T b → Sealed w σ n (n + cntD d) b
  | .sl es, n, v, hp, h => by
    rw [labD] at h
    have hl := labRs_length es (n + 1)
    have hrec := lab_Rs es (n + 1)
    have hrow := fun z => rows_lab (z := z) (rs := es) (n := n + 1)
    generalize labRs es (n + 1) = q at h hl hrec hrow
    have hempty : ∀ a cap, es = [] → v = .slice a 0 cap → ∃ u, CellT w (.sl es) v u ∧ ∀ T, u = some T → ∀ b, Owns T b → Sealed w σ n (n + cntD (.sl es)) b := by
      rintro a cap rfl rfl
      have hk : ∀ i o, kid (mkT (.slice a 0 cap) []) i o = none := fun i o => by rw [kid_mkT (fun i o u h => by simp [kidAt] at h)]; simp [kidAt]
      refine ⟨some (mkT (.slice a 0 cap) []), ⟨_, rfl, ⟨_, rfl⟩, rfl, .nil a cap _ rfl hk⟩, fun T hT b hb => ?_⟩
      cases hT
      exfalso
      cases hb with
      | here h1 h2 => rw [hdr_mkT] at h1; cases h1; omega
      | kid h1 h2 => rw [hk] at h1; cases h1
    cases h with
    | onil n a cap => exact hempty a cap (List.eq_nil_of_length_eq_zero (by simpa using hl.symm)) rfl
    | ol n b off cap z q vals c t hcap hlen hb hσ hfit hc hv =>
      by_cases hne : es = []
      · subst hne
        have hq0 : q.length = 0 := by simpa using hl
        exact hempty _ _ rfl (by rw [hq0])
      rw [hl] at hcap hfit hc ⊢
      obtain ⟨U, hU⟩ := hrec z vals (hrow z hlen) (by simpa [plD] using hp) hv
      have hrl := hrow z hlen
      have hT : ∀ i o u, kidAt U i o = some u → IsT u := fun i o u hu => by
        obtain ⟨es', he⟩ := hU.kid i o u hu
        obtain ⟨u', h1, h2⟩ := hU.cell i o _ he
        obtain ⟨T, h3, h4, _⟩ := h2
        unfold kidAt at hu
        rw [h1, h3] at hu
        cases hu; exact h4
      have hkid : ∀ i o, kid (mkT (.slice (some ⟨b, off, none⟩) es.length cap) U) i o = kidAt U i o := kid_mkT hT
      have hcell : ∀ i o es', cellAt es i o = some (.sl es') → ∃ T, kidAt U i o = some T ∧ hdr T = some (vals (i * z + o)) ∧ ExT w es' T := fun i o es' he => by
        obtain ⟨u', h1, T, h3, h4, h5, h6⟩ := hU.cell i o _ he
        refine ⟨T, ?_, h5, h6⟩
        unfold kidAt
        rw [h1, h3]; rfl
      have hself : ∀ x, Sealed w σ (n + 1) (n + 1 + cntRs es) x → x ≠ b := by
        rintro x ⟨c', t', fz', m, a1, a2, a3, a4⟩ rfl
        rw [hb] at a1; cases a1
        omega
      refine ⟨some (mkT (.slice (some ⟨b, off, none⟩) es.length cap) U), ⟨_, rfl, ⟨_, rfl⟩, rfl, ?_⟩, fun T hT' x hx => ?_⟩
      · refine .mk b off cap z es _ c t (fun i o => vals (i * z + o)) (fun i o => (kidAt U i o).getD undef) rfl hne hcap hrl hb hfit (fun i o d hd => ?_) (fun i o d hd => ?_) (fun i o es' he => ?_) (fun i o es' he => ?_) (fun i o u hu hb' => ?_) (fun i o i' o' u u' x hio hu hu' h1 h2 => ?_) (fun i o u hu => ?_)
        · obtain ⟨hi, ho⟩ := cell_row hd
          rw [hrl _ (List.getElem_mem hi)] at ho
          refine hc _ ?_
          have : (i + 1) * z ≤ es.length * z := Nat.mul_le_mul_right _ hi
          rw [Nat.add_mul, Nat.one_mul] at this
          omega
        · obtain ⟨u, h1, h2⟩ := hU.cell i o d hd
          cases d <;> first | exact .inl ⟨_, rfl⟩ | exact .inr h2.2
        · obtain ⟨T, h1, h2, h3⟩ := hcell i o es' he
          rw [hkid, h1]
          exact ⟨rfl, h2⟩
        · obtain ⟨T, h1, h2, h3⟩ := hcell i o es' he
          rw [h1]; exact h3
        · rw [hkid] at hu
          exact hself b (hU.own i o u hu b hb') rfl
        · rw [hkid] at hu hu'
          exact hU.apart i o i' o' u u' x hio hu hu' h1 h2
        · rw [hkid] at hu
          exact hU.kid i o u hu
      · cases hT'
        cases hx with
        | here h1 h2 => rw [hdr_mkT] at h1; cases h1; exact ⟨c, t, (0, 0), n, hb, hσ, Nat.le_refl _, by rw [cntD]; omega⟩
        | kid h1 h2 =>
          rw [hkid] at h1
          exact (hU.own _ _ _ h1 _ h2).mono (by omega) (by rw [cntD]; omega)
  | .ol m es, n, v, hp, h => by simp [plD] at hp
  | .b x, n, v, hp, h => by rw [labD] at h; cases h; exact ⟨none, ⟨rfl, rfl⟩, fun T h => by cases h⟩
  | .i k x, n, v, hp, h => by rw [labD] at h; cases h; exact ⟨none, ⟨rfl, rfl⟩, fun T h => by cases h⟩
  | .s l, n, v, hp, h => by rw [labD] at h; cases h; exact ⟨none, ⟨rfl, rfl⟩, fun T h => by cases h⟩
  | .o u, n, v, hp, h => by simp [plD] at hp
theorem lab_R : ∀ (r : List D) (n : Nat) (vals : Nat → Value), plR r = true → (∀ (j : Nat) (d : D), (labR r n)[j]? = some d → RepD w σ d (vals j)) → ∃ us, RowT w σ r n (n + cntR r) vals us
  | [], n, vals, hp, h => ⟨[], rfl, fun j d h => by simp at h, fun j u h => by simp at h, fun j j' u u' b _ h => by simp at h⟩
  | d :: r, n, vals, hp, h => by
    rw [plR, Bool.and_eq_true] at hp
    rw [labR] at h
    obtain ⟨u, h1, h2⟩ := lab_D d n (vals 0) hp.1 (h 0 _ rfl)
    obtain ⟨us, hus⟩ := lab_R r (n + cntD d) (fun j => vals (j + 1)) hp.2 fun j x hx => h (j + 1) x hx
    rw [cntR]
    have hown : ∀ (j : Nat) (T : Value), us[j]? = some (some T) → ∀ b, Owns T b → Sealed w σ (n + cntD d) (n + cntD d + cntR r) b := hus.own
    refine ⟨u :: us, by rw [List.length_cons, List.length_cons, hus.len], fun j x hx => ?_, fun j T hT b hb => ?_, fun j j' T T' b hj hT hT' hb hb' => ?_⟩
    · cases j with
      | zero => simp at hx; subst hx; exact ⟨u, rfl, h1⟩
      | succ j => exact hus.cell j x hx
    · cases j with
      | zero => simp at hT; exact (h2 T hT b hb).mono (Nat.le_refl _) (by omega)
      | succ j => exact (hown j T hT b hb).mono (by omega) (by omega)
    · cases j with
      | zero =>
        cases j' with
        | zero => exact hj rfl
        | succ j' => simp at hT; exact (h2 T hT b hb).apart (hown j' T' hT' b hb') (Nat.le_refl _)
      | succ j =>
        cases j' with
        | zero => simp at hT'; exact (h2 T' hT' b hb').apart (hown j T hT b hb) (Nat.le_refl _)
        | succ j' => exact hus.apart j j' T T' b (by omega) hT hT' hb hb'
theorem lab_Rs : ∀ (rs : List (List D)) (n z : Nat) (vals : Nat → Value), (∀ r ∈ rs, r.length = z) → plRs rs = true → (∀ (j : Nat) (d : D), (labRs rs n).flatten[j]? = some d → RepD w σ d (vals j)) → ∃ U, RowsT w σ z rs n (n + cntRs rs) vals U
  | [], n, z, vals, hz, hp, h => ⟨[], fun i o d h => by simp [cellAt] at h, fun i o u h => by simp [kidAt] at h, fun i o u h => by simp [kidAt] at h, fun i o i' o' u u' b _ h => by simp [kidAt] at h⟩
  | r :: rs, n, z, vals, hz, hp, h => by
    rw [plRs, Bool.and_eq_true] at hp
    rw [labRs, List.flatten_cons] at h
    have hrz : r.length = z := hz r (by simp)
    obtain ⟨us, hus⟩ := lab_R r n vals hp.1 fun j d hd => h j d (by rw [List.getElem?_append_left (List.getElem?_eq_some_iff.1 hd).1]; exact hd)
    obtain ⟨U, hU⟩ := lab_Rs rs (n + cntR r) z (fun j => vals (z + j)) (fun r hr => hz r (by simp [hr])) hp.2 fun j d hd => h (z + j) d (by
      rw [List.getElem?_append_right (by rw [labR_length]; omega), labR_length, hrz, Nat.add_sub_cancel_left]; exact hd)
    rw [cntRs]
    have hown : ∀ (i o : Nat) (T : Value), kidAt U i o = some T → ∀ b, Owns T b → Sealed w σ (n + cntR r) (n + cntR r + cntRs rs) b := hU.own
    refine ⟨us :: U, fun i o d hd => ?_, fun i o u hu => ?_, fun i o T hT b hb => ?_, fun i o i' o' T T' b hio hT hT' hb hb' => ?_⟩
    · cases i with
      | zero =>
        obtain ⟨u, h1, h2⟩ := hus.cell o d hd
        exact ⟨u, h1, by rw [Nat.zero_mul, Nat.zero_add]; exact h2⟩
      | succ i =>
        obtain ⟨u, h1, h2⟩ := hU.cell i o d hd
        exact ⟨u, h1, by rw [show (i + 1) * z + o = z + (i * z + o) by rw [Nat.add_mul]; omega]; exact h2⟩
    · cases i with
      | zero =>
        rw [kidAt_zero] at hu
        have ho : o < r.length := by rw [← hus.len]; exact (List.getElem?_eq_some_iff.1 hu).1
        obtain ⟨u', h1, h2⟩ := hus.cell o r[o] (List.getElem?_eq_getElem ho)
        rw [hu] at h1; cases h1
        have hc : cellAt (r :: rs) 0 o = some r[o] := List.getElem?_eq_getElem ho
        rw [hc]
        generalize r[o] = d at h2
        cases d <;> first | exact ⟨_, rfl⟩ | (cases h2.1)
      | succ i => exact hU.kid i o u hu
    · cases i with
      | zero => rw [kidAt_zero] at hT; exact (hus.own o T hT b hb).mono (Nat.le_refl _) (by omega)
      | succ i => exact (hown i o T hT b hb).mono (by omega) (by omega)
    · cases i with
      | zero =>
        rw [kidAt_zero] at hT
        cases i' with
        | zero => rw [kidAt_zero] at hT'; exact hus.apart o o' T T' b (fun e => hio (by rw [e])) hT hT' hb hb'
        | succ i' => exact (hus.own o T hT b hb).apart (hown i' o' T' hT' b hb') (Nat.le_refl _)
      | succ i =>
        cases i' with
        | zero => rw [kidAt_zero] at hT'; exact (hus.own o' T' hT' b hb').apart (hown i o T hT b hb) (Nat.le_refl _)
        | succ i' => exact hU.apart i o i' o' T T' b (fun e => hio (by cases e; rfl)) hT hT' hb hb'
end
end
end Go.Ab

namespace Go.Ab
section
variable {P : Program} {w w' : World} {σ σ' : Nat → Nat} {S : Store} {β : Hs}
def rootD : D → List (List D)
  | .sl es => es
  | _ => []
def cellX (k : Key) (j : Nat) : D → C
  | .sl _ => .xp k j []
  | d => .d d
def rowX (k : Key) : Nat → List D → List C
  | _, [] => []
  | j, d :: ds => cellX k j d :: rowX k (j + 1) ds
theorem rowX_length {k : Key} : ∀ (j : Nat) (r : List D), (rowX k j r).length = r.length
  | _, [] => rfl
  | j, d :: ds => by rw [rowX, List.length_cons, rowX_length, List.length_cons]
theorem rowX_at {k : Key} : ∀ (r : List D) (j i : Nat), (rowX k j r)[i]? = (r[i]?).map (cellX k (j + i))
  | [], j, i => by simp [rowX]
  | d :: ds, j, 0 => rfl
  | d :: ds, j, i + 1 => by
    rw [rowX, List.getElem?_cons_succ, List.getElem?_cons_succ, rowX_at ds (j + 1) i, show j + 1 + i = j + (i + 1) by omega]
def pureC : C → C
  | .d x => .d x
  | .fsl es => .d (.sl es)
  | .tsl _ es => .d (.sl es)
  | .lfl n es => .d (.ol n es)
  | .rptr cs => .rptr cs
  | _ => .any
def pureV : V → V
  | .c x => .c (pureC x)
  | .agg cs => .agg (cs.map pureC)
  | _ => .any
theorem pure_repC {c : C} {v : Value} (h : RepC w σ S β c v) (S' : Store) (β' : Hs) : RepC w σ S' β' (pureC c) v := by
  cases c with
  | d x => exact h
  | fsl es => exact h.1
  | tsl k es => exact h.1
  | lfl n es => exact h.1
  | rptr cs => exact h
  | _ => trivial
theorem pure_rep {x : V} {v : Value} (h : RepV w σ S β x v) (S' : Store) (β' : Hs) : RepV w σ S' β' (pureV x) v := by
  cases x with
  | c x => exact ⟨pure_repC h.1 _ _, h.2⟩
  | agg cs =>
    obtain ⟨a, ha, hl, hc⟩ := h
    refine ⟨a, ha, by rw [List.length_map]; exact hl, fun i x hx => ?_⟩
    rw [List.getElem?_map] at hx
    cases hi : cs[i]? with
    | none => rw [hi] at hx; cases hx
    | some y =>
      rw [hi] at hx; cases hx
      obtain ⟨u, q1, q2, q3⟩ := hc i y hi
      exact ⟨u, q1, pure_repC q2 _ _, q3⟩
  | _ => trivial
theorem repS_empty (hl : ∀ b, b < w.heap.size ∨ σ b = 0) (hg : Glob w σ) : RepS w σ [] [] where
  glob := hg
  obj := fun k o h => by rw [getO_nil] at h; cases h
  apart := fun k k' o o' h h' b h1 => by rw [getO_nil] at h1; cases h1
  shape := ⟨rfl, fun l fr h => by simp at h⟩
  live := hl
theorem no_own0 {β : Hs} {b : Nat} : ¬ Own [] β b := fun ⟨k, o, h, h1, _⟩ => by rw [getO_nil] at h1; cases h1
def Holder (mk : List C → V) (m : Nat) : Prop := ∀ w σ S β cs v, cs.length = m → RepV w σ S β (mk cs) v → ∃ vs, RepCs w σ S β cs vs ∧ ∀ w' σ' S' β' cs', cs'.length = m → RepCs w' σ' S' β' cs' vs → RepV w' σ' S' β' (mk cs') v
def emptyT : Value := mkT (.slice none 0 0) []
theorem kid_empty (i o : Nat) : kid emptyT i o = none := by
  unfold emptyT
  rw [kid_mkT (fun i o u h => by simp [kidAt] at h)]; simp [kidAt]
theorem owns_empty {b : Nat} : ¬ Owns emptyT b := fun h => by
  cases h with
  | here h1 h2 => cases h1
  | kid h1 h2 => rw [kid_empty] at h1; cases h1
theorem bound_of (σ : Nat → Nat) : ∀ n : Nat, ∃ m, ∀ b, b < n → σ b ≤ m
  | 0 => ⟨0, fun b h => by omega⟩
  | n + 1 => by
    obtain ⟨m, hm⟩ := bound_of σ n
    refine ⟨max m (σ n), fun b hb => ?_⟩
    by_cases e : b = n
    · subst e; omega
    · have := hm b (by omega); omega
open Classical in
theorem ACall.own {f : FuncId} {args : List V} {own0 : List Obj} {Ω : Store} {mk : List C → V} {r : List D} (hm : Holder mk r.length) (hp : plR r = true)
    (h : ∀ n, PCall P f (args.map pureV) (mk ((labR r n).map .d))) :
    ACall P f args (own0 :: Ω) (fun r' S' => r' = mk (rowX (0, own0.length) 0 r) ∧ S' = (own0 ++ [.xf (r.map rootD)]) :: Ω) := by
  refine ⟨(h 0 []).1, fun w σ β vs hS hargs => ?_⟩
  obtain ⟨n, hn⟩ := bound_of σ w.heap.size
  have hargs0 : RepVs w σ [] [] (args.map pureV) vs := by
    refine ⟨by rw [List.length_map]; exact hargs.1, fun j x hx => ?_⟩
    rw [List.getElem?_map] at hx
    cases ha : args[j]? with
    | none => rw [ha] at hx; cases hx
    | some y =>
      rw [ha] at hx; cases hx
      obtain ⟨v, h1, h2⟩ := hargs.2 j y ha
      exact ⟨v, h1, pure_rep h2 _ _⟩
  refine ((h n []).2 w σ [] vs (repS_empty hS.live hS.glob) hargs0).mono fun e w' ⟨v, r', S', σ', β', he, hS', hk, hst, hv, hr', hS2⟩ => ?_
  subst hr'; subst hS2
  obtain ⟨us0, hcs, hback⟩ := hm w' σ' _ β' _ v (by rw [List.length_map, labR_length]) hv
  have hus0 : us0.length = r.length := by rw [← hcs.1, List.length_map, labR_length]
  obtain ⟨us, hus⟩ := lab_R r n (fun j => us0.getD j undef) hp (fun j d hd => by
    obtain ⟨u, h1, h2, _⟩ := hcs.2 j (.d d) (by rw [List.getElem?_map, hd]; rfl)
    simp only [List.getD_eq_getElem?_getD, h1, Option.getD_some]
    exact h2)
  let h0 : Value := .tuple (us.map fun u => u.getD emptyT).toArray
  have hroot : ∀ j, rootAt h0 j = (us[j]?).map fun u => u.getD emptyT := fun j => by simp [h0, rootAt]
  have hfresh : ∀ b, XOwns h0 b → w.heap.size ≤ b := by
    rintro b ⟨j, T, h1, h2⟩
    rw [hroot] at h1
    cases hu : us[j]? with
    | none => rw [hu] at h1; cases h1
    | some u =>
      rw [hu] at h1
      simp only [Option.map_some, Option.some.injEq] at h1
      cases u with
      | none => subst h1; exact absurd h2 owns_empty
      | some u =>
        simp at h1; subst h1
        obtain ⟨c, t, fz, m, a1, a2, a3, a4⟩ := hus.own j u hu b h2
        refine Nat.le_of_not_lt fun hlt => ?_
        have h1 := (hst.far b hlt no_own0).2
        have h2 := hn b hlt
        omega
  let σ2 : Nat → Nat := fun b => if XOwns h0 b then 0 else σ' b
  have hg : Grow w σ w' σ2 := ⟨hst.size, hst.os, hst.output, fun b hb => by
    obtain ⟨h1, h2⟩ := hst.far b hb no_own0
    exact ⟨h1, (if_neg fun hx => by have := hfresh b hx; omega).trans h2⟩, fun b => by
    rcases hS'.live b with hb | hb
    · exact .inl hb
    · right; show (if XOwns h0 b then 0 else σ' b) = 0; rw [hb]; split <;> rfl⟩
  cases β with
  | nil => have := hS.shape.1; simp at this
  | cons bo bΩ =>
  have hlen : bo.length = own0.length := by
    obtain ⟨gr, g1, g2⟩ := hS.shape.2 0 own0 rfl
    simp at g1; rw [g1]; exact g2
  obtain ⟨hS3, hk3, hst3⟩ := hS.push (o := .xf (r.map rootD)) (h := h0) hg hlen (by
    refine ⟨fun j es hj => ?_, fun j T hT => ?_, fun b hb => if_pos hb, fun j j' T T' x hjj hT hT' hx hx' => ?_⟩
    · rw [List.getElem?_map] at hj
      cases hd : r[j]? with
      | none => rw [hd] at hj; cases hj
      | some d =>
        rw [hd] at hj
        simp only [Option.map_some, Option.some.injEq] at hj
        subst hj
        obtain ⟨u, h1, h2⟩ := hus.cell j d hd
        rw [hroot, h1]
        have hsc : (∀ es, d ≠ .sl es) → ∃ T, Option.map (fun u => Option.getD u emptyT) (some u) = some T ∧ ExT w' (rootD d) T := fun hne => by
          have hu : u = none := by cases d <;> first | exact absurd rfl (hne _) | exact h2.1
          have hr0 : rootD d = [] := by cases d <;> first | exact absurd rfl (hne _) | rfl
          subst hu
          rw [hr0]
          exact ⟨emptyT, rfl, .nil none 0 _ rfl kid_empty⟩
        cases d with
        | sl es => obtain ⟨T, rfl, _, _, h6⟩ := h2; exact ⟨T, rfl, h6⟩
        | _ => exact hsc (fun es e => by cases e)
    · rw [List.length_map]
      rw [hroot] at hT
      cases hu : us[j]? with
      | none => rw [hu] at hT; cases hT
      | some u => rw [← hus.len]; exact (List.getElem?_eq_some_iff.1 hu).1
    · rw [hroot] at hT hT'
      cases hu : us[j]? with
      | none => rw [hu] at hT; cases hT
      | some u =>
        cases hu' : us[j']? with
        | none => rw [hu'] at hT'; cases hT'
        | some u' =>
          rw [hu] at hT; rw [hu'] at hT'
          simp only [Option.map_some, Option.some.injEq] at hT hT'
          cases u with
          | none => subst hT; exact owns_empty hx
          | some u =>
            cases u' with
            | none => subst hT'; exact owns_empty hx'
            | some u' => simp at hT hT'; subst hT; subst hT'; exact hus.apart j j' u u' x hjj hu hu' hx hx') (fun b hb => hfresh b hb)
  refine ⟨v, _, _, σ2, (bo ++ [h0]) :: bΩ, he, hS3, hk3, hst3, ?_, rfl, rfl⟩
  refine hback _ _ _ _ _ (by rw [rowX_length]) ⟨by rw [rowX_length, hus0], fun j x hx => ?_⟩
  rw [rowX_at, Nat.zero_add] at hx
  cases hd : r[j]? with
  | none => rw [hd] at hx; cases hx
  | some d =>
    rw [hd] at hx
    simp only [Option.map_some, Option.some.injEq] at hx
    obtain ⟨u, h1, h2⟩ := hus.cell j d hd
    have hjl : j < (labR r n).length := by rw [labR_length]; exact (List.getElem?_eq_some_iff.1 hd).1
    obtain ⟨v0, h3, _, h4⟩ := hcs.2 j (.d (labR r n)[j]) (by rw [List.getElem?_map, List.getElem?_eq_getElem hjl]; rfl)
    have hv0 : us0.getD j undef = v0 := by rw [List.getD_eq_getElem?_getD, h3]; rfl
    simp only [hv0] at h2
    refine ⟨v0, h3, ?_, h4⟩
    have hsc : (∀ es, d ≠ .sl es) → RepC w' σ2 ((own0 ++ [.xf (r.map rootD)]) :: Ω) ((bo ++ [h0]) :: bΩ) (.d d) v0 := fun hne => by
      have : SD d v0 := by cases d <;> first | exact absurd rfl (hne _) | exact h2.2
      exact rep_SD this
    cases d with
    | sl es =>
      subst hx
      obtain ⟨T, rfl, _, h5, _⟩ := h2
      refine ⟨_, getO_push_new _ _ _, fun rs _ => ⟨h0, by rw [← hlen, getO_push_new], ?_⟩⟩
      unfold hdrAt
      rw [hroot, h1]
      exact h5
    | _ => subst hx; exact hsc (fun es e => by cases e)
end
end Go.Ab

namespace Go.Ab
section
variable {P : Program} {w w' : World} {σ σ' : Nat → Nat} {S : Store} {β : Hs}
mutual
theorem st_D {σ2 : Nat → Nat} (hs : ∀ b c t fz, w.heap[b]? = some (.cells c t fz) → c.size < σ b → σ2 b = σ b) : ∀ (d : D) (n : Nat) (v : Value), plD d = true → RepD w σ (labD d n) v → RepD w σ2 (labD d n) v
  | .sl es, n, v, hp, h => by
    rw [labD] at h ⊢
    have hrec := st_Rs hs es (n + 1)
    generalize labRs es (n + 1) = q at h hrec ⊢
    cases h with
    | onil n a cap => exact .onil n a cap
    | ol n b off cap z q vals c t hcap hlen hb hσ hfit hc hv => exact .ol n b off cap z q vals c t hcap hlen hb ((hs b c t _ hb (by omega)).trans hσ) hfit hc (hrec vals (by simpa [plD] using hp) hv)
  | .ol m es, n, v, hp, h => by simp [plD] at hp
  | .b x, n, v, hp, h => by rw [labD] at h ⊢; cases h; constructor
  | .i k x, n, v, hp, h => by rw [labD] at h ⊢; cases h; constructor
  | .s l, n, v, hp, h => by rw [labD] at h ⊢; cases h; constructor
  | .o u, n, v, hp, h => by simp [plD] at hp
theorem st_R {σ2 : Nat → Nat} (hs : ∀ b c t fz, w.heap[b]? = some (.cells c t fz) → c.size < σ b → σ2 b = σ b) : ∀ (r : List D) (n : Nat) (vals : Nat → Value), plR r = true → (∀ (j : Nat) (d : D), (labR r n)[j]? = some d → RepD w σ d (vals j)) →
    ∀ (j : Nat) (d : D), (labR r n)[j]? = some d → RepD w σ2 d (vals j)
  | [], n, vals, hp, h, j, d, hd => by simp [labR] at hd
  | a :: r, n, vals, hp, h, j, d, hd => by
    rw [plR, Bool.and_eq_true] at hp
    rw [labR] at h hd
    cases j with
    | zero =>
      simp at hd; subst hd
      exact st_D hs a n _ hp.1 (h 0 _ rfl)
    | succ j => exact st_R hs r (n + cntD a) (fun i => vals (i + 1)) hp.2 (fun i d hi => h (i + 1) d hi) j d hd
theorem st_Rs {σ2 : Nat → Nat} (hs : ∀ b c t fz, w.heap[b]? = some (.cells c t fz) → c.size < σ b → σ2 b = σ b) : ∀ (rs : List (List D)) (n : Nat) (vals : Nat → Value), plRs rs = true → (∀ (j : Nat) (d : D), (labRs rs n).flatten[j]? = some d → RepD w σ d (vals j)) →
    ∀ (j : Nat) (d : D), (labRs rs n).flatten[j]? = some d → RepD w σ2 d (vals j)
  | [], n, vals, hp, h, j, d, hd => by simp [labRs] at hd
  | r :: rs, n, vals, hp, h, j, d, hd => by
    rw [plRs, Bool.and_eq_true] at hp
    rw [labRs, List.flatten_cons] at h hd
    by_cases hj : j < (labR r n).length
    · rw [List.getElem?_append_left hj] at hd
      exact st_R hs r n vals hp.1 (fun j d hd => h j d (by rw [List.getElem?_append_left (List.getElem?_eq_some_iff.1 hd).1]; exact hd)) j d hd
    · rw [List.getElem?_append_right (by omega)] at hd
      have := st_Rs hs rs (n + cntR r) (fun i => vals ((labR r n).length + i)) hp.2 (fun j d hd => h _ d (by rw [List.getElem?_append_right (by omega), Nat.add_sub_cancel_left]; exact hd)) (j - (labR r n).length) d hd
      rwa [show (labR r n).length + (j - (labR r n).length) = j by omega] at this
end
theorem ExT.data {es : List (List D)} {T v : Value} (h : ExT w es T) (hv : hdr T = some v) (hσ : ∀ b c t fz, Owns T b → w.heap[b]? = some (.cells c t fz) → c.size ≤ σ b) : RepD w σ (.sl es) v := by
  induction h generalizing v with
  | nil a cap T h hk => rw [h] at hv; cases hv; exact .nil a cap
  | mk b off cap z es T c t vals kids hh hne hcap hlen hb hfit hc hs hk hx hself hap hkid ih =>
    rw [hh] at hv; cases hv
    have hpos : 0 < es.length := List.length_pos_iff.2 hne
    have hfl := flat_len es z hlen
    have hidx : ∀ j, j < es.length * z → ∃ hi : j / z < es.length, j % z < z ∧ j / z * z + j % z = j := fun j hj => by
      have hz : 0 < z := by rcases Nat.eq_zero_or_pos z with h | h; · rw [h] at hj; simp at hj
                            · exact h
      exact ⟨(Nat.div_lt_iff_lt_mul hz).2 hj, Nat.mod_lt _ hz, by rw [Nat.mul_comm]; exact Nat.div_add_mod j z⟩
    have hcell : ∀ j d, es.flatten[j]? = some d → ∃ hi : j / z < es.length, cellAt es (j / z) (j % z) = some d ∧ j / z * z + j % z = j := fun j d hd => by
      have hj : j < es.length * z := by rw [← hfl]; exact (List.getElem?_eq_some_iff.1 hd).1
      obtain ⟨hi, hm, he⟩ := hidx j hj
      refine ⟨hi, ?_, he⟩
      have := flat_get es z hlen (j / z) (j % z) hi hm
      rw [he, hd] at this
      unfold cellAt
      rw [List.getElem?_eq_getElem hi]
      exact this.symm
    refine .sl b off cap z es (fun j => vals (j / z) (j % z)) c t (0, 0) hcap hlen hb (Nat.le_trans hfit (hσ b c t _ (.here hh hpos) hb)) (fun j hj => ?_) (fun j d hd => ?_)
    · obtain ⟨hi, hce, he⟩ := hcell j _ (List.getElem?_eq_getElem (by rw [hfl]; exact hj))
      have := hc _ _ _ hce
      rwa [he] at this
    · obtain ⟨hi, hce, he⟩ := hcell j d hd
      rcases hs _ _ _ hce with ⟨es', rfl⟩ | hsd
      · obtain ⟨k1, k2⟩ := hk _ _ _ hce
        exact ih _ _ _ hce k2 fun b' c' t' fz' ho hb' => hσ b' c' t' fz' (.kid k1 ho) hb'
      · exact rep_SD hsd
end
end Go.Ab

namespace Go.Ab
section
variable {P : Program} {w w' : World} {σ σ' : Nat → Nat} {S : Store} {β : Hs}
end
end Go.Ab

namespace Go.Ab
section
variable {P : Program} {w w' : World} {σ σ' : Nat → Nat} {S : Store} {β : Hs}
end
end Go.Ab

namespace Go.Ab
section
variable {P : Program} {w w' : World} {σ σ' : Nat → Nat} {β : Hs}
theorem box_tok {own : List Obj} {Ω : Store} (lab : Option Nat) (j i esz : Nat) (es : List (List D)) (cs : List C) (hj : own[j]? = some (.box cs)) (hi : cs[i]? = some (match lab with | some n => .lfl n es | none => .fsl es)) (hes : ∀ e ∈ es, e.length = esz) (hS : RepS w σ (own :: Ω) β) :
    ∃ β', RepS w σ ((own.set j (.box (cs.set i (.tsl (0, own.length) es))) ++ [tokO lab esz es]) :: Ω) β' ∧ Step (own :: Ω) β σ w ((own.set j (.box (cs.set i (.tsl (0, own.length) es))) ++ [tokO lab esz es]) :: Ω) β' σ w ∧ Keep (own :: Ω) β ((own.set j (.box (cs.set i (.tsl (0, own.length) es))) ++ [tokO lab esz es]) :: Ω) β' := by
  cases β with
  | nil => have := hS.shape.1; simp at this
  | cons bo bΩ =>
  have hlen : bo.length = own.length := by
    obtain ⟨gr, g1, g2⟩ := hS.shape.2 0 own rfl
    simp at g1; rw [g1]; exact g2
  have hjl := (List.getElem?_eq_some_iff.1 hj).1
  have hg0 : getO (own :: Ω) (0, j) = some (.box cs) := by rw [getO_zero]; exact hj
  obtain ⟨hb, hbo, hr⟩ := hS.obj (0, j) _ hg0
  obtain ⟨b, cv, ty, rfl, hbc, hσ, hcs⟩ := hr
  have hcs : RepCs w σ (own :: Ω) (bo :: bΩ) cs cv.toList := hcs
  obtain ⟨v, hv, hc0, hone⟩ := hcs.2 i _ hi
  have hx : ∃ ad : Option Addr, RepD w σ (.sl es) v ∧ v = .slice ad es.length es.length ∧ ∀ n, lab = some n → RepD w σ (.ol n es) v := by
    cases lab with
    | none =>
      obtain ⟨hd, ad, n, hval⟩ := hc0
      have hn : n = es.length := by rw [hval] at hd; cases hd <;> rfl
      exact ⟨ad, hd, by rw [hval, hn], fun n e => by cases e⟩
    | some n =>
      obtain ⟨hd, ad, m, hval⟩ := hc0
      have hn : m = es.length := by
        have := rep_ol hd
        rw [hval] at this
        cases this <;> rfl
      exact ⟨ad, rep_ol hd, by rw [hval, hn], fun n' e => by cases e; exact hd⟩
  obtain ⟨ad, hd, hval, hol⟩ := hx
  have hg : Grow w σ w σ := Grow.refl hS.live
  obtain ⟨hS', hk, hst⟩ := hS.push (o := tokO lab esz es) (h := v) hg hlen (by
    cases lab with
    | none => exact ⟨hd, hes, ad, es.length, hval, Nat.le_refl _, .inl rfl⟩
    | some n => exact ⟨hd, hes, ad, es.length, hval, Nat.le_refl _, .inl ⟨rfl, hol n rfl⟩⟩) (fun b hb => by
    rw [hval] at hb
    cases lab <;> cases ad <;> simp [tokO, owns, blk] at hb)
  have hk1 : getO ((own ++ [tokO lab esz es]) :: Ω) (0, j) = some (.box cs) := getO_push _ _ _ _ _ hg0
  have hh1 : getO ((bo ++ [v]) :: bΩ) (0, j) = some (.pointer (some ⟨b, 0, none⟩)) := getO_push _ _ _ _ _ hbo
  have hko : KeepO (.box cs) (some (Value.pointer (some ⟨b, 0, none⟩))) (.box (cs.set i (.tsl (0, own.length) es))) (some (Value.pointer (some ⟨b, 0, none⟩))) := .inr ⟨⟨_, rfl⟩, rfl⟩
  have hK : Keep ((own ++ [tokO lab esz es]) :: Ω) ((bo ++ [v]) :: bΩ) (setO ((own ++ [tokO lab esz es]) :: Ω) (0, j) (.box (cs.set i (.tsl (0, own.length) es)))) (setO ((bo ++ [v]) :: bΩ) (0, j) (.pointer (some ⟨b, 0, none⟩))) := by
    intro k1 o1 e1
    by_cases e : k1 = (0, j)
    · subst e
      rw [hk1] at e1; cases e1
      exact ⟨_, getO_setO_eq _ _ _ _ hk1, by rw [hh1, getO_setO_eq _ _ _ _ hh1]; exact hko⟩
    · exact ⟨o1, (getO_setO_ne _ _ _ _ (Ne.symm e)).trans e1, by rw [getO_setO_ne _ _ _ _ (Ne.symm e)]; exact .refl _ _⟩
  have hne : (0, own.length) ≠ (0, j) := fun e => by injection e with _ e; omega
  obtain ⟨hS2, hk2, hst2⟩ := hS'.set (w' := w) (σ' := σ) (o' := .box (cs.set i (.tsl (0, own.length) es))) (h' := .pointer (some ⟨b, 0, none⟩)) hk1 hh1 (Nat.le_refl _) rfl rfl (Near.refl _ _) hS'.live (fun _ _ _ => ⟨rfl, rfl⟩) hko
    ⟨b, cv, ty, rfl, hbc, hσ, by
      refine ⟨by rw [List.length_set]; exact hcs.1, fun m x hm => ?_⟩
      rw [List.getElem?_set] at hm
      by_cases e : i = m
      · subst e
        rw [if_pos rfl] at hm
        split at hm
        · cases hm
          refine ⟨v, hv, ⟨hd, tokO lab esz es, ?_, fun a1 b1 e1 => ?_⟩, hone⟩
          · show getO (setO _ (0, j) _) (0, own.length) = _
            rw [getO_setO_ne _ _ _ _ (Ne.symm hne), getO_push_new]
          · obtain ⟨_, rfl⟩ := istok_of e1
            refine ⟨Nat.le_refl _, fun _ => ?_⟩
            show getO (setO _ (0, j) _) (0, own.length) = _
            rw [getO_setO_ne _ _ _ _ (Ne.symm hne), ← hlen, getO_push_new]
        · cases hm
      · rw [if_neg e] at hm
        obtain ⟨u, hu, hc, ho⟩ := hcs.2 m x hm
        exact ⟨u, hu, (hc.mono (Near.refl _ _) hk).mono (Near.refl _ _) hK, ho⟩⟩ (fun _ e => .inl e)
  have est : setO ((own ++ [tokO lab esz es]) :: Ω) (0, j) (.box (cs.set i (.tsl (0, own.length) es))) = (own.set j (.box (cs.set i (.tsl (0, own.length) es))) ++ [tokO lab esz es]) :: Ω := by
    rw [setO, List.set_append_left _ _ hjl]
  rw [est] at hS2 hk2 hst2
  exact ⟨_, hS2, hst.trans hst2, hk.trans hk2⟩
theorem ACall.boxtok {f : FuncId} {args : List V} {post : V → Store → Prop} {own : List Obj} {Ω : Store} (lab : Option Nat) (j i esz : Nat) (es : List (List D)) (cs : List C) (hj : own[j]? = some (.box cs)) (hi : cs[i]? = some (match lab with | some n => .lfl n es | none => .fsl es)) (hes : ∀ e ∈ es, e.length = esz)
    (h : ACall P f args ((own.set j (.box (cs.set i (.tsl (0, own.length) es))) ++ [tokO lab esz es]) :: Ω) post) : ACall P f args (own :: Ω) post := by
  refine ⟨h.1, fun w σ β vs hS hargs => ?_⟩
  obtain ⟨β1, hS1, hst1, hk1⟩ := box_tok lab j i esz es cs hj hi hes hS
  have hargs1 : RepVs w σ _ β1 args vs := ⟨hargs.1, fun m x hx => by
    obtain ⟨v, h1, h2⟩ := hargs.2 m x hx
    exact ⟨v, h1, h2.mono (Near.refl _ _) hk1⟩⟩
  refine (h.2 w σ β1 vs hS1 hargs1).mono fun e w' ⟨v', r, S1, σ', β', he, hS', hk', hst', hr', hp⟩ => ?_
  exact ⟨v', r, S1, σ', β', he, hS', hk1.trans hk', hst1.trans hst', hr', hp⟩
end
end Go.Ab

namespace Go.Ab
noncomputable def named (u : MType) : Bool := (decide (u.fKind = 2) && !builtInB u.fName) || decide (u.fKind = 4)
noncomputable def addN (out : List (List UInt8)) (u : MType) : List (List UInt8) := if named u = true ∧ u.fName ∉ out then out ++ [u.fName] else out
noncomputable def tnames (out : List (List UInt8)) (t : MType) : List (List UInt8) := (nodesT t).foldl addN out
noncomputable def tnamesL (out : List (List UInt8)) (ts : List MType) : List (List UInt8) := (nodesL ts).foldl addN out
theorem addN_len (out : List (List UInt8)) (u : MType) : (addN out u).length ≤ out.length + 1 := by
  unfold addN
  split <;> simp
theorem foldN_len : ∀ (us : List MType) (out : List (List UInt8)), (us.foldl addN out).length ≤ out.length + us.length
  | [], out => by simp
  | u :: us, out => by
    have h1 := addN_len out u
    have h2 := foldN_len us (addN out u)
    simp only [List.foldl_cons, List.length_cons]
    omega
theorem tnames_len (t : MType) (out : List (List UInt8)) : (tnames out t).length ≤ out.length + t.cnt := by
  have := foldN_len (nodesT t) out
  rw [nodes_len] at this
  exact this
theorem tnames_eq (out : List (List UInt8)) (t : MType) : tnames out t = tnamesL (addN out t) t.fArgs := by
  unfold tnames tnamesL
  rw [nodesT_eq, List.foldl_cons]
theorem tnamesL_drop {ts : List MType} {i : Nat} (hi : i < ts.length) (out : List (List UInt8)) : tnamesL out (ts.drop i) = tnamesL (tnames out ts[i]) (ts.drop (i + 1)) := by
  unfold tnamesL tnames
  rw [nodesL_drop hi, List.foldl_append]
theorem tvars_sz (t : MType) (h : t.sz ≤ 4194304) : (tvars [] t).length ≤ 1073741824 := by
  have h1 := tvars_len t []
  have h2 := cnt_le t
  simp at h1
  omega
def ground (t : MType) : Bool := decide (tvars [] t = []) && !hasProj t
theorem foldV_nil : ∀ (us : List MType) (out : List (List UInt8)), us.foldl addV out = [] → out = [] ∧ ∀ u ∈ us, u.fKind ≠ 1
  | [], out, h => ⟨h, fun u hu => by cases hu⟩
  | u :: us, out, h => by
    obtain ⟨h1, h2⟩ := foldV_nil us (addV out u) h
    unfold addV at h1
    split at h1
    · simp at h1
    · rename_i hk
      refine ⟨h1, fun v hv => ?_⟩
      rcases List.mem_cons.1 hv with rfl | hv
      · intro hk1
        exact hk ⟨hk1, by rw [h1]; simp⟩
      · exact h2 v hv
mutual
theorem subT_ground (σ : List UInt8 → MType) : ∀ t : MType, (∀ u ∈ nodesT t, u.fKind ≠ 1) → subT σ t = t
  | .mk k n a, h => by
    rw [nodesT] at h
    have hk : k ≠ 1 := h (.mk k n a) List.mem_cons_self
    rw [subT, if_neg hk, subL_ground σ a fun u hu => h u (List.mem_cons_of_mem _ hu)]
theorem subL_ground (σ : List UInt8 → MType) : ∀ ts : List MType, (∀ u ∈ nodesL ts, u.fKind ≠ 1) → subL σ ts = ts
  | [], h => rfl
  | t :: ts, h => by
    rw [nodesL] at h
    rw [subL, subT_ground σ t fun u hu => h u (List.mem_append_left _ hu), subL_ground σ ts fun u hu => h u (List.mem_append_right _ hu)]
end
theorem ground_mats {a b : MType} (hb : ground b = true) : mats b a = dec (a = b) := by
  have hv : tvars [] b = [] := by
    unfold ground at hb
    simp only [Bool.and_eq_true, decide_eq_true_eq] at hb
    exact hb.1
  have hs : ∀ σ, subT σ b = b := fun σ => subT_ground σ b (foldV_nil _ _ hv).2
  by_cases h : a = b
  · rw [dec_true h, mats_iff]
    exact ⟨fun n => b, by rw [hs, h]⟩
  · rw [dec_false h]
    cases hm : mats b a with
    | false => rfl
    | true =>
      obtain ⟨σ, e⟩ := (mats_iff _ _).1 hm
      rw [hs] at e
      exact absurd e.symm h
end Go.Ab
namespace Go.Proofs.Ytceaigchkgifgaa
open Go Go.Ab
theorem implIsGround_ok (t : MType) (h : t.sz ≤ 4194304) : PCall Try.prog 13 [t.v] (.c (.d (.b (ground t)))) := fun S => by
  refine acall_cw (rs := [.tmp 2]) Try.checked.mixed Try.func13 Try.ntmps13 rfl rfl rfl rfl rfl ?_
  simp -implicitDefEqProofs (disch := omega) only [go_sem]
  refine call_w (implTypeVars_ok t h) ?_
  have hl := tvars_sz t h
  cases hv : tvars [] t with
  | nil =>
    have d0 : decide (((0 : Nat) : Int) = 0) = true := rfl
    simp -implicitDefEqProofs (disch := omega) only [go_sem, d0]
    refine call_w (implHasProj_ok t h) ?_
    simp -implicitDefEqProofs (disch := omega) only [go_sem]
    exact bool_eq (by unfold ground; rw [hv]; simp)
  | cons x xs =>
    rw [hv] at hl
    have d0 : decide (((xs.length + 1 : Nat) : Int) = 0) = false := decide_eq_false (by omega)
    simp -implicitDefEqProofs (disch := omega) only [go_sem, d0]
    exact bool_eq (by unfold ground; rw [hv]; simp)
theorem specIsGround_ok (t : MType) (h : t.sz ≤ 4194304) : PCall Try.prog 14 [t.v] (.c (.d (.b (ground t)))) := fun S => by
  refine acall_cw (rs := [.tmp 2]) Try.checked.mixed Try.func14 Try.ntmps14 rfl rfl rfl rfl rfl ?_
  simp -implicitDefEqProofs (disch := omega) only [go_sem]
  refine call_w (specTypeVars_ok t h) ?_
  have hl := tvars_sz t h
  cases hv : tvars [] t with
  | nil =>
    have d0 : decide (((0 : Nat) : Int) = 0) = true := rfl
    simp -implicitDefEqProofs (disch := omega) only [go_sem, d0]
    refine call_w (specHasProj_ok t h) ?_
    simp -implicitDefEqProofs (disch := omega) only [go_sem]
    exact bool_eq (by unfold ground; rw [hv]; simp)
  | cons x xs =>
    rw [hv] at hl
    have d0 : decide (((xs.length + 1 : Nat) : Int) = 0) = false := decide_eq_false (by omega)
    simp -implicitDefEqProofs (disch := omega) only [go_sem, d0]
    exact bool_eq (by unfold ground; rw [hv]; simp)
theorem names1_step (c0 : List C) (S : Store) : FStep Try.prog 38 [((0, 1), 0)] (fun out : List (List UInt8) => (.box c0 :: .box [.tsl (0, 2) (out.map encS)] :: .tok 1 (out.map encS) :: []) :: S) (fun n out => out.length + n ≤ 1073741824) addN MType.v (fun u => u.sz ≤ 4194304) := by
  intro n out u hI hu
  refine ⟨by have := addN_len out u; omega, fun F => ?_⟩
  have hts := ty_szT hu
  refine acall_cw (rs := []) Try.checked.mixed Try.func38 Try.ntmps38 rfl rfl rfl rfl rfl ?_
  simp -implicitDefEqProofs (disch := omega) only [go_sem]
  with_reducible refine split2 (fun hb => ?_) (fun hb => ?_) <;> have h := hb <;> (try simp only [wf_preprocess] at h) <;> simp -implicitDefEqProofs (disch := omega) only [go_sem, hb] <;> (repeat (with_reducible refine And.intro ?_ ?_; focus first | omega | rfl | assumption | exact ⟨_, rfl, rfl⟩ | (simp; omega) | (simp; done)))
  · have h2 := h
    refine call_w (isBuiltIn_ok u.fName) ?_
    cases hb : builtInB u.fName with
    | true =>
      simp -implicitDefEqProofs (disch := omega) only [go_sem, hb]
      have h4 : ¬ u.fKind = 4 := by omega
      have d4 : decide (u.fKind = 4) = false := decide_eq_false h4
      simp -implicitDefEqProofs (disch := omega) only [go_sem, d4]
      have ha : addN out u = out := if_neg fun x => by have := x.1; unfold named at this; rw [hb, d4] at this; simp at this
      rw [ha]
    | false =>
      simp -implicitDefEqProofs (disch := omega) only [go_sem, hb]
      have hn : named u = true := by unfold named; rw [hb, decide_eq_true h2]; rfl
      refine call_w (containsS_ok out u.fName (by omega)) ?_
      simp -implicitDefEqProofs (disch := omega) only [go_sem] <;> (repeat (with_reducible refine And.intro ?_ ?_; focus first | omega | rfl | assumption | exact ⟨_, rfl, rfl⟩ | (simp; omega) | (simp; done)))
      with_reducible refine split2 (fun hb => ?_) (fun hb => ?_) <;> have h := hb <;> (try simp only [wf_preprocess] at h) <;> simp -implicitDefEqProofs (disch := omega) only [go_sem, hb] <;> (repeat (with_reducible refine And.intro ?_ ?_; focus first | omega | rfl | assumption | exact ⟨_, rfl, rfl⟩ | (simp; omega) | (simp; done)))
      · (repeat (with_reducible refine And.intro ?_ ?_; focus first | omega | rfl | assumption | exact ⟨_, rfl, rfl⟩ | (simp; omega) | (simp; done)))
        have ha : addN out u = out ++ [u.fName] := if_pos ⟨hn, h⟩
        rw [ha]; simp [encS]
      · have ha : addN out u = out := if_neg fun x => x.2 h
        rw [ha]
  · have h2 := h
    with_reducible refine split2 (fun hb => ?_) (fun hb => ?_) <;> have h := hb <;> (try simp only [wf_preprocess] at h) <;> simp -implicitDefEqProofs (disch := omega) only [go_sem, hb] <;> (repeat (with_reducible refine And.intro ?_ ?_; focus first | omega | rfl | assumption | exact ⟨_, rfl, rfl⟩ | (simp; omega) | (simp; done)))
    · have hn : named u = true := by unfold named; rw [decide_eq_true h]; simp
      refine call_w (containsS_ok out u.fName (by omega)) ?_
      simp -implicitDefEqProofs (disch := omega) only [go_sem] <;> (repeat (with_reducible refine And.intro ?_ ?_; focus first | omega | rfl | assumption | exact ⟨_, rfl, rfl⟩ | (simp; omega) | (simp; done)))
      with_reducible refine split2 (fun hb => ?_) (fun hb => ?_) <;> have h := hb <;> (try simp only [wf_preprocess] at h) <;> simp -implicitDefEqProofs (disch := omega) only [go_sem, hb] <;> (repeat (with_reducible refine And.intro ?_ ?_; focus first | omega | rfl | assumption | exact ⟨_, rfl, rfl⟩ | (simp; omega) | (simp; done)))
      · (repeat (with_reducible refine And.intro ?_ ?_; focus first | omega | rfl | assumption | exact ⟨_, rfl, rfl⟩ | (simp; omega) | (simp; done)))
        have ha : addN out u = out ++ [u.fName] := if_pos ⟨hn, h⟩
        rw [ha]; simp [encS]
      · have ha : addN out u = out := if_neg fun x => x.2 h
        rw [ha]
    · have ha : addN out u = out := if_neg fun x => by have := x.1; unfold named at this; rw [decide_eq_false h2, decide_eq_false h] at this; simp at this
      rw [ha]
theorem implTypeNames_ok (t : MType) (hsz : t.sz ≤ 4194304) : PCall Try.prog 16 [t.v] (.c (.d (.sl ((tnames [] t).map encS)))) := fun S => by
  have hc := cnt_le t
  refine acall_cw (rs := [.tmp 2]) Try.checked.mixed Try.func16 Try.ntmps16 rfl rfl rfl rfl rfl ?_
  simp -implicitDefEqProofs (disch := omega) only [go_sem]
  (repeat (with_reducible refine And.intro ?_ ?_; focus first | omega | rfl | assumption | exact ⟨_, rfl, rfl⟩ | (simp; omega) | (simp; done)))
  refine call_d rfl (ACall.boxtok none 1 0 1 [] [.fsl []] rfl rfl (by simp) (eachType_ok hsz (names1_step [.d (.i .i64 t.fKind), .d (.s t.fName), .d (.sl (t.fArgs.map MType.enc))] S) 0 [] (by simp; omega)).2) ?_
  simp -implicitDefEqProofs (disch := omega) only [go_sem]
  rfl
theorem l10Names_all : ∀ n : Nat, ∀ t : MType, SizeOf.sizeOf t < n → t.sz ≤ 4194304 → ∀ (out : List (List UInt8)) (l j : Nat) (S : Store), getO S (l, j) = some (.tok 1 (out.map encS)) → out.length + t.cnt ≤ 1073741824 →
    ACall Try.prog 41 [t.v, .c (.tsl (l, j) (out.map encS))] S (fun r S' => r = .c (.tsl (l, j) ((tnames out t).map encS)) ∧ S' = setO S (l, j) (.tok 1 ((tnames out t).map encS)))
  | 0 => fun t h => by omega
  | n + 1 => by
    have ih := l10Names_all n
    intro t hn hsz out l j S hk hc
    have lArgs := MType.lt_Args t
    have hts := ty_szT hsz
    have hcn := MType.cnt_eq t
    -- the loop, from whatever list
    have hkS : ∀ x : Ab.Obj, getO (setO S (l, j) x) (l, j) = some x := fun x => getO_setO_eq _ _ _ _ hk
    have hS0 : setO S (l, j) (.tok 1 (out.map encS)) = S := setO_self _ _ hk
    have fin : tnames out t = tnamesL (addN out t) t.fArgs := tnames_eq out t
    have hal := addN_len out t
    have e0 : (out ++ [t.fName]).map encS = out.map encS ++ [[D.s t.fName]] := by simp [encS]
    refine acall_cw (rs := [.tmp 4]) Try.checked.mixed Try.func41 Try.ntmps41 rfl rfl rfl rfl rfl ?_
    simp -implicitDefEqProofs (disch := omega) only [go_sem, hk]
    repeat' (first
      | (with_reducible refine split2 (fun hb => ?_) (fun hb => ?_) <;> have h := hb <;> (try simp only [wf_preprocess] at h) <;> simp -implicitDefEqProofs (disch := omega) only [go_sem, hb, hk] <;> (repeat (with_reducible refine And.intro ?_ ?_; focus first | omega | rfl | assumption | exact ⟨_, rfl, rfl⟩ | (simp; omega) | (simp; done))))
      | (refine call_w (l4Base_ok t.fName) ?_; simp -implicitDefEqProofs (disch := omega) only [go_sem, hk]; (repeat (with_reducible refine And.intro ?_ ?_; focus first | omega | rfl | assumption | exact ⟨_, rfl, rfl⟩ | (simp; omega) | (simp; done))))
      | (refine call_w (l1Has_ok out t.fName (by omega)) ?_; simp -implicitDefEqProofs (disch := omega) only [go_sem, hk]; (repeat (with_reducible refine And.intro ?_ ?_; focus first | omega | rfl | assumption | exact ⟨_, rfl, rfl⟩ | (simp; omega) | (simp; done)))))
    all_goals first
      | (exfalso; omega)
      | (have ha : addN out t = out ++ [t.fName] := if_pos ⟨by unfold named; simp [*], by assumption⟩)
      | (have ha : addN out t = out := if_neg (fun x => by have h1 := x.1; have h2 := x.2; unfold named at h1; first | contradiction | (simp [*] at h1; done)))
    all_goals
      refine loop_at (ι := Nat × List (List UInt8)) Try.checked.mixed rfl [1, 2, 5] (fun y => [.c (.tsl (1 + l, j) (y.2.map encS)), .c (.ptr (0, 0) 0), .c (.d (.i .i64 y.1))]) (fun y => [.box [.d (.i .i64 t.fKind), .d (.s t.fName), .d (.sl (t.fArgs.map MType.enc))]] :: setO S (l, j) (.tok 1 (y.2.map encS)))
        (fun y => y.1 ≤ t.fArgs.length ∧ y.2.length + MType.cnts (t.fArgs.drop y.1) ≤ 1073741824 ∧ tnamesL y.2 (t.fArgs.drop y.1) = tnames out t) (fun y => t.fArgs.length - y.1) (0, addN out t) (by first | (rw [ha, e0]; rfl) | (rw [ha]; rfl)) (by first | (simp only [ha, e0]; done) | (simp only [ha, hS0]; done)) ⟨Nat.zero_le _, by simp only [List.drop_zero]; omega, by rw [fin]; rfl⟩ ?_
      rintro ⟨i, b⟩ ⟨p1, p2, p3⟩
      simp only at p1 p2 p3
      simp -implicitDefEqProofs (disch := omega) only [go_sem]
      with_reducible refine split2 (fun hb => ?_) (fun hb => ?_) <;> have h := hb <;> (try simp only [wf_preprocess] at h) <;> simp -implicitDefEqProofs (disch := omega) only [go_sem, hb] <;> (repeat (with_reducible refine And.intro ?_ ?_; focus first | omega | rfl | assumption | exact ⟨_, rfl, rfl⟩ | (simp; omega) | (simp; done)))
      · have hi : i < t.fArgs.length := by omega
        have hs := List.sizeOf_lt_of_mem (List.getElem_mem hi)
        rw [tnamesL_drop hi] at p3
        rw [List.drop_eq_getElem_cons hi, MType.cnts] at p2
        have hlen := tnames_len t.fArgs[i] b
        (repeat (with_reducible refine And.intro ?_ ?_; focus first | omega | rfl | assumption | exact ⟨_, rfl, rfl⟩ | (simp; omega) | (simp; done)))
        refine call_d rfl (ih t.fArgs[i] (by omega) (arg_szT hi hsz).1 b (1 + l) j _ (by rw [getO_up1]; exact hkS _) (by omega)) ?_
        simp -implicitDefEqProofs (disch := omega) only [go_sem, setO_twice]
        exact inv_at (i + 1, tnames b t.fArgs[i]) (by simp only; omega) rfl rfl ⟨by simp only; omega, by simp only; omega, p3⟩
      · have hi : i = t.fArgs.length := by omega
        rw [hi, List.drop_length] at p3
        rw [← p3]
        first | exact ⟨rfl, rfl⟩ | rfl
theorem specTypeNames_ok (t : MType) (hsz : t.sz ≤ 4194304) : PCall Try.prog 17 [t.v] (.c (.d (.sl ((tnames [] t).map encS)))) := fun S => by
  have hc := cnt_le t
  have h0 : ∀ S, ACall Try.prog 41 [t.v, .c (.fsl [])] S (fun r S' => r = .c (.d (.sl ((tnames [] t).map encS))) ∧ S' = S) := fun S => by
    refine ACall.tok0 1 (es := []) (esz := 1) rfl (by simp) (l10Names_all _ t (Nat.lt_succ_self _) hsz [] 0 0 ([.tok 1 []] :: S) rfl (by simp; omega)) ?_
    rintro r fr S' ⟨rfl, h2⟩
    injection h2 with h2 h3
    exact ⟨_, rfl, rfl, h3⟩
  refine acall_cw (rs := [.tmp 2]) Try.checked.mixed Try.func17 Try.ntmps17 rfl rfl rfl rfl rfl ?_
  simp -implicitDefEqProofs (disch := omega) only [go_sem]
  (repeat (with_reducible refine And.intro ?_ ?_; focus first | omega | rfl | assumption | exact ⟨_, rfl, rfl⟩ | (simp; omega) | (simp; done)))
  refine call_m [true, true] rfl (h0 _) ?_
  simp -implicitDefEqProofs (disch := omega) only [go_sem]
end Go.Proofs.Ytceaigchkgifgaa

namespace Go.Proofs.Ytceaigchkgifgaa.fnGround
open Go Go.Ab
theorem law (x0 : List Int) (b0 : ∀ x ∈ x0, 0 ≤ x ∧ x ≤ 255) : ACall Try.prog 4 [.c (.d (.sl (x0.map encB)))] [] (fun r _ => r = .c (.d (.b true))) := by
  refine acall_cwm (rs := [.tmp 2]) Try.checked.mixed Try.func4 Try.ntmps4 rfl rfl rfl rfl rfl ?_
  simp -implicitDefEqProofs (disch := omega) only [go_sem]
  refine call_w (big_ok x0) ?_
  simp -implicitDefEqProofs (disch := omega) only [go_sem]
  with_reducible refine split2 (fun hb => ?_) (fun hb => ?_) <;> have h := hb <;> (try simp only [wf_preprocess] at h) <;> simp -implicitDefEqProofs (disch := omega) only [go_sem, hb] <;> (repeat (with_reducible refine And.intro ?_ ?_; focus first | omega | rfl | assumption | exact ⟨_, rfl, rfl⟩ | (simp; omega) | (simp; done)))
  have hB : Bytes x0 := ⟨by omega, b0⟩
  refine call_w (drawLeast_ok hB) ?_
  simp -implicitDefEqProofs (disch := omega) only [go_sem]
  generalize ha : (twoD x0).2 = a at *
  generalize hb : (twoD x0).1 = b at *
  have sa : a.sz ≤ 4194303 := ha ▸ (twoD_sz x0).2
  have sb : b.sz ≤ 4194303 := hb ▸ (twoD_sz x0).1
  have hn : (tnames [] a).length ≤ 1073741824 := by
    have h1 := tnames_len a []
    have h2 := cnt_le a
    simp at h1
    omega
  have e0 : dec (tnames [] a = tnames [] a) = true := dec_true rfl
  refine call_w (implIsGround_ok a (by omega)) ?_
  cases h1 : ground a <;> cases h2 : ground b
  · simp -implicitDefEqProofs (disch := omega) only [go_sem, h1]
    refine call_w (specIsGround_ok a (by omega)) ?_
    simp -implicitDefEqProofs (disch := omega) only [go_sem, h1]
    refine call_w (implTypeNames_ok a (by omega)) ?_
    simp -implicitDefEqProofs (disch := omega) only [go_sem]
    refine call_w (specTypeNames_ok a (by omega)) ?_
    simp -implicitDefEqProofs (disch := omega) only [go_sem]
    refine call_w (equalStrings_ok _ (tnames [] a) hn) ?_
    simp -implicitDefEqProofs (disch := omega) only [go_sem, e0]
    refine ⟨by rfl, ?_⟩
    simp -implicitDefEqProofs (disch := omega) only [go_sem]
    refine call_w (implIsGround_ok a (by omega)) ?_
    simp -implicitDefEqProofs (disch := omega) only [go_sem, h1]
    refine ⟨by rfl, ?_⟩
    simp -implicitDefEqProofs (disch := omega) only [go_sem]
  · simp -implicitDefEqProofs (disch := omega) only [go_sem, h1]
    refine call_w (specIsGround_ok a (by omega)) ?_
    simp -implicitDefEqProofs (disch := omega) only [go_sem, h1]
    refine call_w (implTypeNames_ok a (by omega)) ?_
    simp -implicitDefEqProofs (disch := omega) only [go_sem]
    refine call_w (specTypeNames_ok a (by omega)) ?_
    simp -implicitDefEqProofs (disch := omega) only [go_sem]
    refine call_w (equalStrings_ok _ (tnames [] a) hn) ?_
    simp -implicitDefEqProofs (disch := omega) only [go_sem, e0]
    refine ⟨by rfl, ?_⟩
    simp -implicitDefEqProofs (disch := omega) only [go_sem]
    refine call_w (implIsGround_ok a (by omega)) ?_
    simp -implicitDefEqProofs (disch := omega) only [go_sem, h1]
    refine ⟨by rfl, ?_⟩
    simp -implicitDefEqProofs (disch := omega) only [go_sem]
  · simp -implicitDefEqProofs (disch := omega) only [go_sem, h1]
    refine call_w (specIsGround_ok a (by omega)) ?_
    simp -implicitDefEqProofs (disch := omega) only [go_sem, h1]
    refine call_w (implTypeNames_ok a (by omega)) ?_
    simp -implicitDefEqProofs (disch := omega) only [go_sem]
    refine call_w (specTypeNames_ok a (by omega)) ?_
    simp -implicitDefEqProofs (disch := omega) only [go_sem]
    refine call_w (equalStrings_ok _ (tnames [] a) hn) ?_
    simp -implicitDefEqProofs (disch := omega) only [go_sem, e0]
    refine ⟨by rfl, ?_⟩
    simp -implicitDefEqProofs (disch := omega) only [go_sem]
    refine call_w (implIsGround_ok a (by omega)) ?_
    simp -implicitDefEqProofs (disch := omega) only [go_sem, h1]
    refine call_w (implIsGround_ok b (by omega)) ?_
    simp -implicitDefEqProofs (disch := omega) only [go_sem, h2]
    refine ⟨by rfl, ?_⟩
    simp -implicitDefEqProofs (disch := omega) only [go_sem]
  · simp -implicitDefEqProofs (disch := omega) only [go_sem, h1]
    refine call_w (specIsGround_ok a (by omega)) ?_
    simp -implicitDefEqProofs (disch := omega) only [go_sem, h1]
    refine call_w (implTypeNames_ok a (by omega)) ?_
    simp -implicitDefEqProofs (disch := omega) only [go_sem]
    refine call_w (specTypeNames_ok a (by omega)) ?_
    simp -implicitDefEqProofs (disch := omega) only [go_sem]
    refine call_w (equalStrings_ok _ (tnames [] a) hn) ?_
    simp -implicitDefEqProofs (disch := omega) only [go_sem, e0]
    refine ⟨by rfl, ?_⟩
    simp -implicitDefEqProofs (disch := omega) only [go_sem]
    refine call_w (implIsGround_ok a (by omega)) ?_
    simp -implicitDefEqProofs (disch := omega) only [go_sem, h1]
    refine call_w (implIsGround_ok b (by omega)) ?_
    simp -implicitDefEqProofs (disch := omega) only [go_sem, h2]
    refine call_w (implAtLeast_ok a b sa sb) ?_
    rw [ground_mats h2]
    simp -implicitDefEqProofs (disch := omega) only [go_sem]
    refine call_w (specEqualType_ok a b (by omega)) ?_
    cases h3 : dec (a = b)
    · simp -implicitDefEqProofs (disch := omega) only [go_sem, h3]
      refine ⟨by rfl, ?_⟩
      simp -implicitDefEqProofs (disch := omega) only [go_sem]
    · simp -implicitDefEqProofs (disch := omega) only [go_sem, h3]
      refine ⟨by rfl, ?_⟩
      simp -implicitDefEqProofs (disch := omega) only [go_sem]
end Go.Proofs.Ytceaigchkgifgaa.fnGround

namespace Go.Ab
theorem wt_pos {P : Program} {n : Nat} {t : TypeId} {ds : List D} (h : WT P n t ds) : ∃ m, n = m + 1 := by
  cases n with
  | zero => exact h.elim
  | succ m => exact ⟨m, rfl⟩
theorem wt_int {P : Program} {n : Nat} {t : TypeId} {k : IntKind} {ds : List D} (ht : P.underlying t = some (.int k)) (h : WT P n t ds) : ∃ x, ds = [.i k x] ∧ (Lit.int k x).wf = true := by
  obtain ⟨m, rfl⟩ := wt_pos h
  simp only [WT, ht] at h; exact h
theorem wt_slice {P : Program} {n : Nat} {t e : TypeId} {ds : List D} (ht : P.underlying t = some (.slice e)) (h : WT P n t ds) : ∃ es m, m < n ∧ ds = [.sl es] ∧ ∀ x ∈ es, WT P m e x := by
  obtain ⟨m, rfl⟩ := wt_pos h
  simp only [WT, ht] at h
  obtain ⟨es, h1, _, h2⟩ := h
  exact ⟨es, m, by omega, h1, fun x hx => (h2 x hx).2⟩
theorem wtf_fit {P : Program} {W : TypeId → List D → Prop} (hW : ∀ t ds, W t ds → FitL ds) : ∀ (fs : List Field) (ds : List D), WTF P W fs ds → FitL ds
  | [], ds, h => by
    have h : ds = [] := h
    rw [h]; exact fitL_nil
  | f :: fs, ds, h => by
    obtain ⟨a, b, rfl, _, h1, h2⟩ := h
    exact fitL_append.2 ⟨hW _ _ h1, wtf_fit hW fs b h2⟩
theorem wt_fit {P : Program} : ∀ (n : Nat) (t : TypeId) (ds : List D), WT P n t ds → FitL ds
  | 0, t, ds, h => h.elim
  | n + 1, t, ds, h => by
    simp only [WT] at h
    split at h
    · obtain ⟨b, rfl⟩ := h; exact fitL_cons.2 ⟨.b _, fitL_nil⟩
    · obtain ⟨b, rfl, _⟩ := h; exact fitL_cons.2 ⟨.i _ _, fitL_nil⟩
    · obtain ⟨l, rfl, hl⟩ := h; exact fitL_cons.2 ⟨.s _ hl, fitL_nil⟩
    · obtain ⟨es, rfl, hl, hh⟩ := h
      exact fitL_cons.2 ⟨.sl _ hl fun e he d hd => wt_fit n _ e (hh e he).2 d hd, fitL_nil⟩
    · exact wtf_fit (wt_fit n) _ _ h
    · exact h.elim
end Go.Ab
namespace Go.Proofs.Ytceaigchkgifgaa
open Go Go.Ab
end Go.Proofs.Ytceaigchkgifgaa

