/-
  SEVERAL TEXTS IN ONE (merged by program): contracts and models, each with its own heading.
-/
import Derived.Test.YtceaigchkgifgaaPartQpC
import Derived.WalkKit
import Derived.ProofKit
import Derived.Lib.AppendZeros
import Derived.Laws.Cover3
set_option linter.unusedSimpArgs false
set_option linter.unusedVariables false
set_option maxRecDepth 4000
namespace Go.Proofs.Ytceaigchkgifgaa
open Go Go.Ab
theorem implMatch_all : ∀ n : Nat, (∀ p : MType, SizeOf.sizeOf p < n → ∀ (t : MType) (s : List MBinding) (l j : Nat) (S : Store), getO S (l, j) = some (.tok 4 (s.map MBinding.enc)) → p.sz ≤ 4194304 → t.sz ≤ 4194304 → Small s → s.length + p.cnt ≤ 1073741824 →
      ACall Try.prog 126 [.c (.tsl (l, j) (s.map MBinding.enc)), p.v, t.v] S (fun r S' => r = matR (l, j) (matchT s p t) ∧ S' = matS (l, j) S (matchT s p t))) ∧
    (∀ ps : List MType, SizeOf.sizeOf ps < n → ∀ (ts : List MType) (s : List MBinding) (l j : Nat) (S : Store), getO S (l, j) = some (.tok 4 (s.map MBinding.enc)) → ps.length + szRows (ps.map MType.enc) ≤ 4194304 → ts.length + szRows (ts.map MType.enc) ≤ 4194304 → Small s → s.length + MType.cnts ps ≤ 1073741824 →
      ACall Try.prog 101 [.c (.tsl (l, j) (s.map MBinding.enc)), .c (.d (.sl (ps.map MType.enc))), .c (.d (.sl (ts.map MType.enc)))] S (fun r S' => r = matR (l, j) (matchAll s ps ts) ∧ S' = matS (l, j) S (matchAll s ps ts)))
  | 0 => ⟨fun x h => by omega, fun x h => by omega⟩
  | n + 1 => by
    obtain ⟨ih, ihS⟩ := implMatch_all n
    refine ⟨fun p hn t s l j S hk hp ht hs hc => matP_det ?_, fun ps hn ts s l j S hk hp ht hs hc => matP_det ?_⟩
    · have lArgs := MType.lt_Args p
      have hcnt := MType.cnt_eq p
      have hp' := hp
      have ht' := ht
      simp only [MType.sz, MType.enc_eq, szRow, szRow_append, D.sz, List.length_map] at hp' ht'
      refine acall_cw (rs := [.tmp 6, .tmp 7]) Try.checked.mixed Try.func126 Try.ntmps126 rfl rfl rfl rfl rfl ?_
      simp -implicitDefEqProofs (disch := omega) only [go_sem, hk]
      with_reducible refine split2 (fun hb => ?_) (fun hb => ?_) <;> have h := hb <;> (try simp only [wf_preprocess] at h) <;> simp -implicitDefEqProofs (disch := omega) only [go_sem, hb, hk] <;> (repeat (with_reducible refine And.intro ?_ ?_; focus first | omega | rfl | assumption | exact ⟨_, rfl, rfl⟩ | (simp; omega) | (simp; done)))
      · refine call_w (implLookup_ok s p.fName hs (by omega)) ?_
        cases hl : lookupB s p.fName with
        | none =>
          have hm : matchT s p t = some (s ++ [⟨p.fName, t⟩]) := by rw [matchT_eq, if_pos h, hl]
          rw [hm]
          simp -implicitDefEqProofs (disch := omega) only [go_sem, lookR_none]
          refine call_w (copyType_ok t ht) ?_
          simp -implicitDefEqProofs (disch := omega) only [go_sem] <;> (repeat (with_reducible refine And.intro ?_ ?_; focus first | omega | rfl | assumption | exact ⟨_, rfl, rfl⟩ | (simp; omega) | (simp; done)))
          simp -implicitDefEqProofs (disch := omega) only [go_sem, hk]
          (repeat (with_reducible refine And.intro ?_ ?_; focus first | omega | rfl | assumption | exact ⟨_, rfl, rfl⟩ | (simp; omega) | (simp; done)))
          simp [matP, MBinding.enc_eq, MType.enc_eq]
        | some u =>
          have hm : matchT s p t = if dec (u = t) = true then some s else none := by rw [matchT_eq, if_pos h, hl]
          have hu : u.sz ≤ 4194304 := by
            obtain ⟨b, hb, e⟩ := lookup_mem hl
            rw [← e]; exact hs b hb
          rw [hm]
          simp -implicitDefEqProofs (disch := omega) only [go_sem, lookR_some]
          refine call_w (implEqualType_ok u t hu) ?_
          cases hd : dec (u = t) with
          | true =>
            simp -implicitDefEqProofs (disch := omega) only [go_sem]
            simp only [matP, if_true]
            exact ⟨trivial, (setO_self _ _ hk).symm⟩
          | false =>
            simp -implicitDefEqProofs (disch := omega) only [go_sem]
            simp only [matP, Bool.false_eq_true, if_false]
            exact ⟨⟨_, rfl⟩, trivial⟩
      · have hm : ¬ (p.fKind = t.fKind ∧ p.fName = t.fName ∧ p.fArgs.length = t.fArgs.length) → matchT s p t = none := fun x => by rw [matchT_eq, if_neg h, if_neg x]
        have hm2 : (p.fKind = t.fKind ∧ p.fName = t.fName ∧ p.fArgs.length = t.fArgs.length) → matchT s p t = matchL s p.fArgs t.fArgs := fun x => by rw [matchT_eq, if_neg h, if_pos x]
        have h0 := h
        with_reducible refine split2 (fun hb => ?_) (fun hb => ?_) <;> have h := hb <;> (try simp only [wf_preprocess] at h) <;> simp -implicitDefEqProofs (disch := omega) only [go_sem, hb, hk] <;> (repeat (with_reducible refine And.intro ?_ ?_; focus first | omega | rfl | assumption | exact ⟨_, rfl, rfl⟩ | (simp; omega) | (simp; done)))
        · rw [hm (by omega)]
          exact ⟨⟨_, rfl⟩, rfl⟩
        have h1 := h
        with_reducible refine split2 (fun hb => ?_) (fun hb => ?_) <;> have h := hb <;> (try simp only [wf_preprocess] at h) <;> simp -implicitDefEqProofs (disch := omega) only [go_sem, hb, hk] <;> (repeat (with_reducible refine And.intro ?_ ?_; focus first | omega | rfl | assumption | exact ⟨_, rfl, rfl⟩ | (simp; omega) | (simp; done)))
        · rw [hm (fun x => h x.2.1)]
          exact ⟨⟨_, rfl⟩, rfl⟩
        have h2 := h
        have hm3 : matchT s p t = matchAll s p.fArgs t.fArgs := by
          unfold matchAll
          by_cases e : p.fArgs.length = t.fArgs.length
          · rw [if_pos e]; exact hm2 ⟨by omega, h2, e⟩
          · rw [if_neg e]; exact hm (fun x => e x.2.2)
        rw [hm3]
        refine call_d rfl (ihS p.fArgs (by omega) t.fArgs s (1 + l) j _ (by rw [getO_up1]; exact hk) (by omega) (by omega) hs (by omega)) ?_
        cases hL : matchAll s p.fArgs t.fArgs with
        | none =>
          simp -implicitDefEqProofs (disch := omega) only [go_sem, matR_none, matS_none]
          exact ⟨⟨_, rfl⟩, setO_twice _ _⟩
        | some s1 =>
          simp -implicitDefEqProofs (disch := omega) only [go_sem, matR_some, matS_some]
          exact ⟨rfl, rfl⟩
    · refine acall_cw (rs := [.tmp 6, .tmp 7]) Try.checked.mixed Try.func101 Try.ntmps101 rfl rfl rfl rfl rfl ?_
      simp -implicitDefEqProofs (disch := omega) only [go_sem, hk]
      with_reducible refine split2 (fun hb => ?_) (fun hb => ?_) <;> have h := hb <;> (try simp only [wf_preprocess] at h) <;> simp -implicitDefEqProofs (disch := omega) only [go_sem, hb, hk] <;> (repeat (with_reducible refine And.intro ?_ ?_; focus first | omega | rfl | assumption | exact ⟨_, rfl, rfl⟩ | (simp; omega) | (simp; done)))
      · have hm : matchAll s ps ts = none := if_neg (by omega)
        rw [hm]
        exact ⟨⟨_, rfl⟩, rfl⟩
      have hl : ps.length = ts.length := by omega
      have hm0 : matchAll s ps ts = matchL s ps ts := if_pos hl
      rw [hm0]
      refine loop_at (ι := Nat × List MBinding) Try.checked.mixed rfl [0, 1, 2, 17, 18] (fun y => [.c (.tsl (1 + l, j) (y.2.map MBinding.enc)), .c (.d (.sl (ps.map MType.enc))), .c (.d (.sl (ts.map MType.enc))), .c (.d (.i .i64 ps.length)), .c (.d (.i .i64 y.1))]) (fun y => [] :: setO S (l, j) (.tok 4 (y.2.map MBinding.enc)))
        (fun y => y.1 ≤ ps.length ∧ Small y.2 ∧ y.2.length + MType.cnts (ps.drop y.1) ≤ 1073741824 ∧ matchL y.2 (ps.drop y.1) (ts.drop y.1) = matchL s ps ts) (fun y => ps.length - y.1) (0, s) rfl (by rw [setO_self _ _ hk]) ⟨Nat.zero_le _, hs, hc, rfl⟩ ?_
      rintro ⟨i, cur⟩ ⟨p1, p2, p3, p4⟩
      simp only at p1 p2 p3 p4
      simp -implicitDefEqProofs (disch := omega) only [go_sem]
      with_reducible refine split2 (fun hb => ?_) (fun hb => ?_) <;> have h := hb <;> (try simp only [wf_preprocess] at h) <;> simp -implicitDefEqProofs (disch := omega) only [go_sem, hb] <;> (repeat (with_reducible refine And.intro ?_ ?_; focus first | omega | rfl | assumption | exact ⟨_, rfl, rfl⟩ | (simp; omega) | (simp; done)))
      · have hi : i < ps.length := by omega
        have hi' : i < ts.length := by omega
        have hx : ps[i].sz ≤ szRows (ps.map MType.enc) := szRows_mem (List.mem_map_of_mem (List.getElem_mem hi))
        have hy : ts[i].sz ≤ szRows (ts.map MType.enc) := szRows_mem (List.mem_map_of_mem (List.getElem_mem hi'))
        rw [List.drop_eq_getElem_cons hi, MType.cnts] at p3
        have p5 := matchL_drop hi hi' _ p4
        (repeat (with_reducible refine And.intro ?_ ?_; focus first | omega | rfl | assumption | exact ⟨_, rfl, rfl⟩ | (simp; omega) | (simp; done)))
        refine call_d rfl (ih ps[i] (by have := List.sizeOf_lt_of_mem (List.getElem_mem hi); omega) ts[i] cur (1 + l) j _ (by rw [getO_up1]; exact getO_setO_eq _ _ _ _ hk) (by omega) (by omega) p2 (by omega)) ?_
        cases hm : matchT cur ps[i] ts[i] with
        | none =>
          rw [hm] at p5
          simp -implicitDefEqProofs (disch := omega) only [go_sem, matR_none, matS_none, setO_twice]
          rw [← p5]
          exact ⟨⟨_, rfl⟩, setO_twice _ _⟩
        | some nx =>
          rw [hm] at p5
          have hlen := matchT_len _ _ _ _ hm
          simp -implicitDefEqProofs (disch := omega) only [go_sem, matR_some, matS_some, setO_twice]
          exact inv_at (i + 1, nx) (by simp only; omega) rfl rfl ⟨by simp only; omega, matchT_small _ _ _ _ (by omega) p2 hm, by simp only; omega, p5⟩
      · have hi : i = ps.length := by omega
        have hi' : i = ts.length := by omega
        have hr : matchL s ps ts = some cur := by
          rw [← p4, List.drop_of_length_le (by omega), matchL]
        rw [hr]
        exact ⟨rfl, rfl⟩
theorem implMatchL_ok {ps ts : List MType} {s : List MBinding} {l j : Nat} {S : Store} (hk : getO S (l, j) = some (.tok 4 (s.map MBinding.enc))) (hp : ps.length + szRows (ps.map MType.enc) ≤ 4194304) (ht : ts.length + szRows (ts.map MType.enc) ≤ 4194304)
    (hs : Small s) (hc : s.length + MType.cnts ps ≤ 1073741824) : ACall Try.prog 101 [.c (.tsl (l, j) (s.map MBinding.enc)), .c (.d (.sl (ps.map MType.enc))), .c (.d (.sl (ts.map MType.enc)))] S (fun r S' => r = matR (l, j) (matchAll s ps ts) ∧ S' = matS (l, j) S (matchAll s ps ts)) :=
  (implMatch_all _).2 ps (Nat.lt_succ_self _) ts s l j S hk hp ht hs hc
theorem implMatchL0 {ps ts : List MType} {S : Store} (hp : ps.length + szRows (ps.map MType.enc) ≤ 4194304) (ht : ts.length + szRows (ts.map MType.enc) ≤ 4194304) :
    ACall Try.prog 101 [.c (.fsl []), .c (.d (.sl (ps.map MType.enc))), .c (.d (.sl (ts.map MType.enc)))] S (fun r S' => r = matO (matchAll [] ps ts) ∧ S' = S) := by
  have hc := cnts_le ps
  refine ACall.tok0 0 (es := []) (esz := 4) rfl (by simp) (implMatchL_ok (s := []) (l := 0) (j := 0) (S := [.tok 4 []] :: S) rfl hp ht small_nil (by simp; omega)) ?_
  rintro r fr S' ⟨h1, h2⟩
  cases hm : matchAll [] ps ts with
  | none =>
    rw [hm] at h1 h2
    subst h1
    injection h2 with h2 h3
    exact ⟨_, rfl, rfl, h3⟩
  | some s =>
    rw [hm] at h1 h2
    subst h1
    injection h2 with h2 h3
    exact ⟨_, rfl, rfl, h3⟩
theorem implMatch_ok (p t : MType) (hp : p.sz ≤ 4194303) (ht : t.sz ≤ 4194303) : PCall Try.prog 64 [p.v, t.v] (matO (matchAll [] [p] [t])) := fun S => by
  refine acall_cw (rs := [.tmp 4, .tmp 5]) Try.checked.mixed Try.func64 Try.ntmps64 rfl rfl rfl rfl rfl ?_
  simp -implicitDefEqProofs (disch := omega) only [go_sem]
  (repeat (with_reducible refine And.intro ?_ ?_; focus first | omega | rfl | assumption | exact ⟨_, rfl, rfl⟩ | (simp; omega) | (simp; done)))
  have h0 := fun S => implMatchL0 (ps := [p]) (ts := [t]) (S := S) (by simp [szRows, MType.sz_def, szRow]; omega) (by simp [szRows, MType.sz_def, szRow]; omega)
  simp only [List.map_cons, List.map_nil, MType.enc_eq] at h0
  refine call_m [true] rfl (h0 _) ?_
  cases matchAll [] [p] [t] with
  | none => simp -implicitDefEqProofs (disch := omega) only [go_sem, matO_none]
  | some s => simp -implicitDefEqProofs (disch := omega) only [go_sem, matO_some]
theorem implMatches_ok (p t : MType) (hp : p.sz ≤ 4194303) (ht : t.sz ≤ 4194303) : PCall Try.prog 31 [p.v, t.v] (.c (.d (.b (mats p t)))) := fun S => by
  rw [show mats p t = (matchAll [] [p] [t]).isSome from rfl]
  refine acall_cw (rs := [.tmp 4]) Try.checked.mixed Try.func31 Try.ntmps31 rfl rfl rfl rfl rfl ?_
  simp -implicitDefEqProofs (disch := omega) only [go_sem]
  refine call_w (implMatch_ok p t hp ht) ?_
  cases matchAll [] [p] [t] with
  | none => simp -implicitDefEqProofs (disch := omega) only [go_sem, matO_none]
  | some s => simp -implicitDefEqProofs (disch := omega) only [go_sem, matO_some]
end Go.Proofs.Ytceaigchkgifgaa

namespace Go.Proofs.Ytceaigchkgifgaa
open Go Go.Ab
theorem specAtLeast_ok (a b : MType) (ha : a.sz ≤ 4194303) (hb : b.sz ≤ 4194303) : PCall Try.prog 10 [a.v, b.v] (.c (.d (.b (mats b a)))) := fun S => by
  refine acall_cw (rs := [.tmp 4]) Try.checked.mixed Try.func10 Try.ntmps10 rfl rfl rfl rfl rfl ?_
  simp -implicitDefEqProofs (disch := omega) only [go_sem]
  refine call_w (specMatches_ok b a hb ha) ?_
  simp -implicitDefEqProofs (disch := omega) only [go_sem] <;> (repeat (with_reducible refine And.intro ?_ ?_; focus first | omega | rfl | assumption | exact ⟨_, rfl, rfl⟩ | (simp; omega) | (simp; done)))
theorem implAtLeast_ok (a b : MType) (ha : a.sz ≤ 4194303) (hb : b.sz ≤ 4194303) : PCall Try.prog 9 [a.v, b.v] (.c (.d (.b (mats b a)))) := fun S => by
  refine acall_cw (rs := [.tmp 4]) Try.checked.mixed Try.func9 Try.ntmps9 rfl rfl rfl rfl rfl ?_
  simp -implicitDefEqProofs (disch := omega) only [go_sem]
  refine call_w (implMatches_ok b a hb ha) ?_
  simp -implicitDefEqProofs (disch := omega) only [go_sem] <;> (repeat (with_reducible refine And.intro ?_ ?_; focus first | omega | rfl | assumption | exact ⟨_, rfl, rfl⟩ | (simp; omega) | (simp; done)))
theorem specMore_ok (a b : MType) (ha : a.sz ≤ 4194303) (hb : b.sz ≤ 4194303) : PCall Try.prog 12 [a.v, b.v] (.c (.d (.b (mats b a && !mats a b)))) := fun S => by
  refine acall_cw (rs := [.tmp 4]) Try.checked.mixed Try.func12 Try.ntmps12 rfl rfl rfl rfl rfl ?_
  simp -implicitDefEqProofs (disch := omega) only [go_sem]
  refine call_w (specAtLeast_ok a b ha hb) ?_
  simp -implicitDefEqProofs (disch := omega) only [go_sem] <;> (repeat (with_reducible refine And.intro ?_ ?_; focus first | omega | rfl | assumption | exact ⟨_, rfl, rfl⟩ | (simp; omega) | (simp; done)))
  cases h : mats b a with
  | false =>
    simp -implicitDefEqProofs (disch := omega) only [go_sem, h]
    rfl
  | true =>
    simp -implicitDefEqProofs (disch := omega) only [go_sem, h]
    refine call_w (specAtLeast_ok b a hb ha) ?_
    simp -implicitDefEqProofs (disch := omega) only [go_sem] <;> (repeat (with_reducible refine And.intro ?_ ?_; focus first | omega | rfl | assumption | exact ⟨_, rfl, rfl⟩ | (simp; omega) | (simp; done)))
theorem implMore_ok (a b : MType) (ha : a.sz ≤ 4194303) (hb : b.sz ≤ 4194303) : PCall Try.prog 11 [a.v, b.v] (.c (.d (.b (mats b a && !mats a b)))) := fun S => by
  refine acall_cw (rs := [.tmp 4]) Try.checked.mixed Try.func11 Try.ntmps11 rfl rfl rfl rfl rfl ?_
  simp -implicitDefEqProofs (disch := omega) only [go_sem]
  refine call_w (implMatches_ok b a hb ha) ?_
  simp -implicitDefEqProofs (disch := omega) only [go_sem] <;> (repeat (with_reducible refine And.intro ?_ ?_; focus first | omega | rfl | assumption | exact ⟨_, rfl, rfl⟩ | (simp; omega) | (simp; done)))
  cases h : mats b a with
  | false =>
    simp -implicitDefEqProofs (disch := omega) only [go_sem, h]
    rfl
  | true =>
    simp -implicitDefEqProofs (disch := omega) only [go_sem, h]
    refine call_w (implMatches_ok a b ha hb) ?_
    simp -implicitDefEqProofs (disch := omega) only [go_sem] <;> (repeat (with_reducible refine And.intro ?_ ?_; focus first | omega | rfl | assumption | exact ⟨_, rfl, rfl⟩ | (simp; omega) | (simp; done)))
end Go.Proofs.Ytceaigchkgifgaa

namespace Go.Ab
mutual
def subT (σ : List UInt8 → MType) : MType → MType
  | .mk k n a => if k = 1 then σ n else .mk k n (subL σ a)
def subL (σ : List UInt8 → MType) : List MType → List MType
  | [] => []
  | t :: ts => subT σ t :: subL σ ts
end
theorem subL_len (σ : List UInt8 → MType) : ∀ ts, (subL σ ts).length = ts.length
  | [] => rfl
  | t :: ts => by rw [subL, List.length_cons, subL_len σ ts, List.length_cons]
mutual
theorem subT_sub (σ τ : List UInt8 → MType) : ∀ t, subT τ (subT σ t) = subT (fun n => subT τ (σ n)) t
  | .mk k n a => by
    rw [subT, subT]
    by_cases h : k = 1
    · rw [if_pos h, if_pos h]
    · rw [if_neg h, if_neg h, subT, if_neg h, subL_sub σ τ a]
theorem subL_sub (σ τ : List UInt8 → MType) : ∀ ts, subL τ (subL σ ts) = subL (fun n => subT τ (σ n)) ts
  | [] => rfl
  | t :: ts => by rw [subL, subL, subL, subT_sub σ τ t, subL_sub σ τ ts]
end
def Agree (s : List MBinding) (σ : List UInt8 → MType) : Prop := ∀ v u, lookupB s v = some u → σ v = u
theorem lookup_append (b : MBinding) (v : List UInt8) : ∀ s : List MBinding, lookupB (s ++ [b]) v = match lookupB s v with | some u => some u | none => if b.fVar = v then some b.fType else none
  | [] => by
    show lookupB [b] v = if b.fVar = v then some b.fType else none
    rw [lookupB]
    rfl
  | c :: s => by
    rw [List.cons_append, lookupB, lookupB]
    by_cases h : c.fVar = v
    · rw [if_pos h, if_pos h]
    · rw [if_neg h, if_neg h, lookup_append b v s]
mutual
theorem match_sound : ∀ (p : MType) (s : List MBinding) (t : MType) (s' : List MBinding), matchT s p t = some s' → (∀ v u, lookupB s v = some u → lookupB s' v = some u) ∧ ∀ σ, Agree s' σ → subT σ p = t
  | .mk k n a, s, t, s', h => by
    rw [matchT] at h
    split at h
    · rename_i hk
      cases hl : lookupB s n with
      | some u =>
        rw [hl] at h
        simp only at h
        by_cases hd : dec (u = t) = true
        · rw [if_pos hd] at h
          cases h
          refine ⟨fun v u h => h, fun σ ha => ?_⟩
          rw [subT, if_pos hk, ha n u hl]
          exact of_dec hd
        · rw [if_neg hd] at h; cases h
      | none =>
        rw [hl] at h
        simp only at h
        cases h
        refine ⟨fun v u h => by rw [lookup_append, h], fun σ ha => ?_⟩
        rw [subT, if_pos hk]
        exact ha n t (by rw [lookup_append, hl]; simp)
    · rename_i hk
      split at h
      · rename_i hc
        obtain ⟨h1, h2⟩ := matchL_sound a s t.fArgs s' h hc.2.2
        refine ⟨h1, fun σ ha => ?_⟩
        rw [subT, if_neg hk, h2 σ ha, hc.1, hc.2.1]
        exact MType.eta t
      · cases h
theorem matchL_sound : ∀ (ps : List MType) (s : List MBinding) (ts : List MType) (s' : List MBinding), matchL s ps ts = some s' → ps.length = ts.length → (∀ v u, lookupB s v = some u → lookupB s' v = some u) ∧ ∀ σ, Agree s' σ → subL σ ps = ts
  | [], s, ts, s', h, hl => by
    rw [matchL] at h; cases h
    refine ⟨fun v u h => h, fun σ ha => ?_⟩
    cases ts with
    | nil => rfl
    | cons t ts => simp at hl
  | p :: ps, s, [], s', h, hl => by rw [matchL] at h; cases h
  | p :: ps, s, t :: ts, s', h, hl => by
    rw [matchL] at h
    cases hm : matchT s p t with
    | none => rw [hm] at h; cases h
    | some s1 =>
      rw [hm] at h
      obtain ⟨a1, a2⟩ := match_sound p s t s1 hm
      obtain ⟨b1, b2⟩ := matchL_sound ps s1 ts s' h (by simpa using hl)
      refine ⟨fun v u h => b1 v u (a1 v u h), fun σ ha => ?_⟩
      rw [subL, a2 σ (fun v u h => ha v u (b1 v u h)), b2 σ ha]
end
mutual
theorem match_complete (σ : List UInt8 → MType) : ∀ (p : MType) (s : List MBinding), Agree s σ → ∃ s', matchT s p (subT σ p) = some s' ∧ Agree s' σ
  | .mk k n a, s, ha => by
    rw [subT]
    by_cases hk : k = 1
    · rw [if_pos hk, matchT, if_pos hk]
      cases hl : lookupB s n with
      | some u =>
        have e := ha n u hl
        simp only
        rw [if_pos (dec_true e.symm)]
        exact ⟨s, rfl, ha⟩
      | none =>
        refine ⟨_, rfl, fun v u h => ?_⟩
        rw [lookup_append] at h
        cases hv : lookupB s v with
        | some u' => rw [hv] at h; cases h; exact ha v _ hv
        | none =>
          rw [hv] at h
          simp only at h
          split at h
          · rename_i e; cases h; rw [← e]
          · cases h
    · rw [if_neg hk, matchT, if_neg hk]
      rw [if_pos ⟨rfl, rfl, (subL_len σ a).symm⟩]
      exact matchL_complete σ a s ha
theorem matchL_complete (σ : List UInt8 → MType) : ∀ (ps : List MType) (s : List MBinding), Agree s σ → ∃ s', matchL s ps (subL σ ps) = some s' ∧ Agree s' σ
  | [], s, ha => ⟨s, by rw [subL, matchL], ha⟩
  | p :: ps, s, ha => by
    obtain ⟨s1, h1, a1⟩ := match_complete σ p s ha
    obtain ⟨s2, h2, a2⟩ := matchL_complete σ ps s1 a1
    exact ⟨s2, by rw [subL, matchL, h1]; exact h2, a2⟩
end
theorem mats_iff (p t : MType) : mats p t = true ↔ ∃ σ, subT σ p = t := by
  unfold mats matchAll
  rw [if_pos (by simp)]
  constructor
  · intro h
    cases hm : matchL [] [p] [t] with
    | none => rw [hm] at h; cases h
    | some s =>
      obtain ⟨_, h2⟩ := matchL_sound _ _ _ _ hm (by simp)
      have := h2 (fun v => (lookupB s v).getD t) (fun v u hv => by simp only [hv]; rfl)
      rw [subL, subL] at this
      exact ⟨_, by injection this⟩
  · rintro ⟨σ, rfl⟩
    obtain ⟨s, h, _⟩ := matchL_complete σ [p] [] (fun v u h => by cases h)
    rw [subL, subL] at h
    rw [h]; rfl
theorem mats_trans {a b c : MType} (h1 : mats b a = true) (h2 : mats a c = true) : mats b c = true := by
  obtain ⟨σ, rfl⟩ := (mats_iff _ _).1 h1
  obtain ⟨τ, rfl⟩ := (mats_iff _ _).1 h2
  exact (mats_iff _ _).2 ⟨fun n => subT τ (σ n), (subT_sub σ τ b).symm⟩
end Go.Ab

namespace Go.Ab
theorem list_bytes {es : List (List D)} (h : ∀ y ∈ es, ∃ x, y = [.i .u8 x] ∧ (Lit.int .u8 x).wf = true) : ∃ xs : List Int, es = xs.map encB ∧ ∀ x ∈ xs, 0 ≤ x ∧ x ≤ 255 := by
  induction es with
  | nil => exact ⟨[], rfl, fun x h => by cases h⟩
  | cons y es ih =>
    obtain ⟨x, rfl, hx⟩ := h y List.mem_cons_self
    obtain ⟨xs, rfl, hxs⟩ := ih fun z hz => h z (List.mem_cons_of_mem _ hz)
    refine ⟨x :: xs, rfl, fun z hz => ?_⟩
    rcases List.mem_cons.1 hz with rfl | hz
    · have h1 : IntKind.u8.min = 0 := by decide
      have h2 : IntKind.u8.max = 255 := by decide
      simp only [Lit.wf, Bool.and_eq_true, decide_eq_true_eq, h1, h2] at hx
      exact hx
    · exact hxs z hz
end Go.Ab
namespace Go.Proofs.Ytceaigchkgifgaa
open Go Go.Ab
theorem big_ok (bs : List Int) : PCall Try.prog 6 [.c (.d (.sl (bs.map encB)))] (.c (.d (.b (decide (1048576 < (bs.length : Int)))))) := fun S => by
  refine acall_cw (rs := [.tmp 2]) Try.checked.mixed Try.func6 Try.ntmps6 rfl rfl rfl rfl rfl ?_
  simp -implicitDefEqProofs (disch := omega) only [go_sem]
theorem tail_ok (bs : List Int) : PCall Try.prog 8 [.c (.d (.sl (bs.map encB)))] (.c (.d (.sl (bs.tail.map encB)))) := fun S => by
  refine acall_cw (rs := [.tmp 2]) Try.checked.mixed Try.func8 Try.ntmps8 rfl rfl rfl rfl rfl ?_
  cases bs with
  | nil =>
    have d0 : decide (((0 : Nat) : Int) = 0) = true := rfl
    simp -implicitDefEqProofs (disch := omega) only [go_sem, d0]
    rfl
  | cons b r =>
    have d0 : decide (((r.length + 1 : Nat) : Int) = 0) = false := decide_eq_false (by omega)
    simp -implicitDefEqProofs (disch := omega) only [go_sem, d0]
    have h1 : ∀ y ∈ encB b :: r.map encB, y.length = 1 := by
      intro y hy
      rcases List.mem_cons.1 hy with rfl | hy
      · rfl
      · obtain ⟨z, _, rfl⟩ := List.mem_map.1 hy
        rfl
    refine ⟨⟨by omega, by omega, h1⟩, ?_⟩
    rw [List.take_of_length_le (by simp)]
    rfl
end Go.Proofs.Ytceaigchkgifgaa
namespace Go.Proofs.Ytceaigchkgifgaa.fnSpecial
open Go Go.Ab
theorem law (x0 : List Int) (b0 : ∀ x ∈ x0, 0 ≤ x ∧ x ≤ 255) : ACall Try.prog 3 [.c (.d (.sl (x0.map encB)))] [] (fun r _ => r = .c (.d (.b true))) := by
  refine acall_cwm (rs := [.tmp 2]) Try.checked.mixed Try.func3 Try.ntmps3 rfl rfl rfl rfl rfl ?_
  simp -implicitDefEqProofs (disch := omega) only [go_sem]
  refine call_w (big_ok x0) ?_
  simp -implicitDefEqProofs (disch := omega) only [go_sem]
  with_reducible refine split2 (fun hb => ?_) (fun hb => ?_) <;> have h := hb <;> (try simp only [wf_preprocess] at h) <;> simp -implicitDefEqProofs (disch := omega) only [go_sem, hb] <;> (repeat (with_reducible refine And.intro ?_ ?_; focus first | omega | rfl | assumption | exact ⟨_, rfl, rfl⟩ | (simp; omega) | (simp; done)))
  have hB : Bytes x0 := ⟨by omega, b0⟩
  refine call_w (drawLeast_ok hB) ?_
  simp -implicitDefEqProofs (disch := omega) only [go_sem]
  refine call_w (tail_ok x0) ?_
  simp -implicitDefEqProofs (disch := omega) only [go_sem]
  refine call_w (drawLeast_ok hB.tail) ?_
  simp -implicitDefEqProofs (disch := omega) only [go_sem]
  generalize ha : (twoD x0).2 = a at *
  generalize hb : (twoD x0).1 = b at *
  generalize hd : (twoD x0.tail).2 = d at *
  have sa : a.sz ≤ 4194303 := ha ▸ (twoD_sz x0).2
  have sb : b.sz ≤ 4194303 := hb ▸ (twoD_sz x0).1
  have sd : d.sz ≤ 4194303 := hd ▸ (twoD_sz x0.tail).2
  cases h1 : mats b a <;> cases h2 : mats a b
  · refine call_w (implAtLeast_ok a b sa sb) ?_
    simp -implicitDefEqProofs (disch := omega) only [go_sem, h1]
    refine call_w (specAtLeast_ok a b sa sb) ?_
    simp -implicitDefEqProofs (disch := omega) only [go_sem, h1]
    refine call_w (implMore_ok a b sa sb) ?_
    simp -implicitDefEqProofs (disch := omega) only [go_sem, h1, h2, Bool.and_self, Bool.and_false, Bool.and_true]
    refine call_w (specMore_ok a b sa sb) ?_
    simp -implicitDefEqProofs (disch := omega) only [go_sem, h1, h2, Bool.and_self, Bool.and_false, Bool.and_true]
    refine call_w (implMore_ok a b sa sb) ?_
    simp -implicitDefEqProofs (disch := omega) only [go_sem, h1, h2, Bool.and_self, Bool.and_false, Bool.and_true]
    refine ⟨by rfl, ?_⟩
    simp -implicitDefEqProofs (disch := omega) only [go_sem]
    refine call_w (implAtLeast_ok d a sd sa) ?_
    cases h3 : mats a d
    · simp -implicitDefEqProofs (disch := omega) only [go_sem, h3]
    · simp -implicitDefEqProofs (disch := omega) only [go_sem, h3]
      refine call_w (implAtLeast_ok a b sa sb) ?_
      simp -implicitDefEqProofs (disch := omega) only [go_sem, h1]
  · refine call_w (implAtLeast_ok a b sa sb) ?_
    simp -implicitDefEqProofs (disch := omega) only [go_sem, h1]
    refine call_w (specAtLeast_ok a b sa sb) ?_
    simp -implicitDefEqProofs (disch := omega) only [go_sem, h1]
    refine call_w (implMore_ok a b sa sb) ?_
    simp -implicitDefEqProofs (disch := omega) only [go_sem, h1, h2, Bool.and_self, Bool.and_false, Bool.and_true]
    refine call_w (specMore_ok a b sa sb) ?_
    simp -implicitDefEqProofs (disch := omega) only [go_sem, h1, h2, Bool.and_self, Bool.and_false, Bool.and_true]
    refine call_w (implMore_ok a b sa sb) ?_
    simp -implicitDefEqProofs (disch := omega) only [go_sem, h1, h2, Bool.and_self, Bool.and_false, Bool.and_true]
    refine ⟨by rfl, ?_⟩
    simp -implicitDefEqProofs (disch := omega) only [go_sem]
    refine call_w (implAtLeast_ok d a sd sa) ?_
    cases h3 : mats a d
    · simp -implicitDefEqProofs (disch := omega) only [go_sem, h3]
    · simp -implicitDefEqProofs (disch := omega) only [go_sem, h3]
      refine call_w (implAtLeast_ok a b sa sb) ?_
      simp -implicitDefEqProofs (disch := omega) only [go_sem, h1]
  · refine call_w (implAtLeast_ok a b sa sb) ?_
    simp -implicitDefEqProofs (disch := omega) only [go_sem, h1]
    refine call_w (specAtLeast_ok a b sa sb) ?_
    simp -implicitDefEqProofs (disch := omega) only [go_sem, h1]
    refine call_w (implMore_ok a b sa sb) ?_
    simp -implicitDefEqProofs (disch := omega) only [go_sem, h1, h2, Bool.and_self, Bool.and_false, Bool.and_true]
    refine call_w (specMore_ok a b sa sb) ?_
    simp -implicitDefEqProofs (disch := omega) only [go_sem, h1, h2, Bool.and_self, Bool.and_false, Bool.and_true]
    refine call_w (implMore_ok a b sa sb) ?_
    simp -implicitDefEqProofs (disch := omega) only [go_sem, h1, h2, Bool.and_self, Bool.and_false, Bool.and_true]
    refine call_w (implMore_ok b a sb sa) ?_
    simp -implicitDefEqProofs (disch := omega) only [go_sem, h1, h2, Bool.and_self, Bool.and_false, Bool.and_true]
    refine ⟨by rfl, ?_⟩
    simp -implicitDefEqProofs (disch := omega) only [go_sem]
    refine call_w (implAtLeast_ok d a sd sa) ?_
    cases h3 : mats a d
    · simp -implicitDefEqProofs (disch := omega) only [go_sem, h3]
    · simp -implicitDefEqProofs (disch := omega) only [go_sem, h3]
      refine call_w (implAtLeast_ok a b sa sb) ?_
      simp -implicitDefEqProofs (disch := omega) only [go_sem, h1]
      refine call_w (implAtLeast_ok d b sd sb) ?_
      have h4 := mats_trans h1 h3
      simp -implicitDefEqProofs (disch := omega) only [go_sem, h4]
  · refine call_w (implAtLeast_ok a b sa sb) ?_
    simp -implicitDefEqProofs (disch := omega) only [go_sem, h1]
    refine call_w (specAtLeast_ok a b sa sb) ?_
    simp -implicitDefEqProofs (disch := omega) only [go_sem, h1]
    refine call_w (implMore_ok a b sa sb) ?_
    simp -implicitDefEqProofs (disch := omega) only [go_sem, h1, h2, Bool.and_self, Bool.and_false, Bool.and_true]
    refine call_w (specMore_ok a b sa sb) ?_
    simp -implicitDefEqProofs (disch := omega) only [go_sem, h1, h2, Bool.and_self, Bool.and_false, Bool.and_true]
    refine call_w (implMore_ok a b sa sb) ?_
    simp -implicitDefEqProofs (disch := omega) only [go_sem, h1, h2, Bool.and_self, Bool.and_false, Bool.and_true]
    refine ⟨by rfl, ?_⟩
    simp -implicitDefEqProofs (disch := omega) only [go_sem]
    refine call_w (implAtLeast_ok d a sd sa) ?_
    cases h3 : mats a d
    · simp -implicitDefEqProofs (disch := omega) only [go_sem, h3]
    · simp -implicitDefEqProofs (disch := omega) only [go_sem, h3]
      refine call_w (implAtLeast_ok a b sa sb) ?_
      simp -implicitDefEqProofs (disch := omega) only [go_sem, h1]
      refine call_w (implAtLeast_ok d b sd sb) ?_
      have h4 := mats_trans h1 h3
      simp -implicitDefEqProofs (disch := omega) only [go_sem, h4]
end Go.Proofs.Ytceaigchkgifgaa.fnSpecial

namespace Go.Ab
section
variable {w : World} {σ : Nat → Nat}
def dataC : C → Option D
  | .d d => some d
  | .fsl es => some (.sl es)
  | .tsl _ es => some (.sl es)
  | _ => none
theorem dataC_rep {S S' : Store} {β β' : Hs} {c : C} {d : D} {v : Value} (h : dataC c = some d) (hr : RepC w σ S β c v) : RepC w σ S' β' (.d d) v := by
  cases c <;> simp only [dataC, Option.some.injEq] at h <;> first | (cases h; done) | (subst h; first | exact hr | exact hr.1)
theorem plain_cells2 {S S' : Store} {β β' : Hs} {pre : List C} {ds : List D} {x x' y y' : C} {a : List Value} (h1 : pre.map dataC = ds.map some) (hr : RepCs w σ S β (pre ++ [x, y]) a)
    (hx : ∀ v, a[pre.length]? = some v → RepC w σ S β x v → RepC w σ S' β' x' v) (hy : ∀ v, a[pre.length + 1]? = some v → RepC w σ S β y v → RepC w σ S' β' y' v) : RepCs w σ S' β' (ds.map .d ++ [x', y']) a := by
  have hl : pre.length = ds.length := by have := congrArg List.length h1; simpa using this
  refine ⟨by have := hr.1; simp only [List.length_append, List.length_map, List.length_cons, List.length_nil, hl] at this ⊢; exact this, fun j c hc => ?_⟩
  rcases Nat.lt_or_ge j pre.length with hj | hj
  · rw [List.getElem?_append_left (by simp; omega), List.getElem?_map] at hc
    obtain ⟨d, hd, rfl⟩ := Option.map_eq_some_iff.1 hc
    have hp := congrArg (fun l => l[j]?) h1
    simp only [List.getElem?_map, hd, Option.map_some, List.getElem?_eq_getElem hj] at hp
    obtain ⟨v, e1, e2, e3⟩ := hr.2 j pre[j] (by rw [List.getElem?_append_left hj, List.getElem?_eq_getElem hj])
    exact ⟨v, e1, dataC_rep (Option.some.inj hp) e2, e3⟩
  obtain ⟨k, rfl⟩ : ∃ k, j = pre.length + k := ⟨j - pre.length, by omega⟩
  rw [List.getElem?_append_right (by simp; omega), List.length_map, ← hl, Nat.add_sub_cancel_left] at hc
  match k, hc with
  | 0, hc =>
    cases hc
    obtain ⟨v, e1, e2, e3⟩ := hr.2 pre.length x (by rw [List.getElem?_append_right (Nat.le_refl _), Nat.sub_self]; rfl)
    exact ⟨v, e1, hx v e1 e2, e3⟩
  | 1, hc =>
    cases hc
    obtain ⟨v, e1, e2, e3⟩ := hr.2 (pre.length + 1) y (by rw [List.getElem?_append_right (by omega), Nat.add_sub_cancel_left]; rfl)
    exact ⟨v, e1, hy v e1 e2, e3⟩
  | k + 2, hc => simp at hc
end
section
variable {P : Program} {S S' : Store} {f : FuncId} {args : List V}
def Two (ds : List D) (z z' : Nat) (es es' : List (List D)) (S' : Store) (r : V) (own : List Obj) (S1 : Store) : Prop := S1 = S' ∧ ∃ pre x y, r = .agg (pre ++ [x, y]) ∧ pre.map dataC = ds.map some ∧ SlOf own x z es ∧ SlOf own y z' es'
theorem Esc.plain2 {ds : List D} {z z' : Nat} {es es' : List (List D)} (h : Esc P f args S (Two ds z z' es es' S')) :
    ACall P f args S fun r S1 => r = .agg (ds.map .d ++ [.d (.sl es), .d (.sl es')]) ∧ S1 = S' := by
  refine ⟨h.1, fun w σ β vs hS hv => (h.2 w σ β vs hS hv).mono fun e w' ⟨v, r, own, S1, bo, β1, σ', q1, q2, q3, q4, q5, q6, pre, x, y, q7, h1, q8, q9⟩ => ?_⟩
  subst q6 q7
  obtain ⟨a, rfl, hc⟩ := q5
  exact ⟨_, .agg (ds.map .d ++ [.d (.sl es), .d (.sl es')]), S1, σ', β1, q1, q2.down1, q3, ⟨q4.size, q4.os, q4.output, q4.far, q4.near, fun b hb => q4.own b (own_down1 hb)⟩, ⟨a, rfl, plain_cells2 (x' := .d (.sl es)) (y' := .d (.sl es')) h1 hc (fun v e1 e2 => slof_data q8 e2) (fun v e1 e2 => slof_data q9 e2)⟩, rfl, rfl⟩
theorem Esc.push2 {ds : List D} {z z' : Nat} {es es' : List (List D)} (hz : z ≠ z') (ht : hasTop S' = true) (h : Esc P f args S (Two ds z z' es es' S')) :
    ACall P f args S fun r S1 => r = .agg (ds.map .d ++ [.tsl (0, topL S') es, .tsl (0, topL S' + 1) es']) ∧ S1 = pushL S' [.tok z es, .tok z' es'] := by
  refine ⟨h.1, fun w σ β vs hS hv => (h.2 w σ β vs hS hv).mono fun e w' ⟨v, r, own, S1, bo, β1, σ', q1, q2, q3, q4, q5, q6, pre, x, y, q7, h1, q8, q9⟩ => ?_⟩
  subst q6 q7
  obtain ⟨a, rfl, hc⟩ := q5
  obtain ⟨u, e1, e2, e3⟩ := hc.2 pre.length x (by rw [List.getElem?_append_right (Nat.le_refl _), Nat.sub_self]; rfl)
  obtain ⟨u', e1', e2', e3'⟩ := hc.2 (pre.length + 1) y (by rw [List.getElem?_append_right (by omega), Nat.add_sub_cancel_left]; rfl)
  obtain ⟨k1, k2⟩ := slof_tok q2 q8 e2
  obtain ⟨k1', k2'⟩ := slof_tok q2 q9 e2'
  cases S1 with
  | nil => cases ht
  | cons fr Ω =>
  have hd := q2.down1
  obtain ⟨bf, bΩ, rfl, hlen⟩ : ∃ bf bΩ, β1 = bf :: bΩ ∧ bf.length = fr.length := by
    cases β1 with
    | nil => have := hd.shape.1; simp at this
    | cons bf bΩ =>
      refine ⟨bf, bΩ, rfl, ?_⟩
      obtain ⟨gr, q1, q2⟩ := hd.shape.2 0 fr rfl
      simp at q1; rw [q1]; exact q2
  obtain ⟨l1, l2, l3⟩ := hd.lay (o := .tok z es) (h := u) hlen (k1 _ _) fun b hb ⟨k, o, hh, f1, f2, f3⟩ => by
    obtain ⟨m, g1, g2, g3⟩ := k2 b hb
    have := q2.apart (0, m) (k.1 + 1, k.2) _ o u hh b (by rw [getO_zero]; exact g1) (by rw [getO_zero]; exact g3) hb (by rw [getO_succ]; exact f1) (by rw [getO_succ]; exact f2) f3
    cases this
  obtain ⟨l4, l5, l6⟩ := l1.lay (o := .tok z' es') (h := u') (by simp [hlen]) (k1' _ _) fun b hb ⟨k, o, hh, f1, f2, f3⟩ => by
    obtain ⟨m', g1', g2', g3'⟩ := k2' b hb
    rcases l3 b ⟨k, o, hh, f1, f2, f3⟩ with ⟨k, o, hh, f1, f2, f3⟩ | q
    · have := q2.apart (0, m') (k.1 + 1, k.2) _ o u' hh b (by rw [getO_zero]; exact g1') (by rw [getO_zero]; exact g3') hb (by rw [getO_succ]; exact f1) (by rw [getO_succ]; exact f2) f3
      cases this
    · obtain ⟨m, g1, g2, g3⟩ := k2 b q
      have := q2.apart (0, m') (0, m) _ _ u' u b (by rw [getO_zero]; exact g1') (by rw [getO_zero]; exact g3') hb (by rw [getO_zero]; exact g1) (by rw [getO_zero]; exact g3) q
      cases this
      rw [g1] at g1'
      injection g1' with g1'
      injection g1' with g1'
      exact hz g1'
  have el : (fr ++ [Obj.tok z es]).length = fr.length + 1 := by simp
  refine ⟨_, .agg (ds.map .d ++ [.tsl (0, topL (fr :: Ω)) es, .tsl (0, topL (fr :: Ω) + 1) es']), _, σ', _, q1, l4, (q3.trans l2).trans l5, ⟨q4.size, q4.os, q4.output, q4.far, q4.near, fun b hb => ?_⟩, ⟨a, rfl, plain_cells2 h1 hc (fun v f1 f2 => ?_) fun v f1 f2 => ?_⟩, rfl, ?_⟩
  · rcases l6 b hb with q | q
    · rcases l3 b q with q | q
      · exact q4.own b (own_down1 q)
      · obtain ⟨m, g1, g2, g3⟩ := k2 b q
        exact q4.own b ⟨(0, m), _, u, by rw [getO_zero]; exact g1, by rw [getO_zero]; exact g3, q⟩
    · obtain ⟨m, g1, g2, g3⟩ := k2' b q
      exact q4.own b ⟨(0, m), _, u', by rw [getO_zero]; exact g1, by rw [getO_zero]; exact g3, q⟩
  · rw [e1] at f1; cases f1
    refine ⟨slof_data q8 e2, .tok z es, ?_, fun esz es' e => ?_⟩
    · rw [topL_cons, getO_zero, List.getElem?_append_left (by simp), List.getElem?_append_right (Nat.le_refl _), Nat.sub_self]; rfl
    obtain ⟨_, rfl⟩ := istok_of (lab := none) e
    refine ⟨Nat.le_refl _, fun _ => ?_⟩
    rw [topL_cons, getO_zero, ← hlen, List.getElem?_append_left (by simp), List.getElem?_append_right (Nat.le_refl _), Nat.sub_self]; rfl
  · rw [e1'] at f1; cases f1
    refine ⟨slof_data q9 e2', .tok z' es', ?_, fun esz es' e => ?_⟩
    · rw [topL_cons, ← el]; exact getO_push_new _ _ _
    obtain ⟨_, rfl⟩ := istok_of (lab := none) e
    refine ⟨Nat.le_refl _, fun _ => ?_⟩
    rw [topL_cons, ← el, show (fr ++ [Obj.tok z es]).length = (bf ++ [u]).length by simp [hlen]]
    exact getO_push_new _ _ _
  · rw [pushL_cons, List.append_assoc]; rfl
end
end Go.Ab

namespace Go.Proofs.Ytceaigchkgifgaa
open Go Go.Ab
end Go.Proofs.Ytceaigchkgifgaa

namespace Go.Ab
mutual
def MExpr.cnt : MExpr → Nat
  | .mk _ _ _ _ _ a b => 1 + (MExpr.cnts a + MArm.cnts b)
def MExpr.cnts : List MExpr → Nat
  | [] => 0
  | x :: xs => x.cnt + MExpr.cnts xs
def MArm.cnt : MArm → Nat
  | .mk _ _ b => b.cnt
def MArm.cnts : List MArm → Nat
  | [] => 0
  | x :: xs => x.cnt + MArm.cnts xs
end
theorem MExpr.cnt_eq (x : MExpr) : x.cnt = 1 + (MExpr.cnts x.fArgs + MArm.cnts x.fArms) := by cases x; rw [MExpr.cnt]; rfl
theorem MArm.cnt_eq (x : MArm) : x.cnt = x.fBody.cnt := by cases x; rw [MArm.cnt]; rfl
theorem MExpr.cnts_drop {xs : List MExpr} {i : Nat} (hi : i < xs.length) : MExpr.cnts (xs.drop i) = xs[i].cnt + MExpr.cnts (xs.drop (i + 1)) := by rw [List.drop_eq_getElem_cons hi, MExpr.cnts]
theorem MArm.cnts_drop {xs : List MArm} {i : Nat} (hi : i < xs.length) : MArm.cnts (xs.drop i) = xs[i].fBody.cnt + MArm.cnts (xs.drop (i + 1)) := by rw [List.drop_eq_getElem_cons hi, MArm.cnts, MArm.cnt_eq]
theorem MExpr.sz_parts (x : MExpr) : x.fArgs.length + szRows (x.fArgs.map MExpr.enc) ≤ x.sz ∧ x.fArms.length + szRows (x.fArms.map MArm.enc) ≤ x.sz := by
  simp only [MExpr.sz, MExpr.enc_eq, szRow, szRow_append, D.sz, List.length_map]
  omega
theorem MArm.sz_body (x : MArm) : x.fBody.sz ≤ x.sz := by
  simp only [MArm.sz, MArm.enc_eq, MExpr.sz, szRow, szRow_append, D.sz, List.length_map]
  omega
mutual
theorem MExpr.cnt_le : ∀ x : MExpr, x.cnt ≤ 1 + x.sz
  | .mk k t n m ty a b => by
    have h1 := MExpr.cnts_le a
    have h2 := MArm.cnts_le b
    rw [MExpr.cnt]
    simp only [MExpr.sz, MExpr.enc_eq, szRow, szRow_append, D.sz, List.length_map, MExpr.fArgs, MExpr.fArms]
    omega
theorem MExpr.cnts_le : ∀ xs : List MExpr, MExpr.cnts xs ≤ xs.length + szRows (xs.map MExpr.enc)
  | [] => by simp [MExpr.cnts]
  | x :: xs => by
    have h1 := MExpr.cnt_le x
    have h2 := MExpr.cnts_le xs
    rw [MExpr.cnts, List.length_cons, List.map_cons, szRows, MExpr.sz_def]
    omega
theorem MArm.cnt_le : ∀ x : MArm, x.cnt ≤ 1 + x.sz
  | .mk c v b => by
    have h1 := MExpr.cnt_le b
    have h2 := MArm.sz_body (.mk c v b)
    rw [MArm.cnt]
    simp only [MArm.fBody] at h2
    omega
theorem MArm.cnts_le : ∀ xs : List MArm, MArm.cnts xs ≤ xs.length + szRows (xs.map MArm.enc)
  | [] => by simp [MArm.cnts]
  | x :: xs => by
    have h1 := MArm.cnt_le x
    have h2 := MArm.cnts_le xs
    rw [MArm.cnts, List.length_cons, List.map_cons, szRows, MArm.sz_def]
    omega
end
end Go.Ab
namespace Go.Proofs.Ytceaigchkgifgaa
open Go Go.Ab
theorem implExprSize_all : ∀ n : Nat, ∀ x : MExpr, SizeOf.sizeOf x < n → x.sz ≤ 4194304 → PCall Try.prog 28 [x.v] (.c (.d (.i .i64 x.cnt)))
  | 0 => fun x h => by omega
  | n + 1 => by
    have ih := implExprSize_all n
    intro x hn hsz S
    have lArgs := MExpr.lt_Args x
    have lArms := MExpr.lt_Arms x
    have hp := MExpr.sz_parts x
    have hc := MExpr.cnt_le x
    have he := MExpr.cnt_eq x
    refine acall_cw (rs := [.tmp 2]) Try.checked.mixed Try.func28 Try.ntmps28 rfl rfl rfl rfl rfl ?_
    simp -implicitDefEqProofs (disch := omega) only [go_sem]
    refine loop_at (ι := Nat × Nat) Try.checked.mixed rfl [1, 3, 9, 10, 11] (fun y => [.c (.ptr (0, 0) 0), .c (.d (.i .i64 y.2)), .c (.d (.sl (x.fArgs.map MExpr.enc))), .c (.d (.i .i64 x.fArgs.length)), .c (.d (.i .i64 y.1))]) (fun y => [.box (x.enc.map .d)] :: S)
      (fun y => y.1 ≤ x.fArgs.length ∧ x.cnt = y.2 + MExpr.cnts (x.fArgs.drop y.1) + MArm.cnts x.fArms) (fun y => x.fArgs.length - y.1) (0, 1) rfl ?_ ⟨Nat.zero_le _, by simp only [List.drop_zero]; omega⟩ ?_
    · simp -implicitDefEqProofs (disch := omega) only [go_sem]
    rintro ⟨i, c⟩ ⟨p1, p2⟩
    simp only at p1 p2
    simp -implicitDefEqProofs (disch := omega) only [go_sem]
    with_reducible refine split2 (fun hb => ?_) (fun hb => ?_) <;> have h := hb <;> (try simp only [wf_preprocess] at h) <;> simp -implicitDefEqProofs (disch := omega) only [go_sem, hb] <;> (repeat (with_reducible refine And.intro ?_ ?_; focus first | omega | rfl | assumption | exact ⟨_, rfl, rfl⟩ | (simp; omega) | (simp; done)))
    · have hi : i < x.fArgs.length := by omega
      have hx : x.fArgs[i].sz ≤ szRows (x.fArgs.map MExpr.enc) := szRows_mem (List.mem_map_of_mem (List.getElem_mem hi))
      rw [MExpr.cnts_drop hi] at p2
      (repeat (with_reducible refine And.intro ?_ ?_; focus first | omega | rfl | assumption | exact ⟨_, rfl, rfl⟩ | (simp; omega) | (simp; done)))
      refine call_w (ih x.fArgs[i] (by have := List.sizeOf_lt_of_mem (List.getElem_mem hi); omega) (by omega)) ?_
      simp -implicitDefEqProofs (disch := omega) only [go_sem] <;> (repeat (with_reducible refine And.intro ?_ ?_; focus first | omega | rfl | assumption | exact ⟨_, rfl, rfl⟩ | (simp; omega) | (simp; done)))
      rw [show (c : Int) + (x.fArgs[i].cnt : Int) = ((c + x.fArgs[i].cnt : Nat) : Int) by omega]
      exact inv_drop 1 (by decide) (i + 1, c + x.fArgs[i].cnt) (by simp only; omega) rfl rfl rfl rfl ⟨by simp only; omega, by simp only; omega⟩
    have hi : i = x.fArgs.length := by omega
    rw [hi, List.drop_length, MExpr.cnts] at p2
    refine loop_at (ι := Nat × Nat) Try.checked.mixed rfl [3, 21, 22, 23] (fun y => [.c (.d (.i .i64 y.2)), .c (.d (.sl (x.fArms.map MArm.enc))), .c (.d (.i .i64 x.fArms.length)), .c (.d (.i .i64 y.1))]) (fun y => [.box (x.enc.map .d)] :: S)
      (fun y => y.1 ≤ x.fArms.length ∧ x.cnt = y.2 + MArm.cnts (x.fArms.drop y.1)) (fun y => x.fArms.length - y.1) (0, c) rfl ?_ ⟨Nat.zero_le _, by simp only [List.drop_zero]; omega⟩ ?_
    · simp -implicitDefEqProofs (disch := omega) only [go_sem]
    clear p1 p2 hb h hi i
    rintro ⟨i, d⟩ ⟨p1, p2⟩
    simp only at p1 p2
    simp -implicitDefEqProofs (disch := omega) only [go_sem]
    with_reducible refine split2 (fun hb => ?_) (fun hb => ?_) <;> have h := hb <;> (try simp only [wf_preprocess] at h) <;> simp -implicitDefEqProofs (disch := omega) only [go_sem, hb] <;> (repeat (with_reducible refine And.intro ?_ ?_; focus first | omega | rfl | assumption | exact ⟨_, rfl, rfl⟩ | (simp; omega) | (simp; done)))
    · have hi : i < x.fArms.length := by omega
      have hx : x.fArms[i].sz ≤ szRows (x.fArms.map MArm.enc) := szRows_mem (List.mem_map_of_mem (List.getElem_mem hi))
      have hy := MArm.sz_body x.fArms[i]
      have hs := List.sizeOf_lt_of_mem (List.getElem_mem hi)
      have hs' := MArm.lt_Body x.fArms[i]
      rw [MArm.cnts_drop hi] at p2
      (repeat (with_reducible refine And.intro ?_ ?_; focus first | omega | rfl | assumption | exact ⟨_, rfl, rfl⟩ | (simp; omega) | (simp; done)))
      refine call_w (ih x.fArms[i].fBody (by omega) (by omega)) ?_
      simp -implicitDefEqProofs (disch := omega) only [go_sem] <;> (repeat (with_reducible refine And.intro ?_ ?_; focus first | omega | rfl | assumption | exact ⟨_, rfl, rfl⟩ | (simp; omega) | (simp; done)))
      rw [show (d : Int) + (x.fArms[i].fBody.cnt : Int) = ((d + x.fArms[i].fBody.cnt : Nat) : Int) by omega]
      exact inv_drop 1 (by decide) (i + 1, d + x.fArms[i].fBody.cnt) (by simp only; omega) rfl rfl rfl rfl ⟨by simp only; omega, by simp only; omega⟩
    · have hi : i = x.fArms.length := by omega
      rw [hi, List.drop_length, MArm.cnts] at p2
      exact int_eq (by omega)
theorem implExprSize_ok (x : MExpr) (hsz : x.sz ≤ 4194304) : PCall Try.prog 28 [x.v] (.c (.d (.i .i64 x.cnt))) := implExprSize_all _ x (Nat.lt_succ_self _) hsz
end Go.Proofs.Ytceaigchkgifgaa

namespace Go.Ab
def zT : MType := .mk 0 [] []
def intE (n : Int) : MExpr := .mk 1 [] [] n zT [] []
def boolE (n : Int) : MExpr := .mk 2 [] [] n zT [] []
def varE (s : List UInt8) : MExpr := .mk 3 [] s 0 zT [] []
def opE (k : Int) (s : List UInt8) (l : List MExpr) : MExpr := .mk k [] s 0 zT l []
def fgL : List (List UInt8) := [[102], [103]]
def showL : List (List UInt8) := [[115, 104, 111, 119], [97, 100, 100]]
def primL : List (List UInt8) := [[43], [45], [42], [60], [61]]
theorem short_fg : Short8 fgL := by unfold Short8; decide
theorem short_show : Short8 showL := by unfold Short8; decide
theorem short_prim : Short8 primL := by unfold Short8; decide
def aL : List (List UInt8) := [[97]]
theorem short_a : Short8 aL := by unfold Short8; decide
def exprK {bs : List Int} (k : Int) (sub : List (List UInt8) → Cu bs → MExpr × Cu bs) (vars : List (List UInt8)) (c : Cu bs) : MExpr × Cu bs :=
  if k = 1 then (boolE (belowD 2 c).1, (belowD 2 c).2) else
  if (k = 2 ∨ k = 3) ∧ 0 < vars.length then (varE (pickD vars c).1, (pickD vars c).2) else
  if k = 4 then (opE 4 (pickD fgL c).1 [(sub vars (pickD fgL c).2).1], (sub vars (pickD fgL c).2).2) else
  if k = 5 then (.mk 5 (pickD showL c).1 [109] 0 zT [(sub vars (pickD showL c).2).1, (sub vars (sub vars (pickD showL c).2).2).1] [], (sub vars (sub vars (pickD showL c).2).2).2) else
  if k = 6 then (opE 6 [99, 111, 110, 115] [(sub vars c).1, (sub vars (sub vars c).2).1], (sub vars (sub vars c).2).2) else
  if k = 7 then (.mk 7 [] [] 0 zT [(sub vars c).1] [.mk [110, 105, 108] [] (sub vars (sub vars c).2).1, .mk [99, 111, 110, 115] [[104], [116]] (sub (vars ++ [[104], [116]]) (sub vars (sub vars c).2).2).1], (sub (vars ++ [[104], [116]]) (sub vars (sub vars c).2).2).2) else
  if k = 8 then (opE 8 [121] [(sub vars c).1, (sub (vars ++ [[121]]) (sub vars c).2).1], (sub (vars ++ [[121]]) (sub vars c).2).2) else
  if k = 9 then (opE 9 [] [(sub vars c).1, (sub vars (sub vars c).2).1, (sub vars (sub vars (sub vars c).2).2).1], (sub vars (sub vars (sub vars c).2).2).2) else
  if k = 10 then (opE 10 (pickD primL c).1 [(sub vars (pickD primL c).2).1, (sub vars (sub vars (pickD primL c).2).2).1], (sub vars (sub vars (pickD primL c).2).2).2) else
  if k = 11 then (.mk 11 [115, 104, 111, 119] [] 0 zT [(sub vars c).1] [], (sub vars c).2) else
  if k = 12 then (.mk 12 [] [] 0 (tyD aL 1 c).1 [(sub vars (tyD aL 1 c).2).1] [], (sub vars (tyD aL 1 c).2).2) else
  (intE ((belowD 20 c).1 - 5), (belowD 20 c).2)
def exprD {bs : List Int} : Nat → List (List UInt8) → Cu bs → MExpr × Cu bs
  | 0, vars, c => exprK ((belowD 13 c).1.tmod 3) (fun _ c => (intE 0, c)) vars (belowD 13 c).2
  | n + 1, vars, c => exprK (belowD 13 c).1 (exprD n) vars (belowD 13 c).2
theorem Short8.append {a b : List (List UInt8)} (h : Short8 a) (k : Short8 b) : Short8 (a ++ b) := fun s hs => (List.mem_append.1 hs).elim (h s) (k s)
theorem sz_mkE (k : Int) (t s : List UInt8) (n : Int) (ty : MType) (a : List MExpr) (b : List MArm) : (MExpr.mk k t s n ty a b).sz = t.length + s.length + ty.sz + a.length + szRows (a.map MExpr.enc) + b.length + szRows (b.map MArm.enc) := by
  have := MType.sz_def ty
  simp only [MExpr.sz, MExpr.enc_eq, szRow, szRow_append, D.sz, List.length_map, MExpr.fKind, MExpr.fTrait, MExpr.fName, MExpr.fN, MExpr.fType, MExpr.fArgs, MExpr.fArms, this]
  omega
theorem sz_mkA (s : List UInt8) (v : List (List UInt8)) (b : MExpr) : szRow (MArm.mk s v b).enc = s.length + v.length + szRows (v.map encS) + b.sz := by
  have := MExpr.sz_def b
  simp only [MArm.enc_eq, szRow, szRow_append, D.sz, List.length_map, MArm.fConstructor, MArm.fVars, MArm.fBody, this]
  omega
theorem sz_zT : zT.sz = 0 := by simp [zT, MType.sz, MType.enc_eq, szRow, D.sz, szRows, MType.fName, MType.fArgs]
theorem exprK_sz {bs : List Int} {k : Int} {sub : List (List UInt8) → Cu bs → MExpr × Cu bs} {vars : List (List UInt8)} {m : Nat} (hv : Short8 vars) (hs : ∀ v c, Short8 v → (sub v c).1.sz ≤ m) (c : Cu bs) : (exprK k sub vars c).1.sz ≤ 3 * m + 40 := by
  have h1 := fun c => hs vars c hv
  have h2 := fun c => hs (vars ++ [[104], [116]]) c (hv.append (by unfold Short8; decide))
  have h3 := fun c => hs (vars ++ [[121]]) c (hv.append (by unfold Short8; decide))
  unfold exprK
  by_cases e0 : k = 1
  · rw [if_pos e0]; simp only [boolE, varE, opE, intE, sz_mkE, sz_mkA, sz_zT, List.map_cons, List.map_nil, List.length_cons, List.length_nil, szRows, MExpr.sz_def, encS, szRow, D.sz]; omega
  rw [if_neg e0]
  by_cases e1 : (k = 2 ∨ k = 3) ∧ 0 < vars.length
  · rw [if_pos e1]; simp only [boolE, varE, opE, intE, sz_mkE, sz_mkA, sz_zT, List.map_cons, List.map_nil, List.length_cons, List.length_nil, szRows, MExpr.sz_def, encS, szRow, D.sz]; have := pickD_len c hv; omega
  rw [if_neg e1]
  by_cases e2 : k = 4
  · rw [if_pos e2]; simp only [boolE, varE, opE, intE, sz_mkE, sz_mkA, sz_zT, List.map_cons, List.map_nil, List.length_cons, List.length_nil, szRows, MExpr.sz_def, encS, szRow, D.sz]; have := pickD_len c short_fg; have := h1 (pickD fgL c).2; omega
  rw [if_neg e2]
  by_cases e3 : k = 5
  · rw [if_pos e3]; simp only [boolE, varE, opE, intE, sz_mkE, sz_mkA, sz_zT, List.map_cons, List.map_nil, List.length_cons, List.length_nil, szRows, MExpr.sz_def, encS, szRow, D.sz]; have := pickD_len c short_show; have := h1 (pickD showL c).2; have := h1 (sub vars (pickD showL c).2).2; omega
  rw [if_neg e3]
  by_cases e4 : k = 6
  · rw [if_pos e4]; simp only [boolE, varE, opE, intE, sz_mkE, sz_mkA, sz_zT, List.map_cons, List.map_nil, List.length_cons, List.length_nil, szRows, MExpr.sz_def, encS, szRow, D.sz]; have := h1 c; have := h1 (sub vars c).2; omega
  rw [if_neg e4]
  by_cases e5 : k = 7
  · rw [if_pos e5]; simp only [boolE, varE, opE, intE, sz_mkE, sz_mkA, sz_zT, List.map_cons, List.map_nil, List.length_cons, List.length_nil, szRows, MExpr.sz_def, encS, szRow, D.sz]; have := h1 c; have := h1 (sub vars c).2; have := h2 (sub vars (sub vars c).2).2; omega
  rw [if_neg e5]
  by_cases e6 : k = 8
  · rw [if_pos e6]; simp only [boolE, varE, opE, intE, sz_mkE, sz_mkA, sz_zT, List.map_cons, List.map_nil, List.length_cons, List.length_nil, szRows, MExpr.sz_def, encS, szRow, D.sz]; have := h1 c; have := h3 (sub vars c).2; omega
  rw [if_neg e6]
  by_cases e7 : k = 9
  · rw [if_pos e7]; simp only [boolE, varE, opE, intE, sz_mkE, sz_mkA, sz_zT, List.map_cons, List.map_nil, List.length_cons, List.length_nil, szRows, MExpr.sz_def, encS, szRow, D.sz]; have := h1 c; have := h1 (sub vars c).2; have := h1 (sub vars (sub vars c).2).2; omega
  rw [if_neg e7]
  by_cases e8 : k = 10
  · rw [if_pos e8]; simp only [boolE, varE, opE, intE, sz_mkE, sz_mkA, sz_zT, List.map_cons, List.map_nil, List.length_cons, List.length_nil, szRows, MExpr.sz_def, encS, szRow, D.sz]; have := pickD_len c short_prim; have := h1 (pickD primL c).2; have := h1 (sub vars (pickD primL c).2).2; omega
  rw [if_neg e8]
  by_cases e9 : k = 11
  · rw [if_pos e9]; simp only [boolE, varE, opE, intE, sz_mkE, sz_mkA, sz_zT, List.map_cons, List.map_nil, List.length_cons, List.length_nil, szRows, MExpr.sz_def, encS, szRow, D.sz]; have := h1 c; omega
  rw [if_neg e9]
  by_cases e10 : k = 12
  · rw [if_pos e10]; simp only [boolE, varE, opE, intE, sz_mkE, sz_mkA, sz_zT, List.map_cons, List.map_nil, List.length_cons, List.length_nil, szRows, MExpr.sz_def, encS, szRow, D.sz]; have := tyD_sz short_a 1 c; have := h1 (tyD aL 1 c).2; omega
  rw [if_neg e10]
  simp only [boolE, varE, opE, intE, sz_mkE, sz_mkA, sz_zT, List.map_cons, List.map_nil, List.length_cons, List.length_nil, szRows, MExpr.sz_def, encS, szRow, D.sz]; omega
theorem exprD_sz {bs : List Int} : ∀ (n : Nat) (vars : List (List UInt8)) (c : Cu bs), Short8 vars → (exprD n vars c).1.sz + 20 ≤ 60 * 3 ^ n
  | 0, vars, c, hv => by
    have := exprK_sz (k := (belowD 13 c).1.tmod 3) (sub := fun _ c => (intE 0, c)) (m := 0) hv (fun v c _ => by simp [intE, sz_mkE, sz_zT, szRows]) (belowD 13 c).2
    rw [exprD]; omega
  | n + 1, vars, c, hv => by
    have ih := exprD_sz n (bs := bs)
    have := exprK_sz (k := (belowD 13 c).1) (sub := exprD n) (m := 60 * 3 ^ n - 20) hv (fun v c h => by have := ih v c h; omega) (belowD 13 c).2
    have h1 : 1 ≤ 3 ^ n := Nat.one_le_pow _ _ (by omega)
    rw [exprD, Nat.pow_succ]; omega
theorem fArgs_mk (k : Int) (t s : List UInt8) (n : Int) (ty : MType) (a : List MExpr) (b : List MArm) : (MExpr.mk k t s n ty a b).fArgs = a := rfl
theorem fArms_mk (k : Int) (t s : List UInt8) (n : Int) (ty : MType) (a : List MExpr) (b : List MArm) : (MExpr.mk k t s n ty a b).fArms = b := rfl
theorem enc_mkA (s : List UInt8) (v : List (List UInt8)) (b : MExpr) : (MArm.mk s v b).enc = .s s :: .sl (v.map encS) :: b.enc := by rw [MArm.enc_eq]; rfl
def exP (t : MExpr) : List D := [.i .i64 t.fKind, .s t.fTrait, .s t.fName, .i .i64 t.fN, .i .i64 t.fType.fKind, .s t.fType.fName, .sl (t.fType.fArgs.map MType.enc)]
def exRaw (t : MExpr) (S' : Store) : V → List Obj → Store → Prop := Two (exP t) 9 11 (t.fArgs.map MExpr.enc) (t.fArms.map MArm.enc) S'
end Go.Ab
namespace Go.Proofs.Ytceaigchkgifgaa
open Go Go.Ab
theorem encE_len (l : List MExpr) : ∀ y ∈ l.map MExpr.enc, y.length = 9 := by
  intro y hy
  obtain ⟨x, _, rfl⟩ := List.mem_map.1 hy
  exact MExpr.enc_length x
theorem encM_len (l : List MArm) : ∀ y ∈ l.map MArm.enc, y.length = 11 := by
  intro y hy
  obtain ⟨x, _, rfl⟩ := List.mem_map.1 hy
  exact MArm.enc_length x
theorem l11Int_ok (n : Int) : PCall Try.prog 76 [.c (.d (.i .i64 n))] (.agg [.d (.i .i64 1), .d (.s []), .d (.s []), .d (.i .i64 n), .d (.i .i64 0), .d (.s []), .fsl [], .fsl [], .fsl []]) := fun S => by
  refine acall_cw (rs := [.cell 2 38]) Try.checked.mixed Try.func76 Try.ntmps76 rfl rfl rfl rfl rfl ?_
  simp -implicitDefEqProofs (disch := omega) only [go_sem]
  first | done | exact ⟨rfl, rfl⟩ | rfl
theorem l11Var_ok (s : List UInt8) : PCall Try.prog 104 [.c (.d (.s s))] (.agg [.d (.i .i64 3), .d (.s []), .d (.s s), .d (.i .i64 0), .d (.i .i64 0), .d (.s []), .fsl [], .fsl [], .fsl []]) := fun S => by
  refine acall_cw (rs := [.cell 2 38]) Try.checked.mixed Try.func104 Try.ntmps104 rfl rfl rfl rfl rfl ?_
  simp -implicitDefEqProofs (disch := omega) only [go_sem]
  first | done | exact ⟨rfl, rfl⟩ | rfl
theorem l11Op_esc (k : Int) (s : List UInt8) (l : List MExpr) {es : List (List D)} (he : es = l.map MExpr.enc) (hl : l.length ≤ 1048576) {a : C} (ha : a = .d (.sl es) ∨ a = .fsl es) (S : Store) : Esc Try.prog 105 [.c (.d (.i .i64 k)), .c (.d (.s s)), .c a] S (exRaw (opE k s l) S) := by
  subst he
  refine esc_cw (rs := [.cell 6 38]) Try.checked.mixed Try.func105 Try.ntmps105 rfl rfl rfl rfl rfl ?_
  have hln := encE_len l
  rcases ha with rfl | rfl
  all_goals
    simp -implicitDefEqProofs (disch := omega) only [go_sem]
    refine ⟨hln, ⟨_, rfl, rfl⟩, fun y hy => absurd hy List.not_mem_nil, by omega, rfl, [_, _, _, _, _, _, _], _, _, rfl, rfl, .inl ⟨1, rfl, rfl⟩, .inr ⟨rfl, fun e he => by cases he⟩⟩
theorem exRaw_plain {f : FuncId} {args : List V} {S S' : Store} {t : MExpr} (h : Esc Try.prog f args S (exRaw t S')) : ACall Try.prog f args S (fun r S1 => r = t.v ∧ S1 = S') :=
  Esc.plain2 h
theorem exRaw_push {f : FuncId} {args : List V} {S S' : Store} {t : MExpr} (ht : hasTop S' = true) (h : Esc Try.prog f args S (exRaw t S')) :
    ACall Try.prog f args S (fun r S1 => r = .agg [.d (.i .i64 t.fKind), .d (.s t.fTrait), .d (.s t.fName), .d (.i .i64 t.fN), .d (.i .i64 t.fType.fKind), .d (.s t.fType.fName), .d (.sl (t.fType.fArgs.map MType.enc)), .tsl (0, topL S') (t.fArgs.map MExpr.enc), .tsl (0, topL S' + 1) (t.fArms.map MArm.enc)] ∧ S1 = pushL S' [.tok 9 (t.fArgs.map MExpr.enc), .tok 11 (t.fArms.map MArm.enc)]) :=
  Esc.push2 (by decide) ht h
theorem l11Op_push (k : Int) (s : List UInt8) (l : List MExpr) {es : List (List D)} (he : es = l.map MExpr.enc) (hl : l.length ≤ 1048576) {a : C} (ha : a = .d (.sl es) ∨ a = .fsl es) {own : List Ab.Obj} {Ω : Store} :
    ACall Try.prog 105 [.c (.d (.i .i64 k)), .c (.d (.s s)), .c a] (own :: Ω) (fun r S1 => r = .agg [.d (.i .i64 k), .d (.s []), .d (.s s), .d (.i .i64 0), .d (.i .i64 0), .d (.s []), .d (.sl []), .tsl (0, own.length) es, .tsl (0, own.length + 1) []] ∧ S1 = (own ++ [.tok 9 es, .tok 11 []]) :: Ω) := by
  have := exRaw_push (S' := own :: Ω) rfl (l11Op_esc k s l he hl ha (own :: Ω))
  rw [he]
  exact this
theorem l11Expr_esc {bs : List Int} (hB : Bytes bs) : ∀ (n : Nat) (vars : List (List UInt8)) (c : Cu bs) (l j : Nat) (S : Store), vars.length + 2 * n ≤ 256 → getO S (l, j) = some (.box (cur c)) →
    Esc Try.prog 72 [.c (.ptr (l, j) 0), .c (.d (.sl (vars.map encS))), .c (.d (.i .i64 n))] S (exRaw (exprD n vars c).1 (setO S (l, j) (.box (cur (exprD n vars c).2)))) := by
  intro n
  induction n with
  | zero =>
    intro vars c l j S hv hk
    have g : ∀ x : Ab.Obj, getO (setO S (l, j) x) (l, j) = some x := fun x => getO_setO_eq _ _ _ _ hk
    have hx := belowD_rng (n := 13) c (by omega)
    have hy := Int.tmod_lt_of_pos (belowD 13 c).1 (b := 3) (by omega)
    have hz := Int.tmod_nonneg 3 hx.1
    obtain ⟨k, hkd⟩ : ∃ k, k = (belowD 13 c).1.tmod 3 := ⟨_, rfl⟩
    obtain ⟨c1, hc1⟩ : ∃ c1, c1 = (belowD 13 c).2 := ⟨_, rfl⟩
    rw [exprD, ← hkd, ← hc1]
    obtain ⟨q, hq⟩ : ∃ q, q = exprK k (fun _ c => (intE 0, c)) vars c1 := ⟨_, rfl⟩
    rw [← hq]
    refine esc_cw (rs := [.cell 6 38]) Try.checked.mixed Try.func72 Try.ntmps72 rfl rfl rfl rfl rfl ?_
    simp -implicitDefEqProofs (disch := omega) only [go_sem]
    refine call_d rfl (l1Below_ok hB c (1 + l) j _ 13 (by rw [getO_up1]; exact hk) (by omega) (by omega)) ?_
    rw [← hc1]
    have d0 : decide (((0 : Nat) : Int) ≤ 0) = true := rfl
    simp -implicitDefEqProofs (disch := omega) only [go_sem, d0, setO_up1]
    (repeat (with_reducible refine And.intro ?_ ?_; focus first | omega | rfl | assumption | exact ⟨_, rfl, rfl⟩ | (simp; omega) | (simp; done)))
    rw [← hkd] at hy hz ⊢
    have d1 : k < 3 := hy
    have n3 : decide (k = 3) = false := decide_eq_false (by omega)
    have n4 : decide (k = 4) = false := decide_eq_false (by omega)
    have n5 : decide (k = 5) = false := decide_eq_false (by omega)
    have n6 : decide (k = 6) = false := decide_eq_false (by omega)
    have n7 : decide (k = 7) = false := decide_eq_false (by omega)
    have n8 : decide (k = 8) = false := decide_eq_false (by omega)
    have n9 : decide (k = 9) = false := decide_eq_false (by omega)
    have n10 : decide (k = 10) = false := decide_eq_false (by omega)
    have n11 : decide (k = 11) = false := decide_eq_false (by omega)
    have n12 : decide (k = 12) = false := decide_eq_false (by omega)
    with_reducible refine split2 (fun hb => ?_) (fun hb => ?_) <;> have h := hb <;> (try simp only [wf_preprocess] at h) <;> simp -implicitDefEqProofs (disch := omega) only [go_sem, hb, n3, n4, n5, n6, n7, n8, n9, n10, n11, n12, setO_up1, setO_twice] <;> (repeat (with_reducible refine And.intro ?_ ?_; focus first | omega | rfl | assumption | exact ⟨_, rfl, rfl⟩ | (simp; omega) | (simp; done)))
    · subst h
      simp only [exprK, reduceIte] at hq
      refine call_d rfl (l1Below_ok hB c1 (1 + l) j _ 2 (by rw [getO_up1]; exact g _) (by omega) (by omega)) ?_
      simp -implicitDefEqProofs (disch := omega) only [go_sem, n3, n4, n5, n6, n7, n8, n9, n10, n11, n12, setO_up1, setO_twice]
      rw [hq]
      refine ⟨rfl, [_, _, _, _, _, _, _], _, _, rfl, rfl, .inr ⟨rfl, fun e he => by cases he⟩, .inr ⟨rfl, fun e he => by cases he⟩⟩
    have e1 := h
    with_reducible refine split2 (fun hb => ?_) (fun hb => ?_) <;> have h := hb <;> (try simp only [wf_preprocess] at h) <;> simp -implicitDefEqProofs (disch := omega) only [go_sem, hb, n3, n4, n5, n6, n7, n8, n9, n10, n11, n12, setO_up1, setO_twice] <;> (repeat (with_reducible refine And.intro ?_ ?_; focus first | omega | rfl | assumption | exact ⟨_, rfl, rfl⟩ | (simp; omega) | (simp; done)))
    · subst h
      with_reducible refine split2 (fun hb => ?_) (fun hb => ?_) <;> have h := hb <;> (try simp only [wf_preprocess] at h) <;> simp -implicitDefEqProofs (disch := omega) only [go_sem, hb, setO_up1, setO_twice] <;> (repeat (with_reducible refine And.intro ?_ ?_; focus first | omega | rfl | assumption | exact ⟨_, rfl, rfl⟩ | (simp; omega) | (simp; done)))
      · have hl : 0 < vars.length := by omega
        simp only [exprK, reduceIte, Int.reduceEq, false_or, or_false, or_self, false_and, true_and, if_pos hl] at hq
        refine call_m [true] rfl (l1Pick_ok hB c1 (1 + l) j _ vars (by rw [getO_up1]; exact g _) (by omega) (by omega)) ?_
        simp -implicitDefEqProofs (disch := omega) only [go_sem, n3, n4, n5, n6, n7, n8, n9, n10, n11, n12, setO_up1, setO_twice]
        refine call_w (l11Var_ok (pickD vars c1).1) ?_
        simp -implicitDefEqProofs (disch := omega) only [go_sem, n3, n4, n5, n6, n7, n8, n9, n10, n11, n12, setO_up1, setO_twice]
        rw [hq]
        refine ⟨rfl, [_, _, _, _, _, _, _], _, _, rfl, rfl, .inr ⟨rfl, fun e he => by cases he⟩, .inr ⟨rfl, fun e he => by cases he⟩⟩
      · have hl : ¬ 0 < vars.length := by omega
        simp only [exprK, reduceIte, Int.reduceEq, false_or, or_false, or_self, false_and, true_and, if_neg hl] at hq
        have hx2 := belowD_rng (n := 20) c1 (by omega)
        refine call_d rfl (l1Below_ok hB c1 (1 + l) j _ 20 (by rw [getO_up1]; exact g _) (by omega) (by omega)) ?_
        simp -implicitDefEqProofs (disch := omega) only [go_sem, n3, n4, n5, n6, n7, n8, n9, n10, n11, n12, setO_up1, setO_twice]
        (repeat (with_reducible refine And.intro ?_ ?_; focus first | omega | rfl | assumption | exact ⟨_, rfl, rfl⟩ | (simp; omega) | (simp; done)))
        refine call_w (l11Int_ok ((belowD 20 c1).1 - 5)) ?_
        simp -implicitDefEqProofs (disch := omega) only [go_sem, n3, n4, n5, n6, n7, n8, n9, n10, n11, n12, setO_up1, setO_twice]
        rw [hq]
        refine ⟨rfl, [_, _, _, _, _, _, _], _, _, rfl, rfl, .inr ⟨rfl, fun e he => by cases he⟩, .inr ⟨rfl, fun e he => by cases he⟩⟩
    have e2 := h
    have e3 : ¬ k = 3 := by omega
    have e4 : ¬ k = 4 := by omega
    have e5 : ¬ k = 5 := by omega
    have e6 : ¬ k = 6 := by omega
    have e7 : ¬ k = 7 := by omega
    have e8 : ¬ k = 8 := by omega
    have e9 : ¬ k = 9 := by omega
    have e10 : ¬ k = 10 := by omega
    have e11 : ¬ k = 11 := by omega
    have e12 : ¬ k = 12 := by omega
    simp only [exprK, if_neg e1, e2, e3, false_or, or_self, false_and, reduceIte, if_neg e4, if_neg e5, if_neg e6, if_neg e7, if_neg e8, if_neg e9, if_neg e10, if_neg e11, if_neg e12] at hq
    have hx2 := belowD_rng (n := 20) c1 (by omega)
    refine call_d rfl (l1Below_ok hB c1 (1 + l) j _ 20 (by rw [getO_up1]; exact g _) (by omega) (by omega)) ?_
    simp -implicitDefEqProofs (disch := omega) only [go_sem, n3, n4, n5, n6, n7, n8, n9, n10, n11, n12, setO_up1, setO_twice]
    (repeat (with_reducible refine And.intro ?_ ?_; focus first | omega | rfl | assumption | exact ⟨_, rfl, rfl⟩ | (simp; omega) | (simp; done)))
    refine call_w (l11Int_ok ((belowD 20 c1).1 - 5)) ?_
    simp -implicitDefEqProofs (disch := omega) only [go_sem, n3, n4, n5, n6, n7, n8, n9, n10, n11, n12, setO_up1, setO_twice]
    rw [hq]
    refine ⟨rfl, [_, _, _, _, _, _, _], _, _, rfl, rfl, .inr ⟨rfl, fun e he => by cases he⟩, .inr ⟨rfl, fun e he => by cases he⟩⟩
  | succ n ih =>
    intro vars c l j S hv hk
    have g : ∀ x : Ab.Obj, getO (setO S (l, j) x) (l, j) = some x := fun x => getO_setO_eq _ _ _ _ hk
    have hx := belowD_rng (n := 13) c (by omega)
    obtain ⟨k, hkd⟩ : ∃ k, k = (belowD 13 c).1 := ⟨_, rfl⟩
    obtain ⟨c1, hc1⟩ : ∃ c1, c1 = (belowD 13 c).2 := ⟨_, rfl⟩
    have ih1 := fun vars c l j S hv hk => exRaw_plain (ih vars c l j S hv hk)
    rw [exprD, ← hkd, ← hc1]
    obtain ⟨q, hq⟩ : ∃ q, q = exprK k (exprD n) vars c1 := ⟨_, rfl⟩
    rw [← hq]
    refine esc_cw (rs := [.cell 6 38]) Try.checked.mixed Try.func72 Try.ntmps72 rfl rfl rfl rfl rfl ?_
    simp -implicitDefEqProofs (disch := omega) only [go_sem]
    refine call_d rfl (l1Below_ok hB c (1 + l) j _ 13 (by rw [getO_up1]; exact hk) (by omega) (by omega)) ?_
    rw [← hkd, ← hc1]
    have d0 : decide (((n + 1 : Nat) : Int) ≤ 0) = false := decide_eq_false (by omega)
    have d1 : ((n + 1 : Nat) : Int) - 1 = (n : Int) := by omega
    simp -implicitDefEqProofs (disch := omega) only [go_sem, d0, setO_up1]
    have hm : ∀ y ∈ vars.map encS, y.length = 1 := by
      intro y hy
      obtain ⟨z, _, rfl⟩ := List.mem_map.1 hy
      rfl
    with_reducible refine split2 (fun hb => ?_) (fun hb => ?_) <;> have h := hb <;> (try simp only [wf_preprocess] at h) <;> simp -implicitDefEqProofs (disch := omega) only [go_sem, hb, d1, setO_up1, setO_twice] <;> (repeat (with_reducible refine And.intro ?_ ?_; focus first | omega | rfl | assumption | exact ⟨_, rfl, rfl⟩ | (simp; omega) | (simp; done)))
    · subst h
      simp only [exprK, reduceIte] at hq
      refine call_d rfl (l1Below_ok hB c1 (1 + l) j _ 2 (by rw [getO_up1]; exact g _) (by omega) (by omega)) ?_
      simp -implicitDefEqProofs (disch := omega) only [go_sem, d1, setO_up1, setO_twice]
      rw [hq]
      refine ⟨rfl, [_, _, _, _, _, _, _], _, _, rfl, rfl, .inr ⟨rfl, fun e he => by cases he⟩, .inr ⟨rfl, fun e he => by cases he⟩⟩
    have e1 := h
    with_reducible refine split2 (fun hb => ?_) (fun hb => ?_) <;> have h := hb <;> (try simp only [wf_preprocess] at h) <;> simp -implicitDefEqProofs (disch := omega) only [go_sem, hb, d1, setO_up1, setO_twice] <;> (repeat (with_reducible refine And.intro ?_ ?_; focus first | omega | rfl | assumption | exact ⟨_, rfl, rfl⟩ | (simp; omega) | (simp; done)))
    · subst h
      with_reducible refine split2 (fun hb => ?_) (fun hb => ?_) <;> have h := hb <;> (try simp only [wf_preprocess] at h) <;> simp -implicitDefEqProofs (disch := omega) only [go_sem, hb, d1, setO_up1, setO_twice] <;> (repeat (with_reducible refine And.intro ?_ ?_; focus first | omega | rfl | assumption | exact ⟨_, rfl, rfl⟩ | (simp; omega) | (simp; done)))
      · have hl : 0 < vars.length := by omega
        simp only [exprK, reduceIte, Int.reduceEq, false_or, or_false, or_self, false_and, true_and, if_pos hl] at hq
        refine call_m [true] rfl (l1Pick_ok hB c1 (1 + l) j _ vars (by rw [getO_up1]; exact g _) (by omega) (by omega)) ?_
        simp -implicitDefEqProofs (disch := omega) only [go_sem, d1, setO_up1, setO_twice]
        refine call_w (l11Var_ok (pickD vars c1).1) ?_
        simp -implicitDefEqProofs (disch := omega) only [go_sem, d1, setO_up1, setO_twice]
        rw [hq]
        refine ⟨rfl, [_, _, _, _, _, _, _], _, _, rfl, rfl, .inr ⟨rfl, fun e he => by cases he⟩, .inr ⟨rfl, fun e he => by cases he⟩⟩
      · have hl : ¬ 0 < vars.length := by omega
        simp only [exprK, reduceIte, Int.reduceEq, false_or, or_false, or_self, false_and, true_and, if_neg hl] at hq
        have hx2 := belowD_rng (n := 20) c1 (by omega)
        refine call_d rfl (l1Below_ok hB c1 (1 + l) j _ 20 (by rw [getO_up1]; exact g _) (by omega) (by omega)) ?_
        simp -implicitDefEqProofs (disch := omega) only [go_sem, d1, setO_up1, setO_twice]
        (repeat (with_reducible refine And.intro ?_ ?_; focus first | omega | rfl | assumption | exact ⟨_, rfl, rfl⟩ | (simp; omega) | (simp; done)))
        refine call_w (l11Int_ok ((belowD 20 c1).1 - 5)) ?_
        simp -implicitDefEqProofs (disch := omega) only [go_sem, d1, setO_up1, setO_twice]
        rw [hq]
        refine ⟨rfl, [_, _, _, _, _, _, _], _, _, rfl, rfl, .inr ⟨rfl, fun e he => by cases he⟩, .inr ⟨rfl, fun e he => by cases he⟩⟩
    have e2 := h
    with_reducible refine split2 (fun hb => ?_) (fun hb => ?_) <;> have h := hb <;> (try simp only [wf_preprocess] at h) <;> simp -implicitDefEqProofs (disch := omega) only [go_sem, hb, d1, setO_up1, setO_twice] <;> (repeat (with_reducible refine And.intro ?_ ?_; focus first | omega | rfl | assumption | exact ⟨_, rfl, rfl⟩ | (simp; omega) | (simp; done)))
    · subst h
      with_reducible refine split2 (fun hb => ?_) (fun hb => ?_) <;> have h := hb <;> (try simp only [wf_preprocess] at h) <;> simp -implicitDefEqProofs (disch := omega) only [go_sem, hb, d1, setO_up1, setO_twice] <;> (repeat (with_reducible refine And.intro ?_ ?_; focus first | omega | rfl | assumption | exact ⟨_, rfl, rfl⟩ | (simp; omega) | (simp; done)))
      · have hl : 0 < vars.length := by omega
        simp only [exprK, reduceIte, Int.reduceEq, false_or, or_false, or_self, false_and, true_and, if_pos hl] at hq
        refine call_m [true] rfl (l1Pick_ok hB c1 (1 + l) j _ vars (by rw [getO_up1]; exact g _) (by omega) (by omega)) ?_
        simp -implicitDefEqProofs (disch := omega) only [go_sem, d1, setO_up1, setO_twice]
        refine call_w (l11Var_ok (pickD vars c1).1) ?_
        simp -implicitDefEqProofs (disch := omega) only [go_sem, d1, setO_up1, setO_twice]
        rw [hq]
        refine ⟨rfl, [_, _, _, _, _, _, _], _, _, rfl, rfl, .inr ⟨rfl, fun e he => by cases he⟩, .inr ⟨rfl, fun e he => by cases he⟩⟩
      · have hl : ¬ 0 < vars.length := by omega
        simp only [exprK, reduceIte, Int.reduceEq, false_or, or_false, or_self, false_and, true_and, if_neg hl] at hq
        have hx2 := belowD_rng (n := 20) c1 (by omega)
        refine call_d rfl (l1Below_ok hB c1 (1 + l) j _ 20 (by rw [getO_up1]; exact g _) (by omega) (by omega)) ?_
        simp -implicitDefEqProofs (disch := omega) only [go_sem, d1, setO_up1, setO_twice]
        (repeat (with_reducible refine And.intro ?_ ?_; focus first | omega | rfl | assumption | exact ⟨_, rfl, rfl⟩ | (simp; omega) | (simp; done)))
        refine call_w (l11Int_ok ((belowD 20 c1).1 - 5)) ?_
        simp -implicitDefEqProofs (disch := omega) only [go_sem, d1, setO_up1, setO_twice]
        rw [hq]
        refine ⟨rfl, [_, _, _, _, _, _, _], _, _, rfl, rfl, .inr ⟨rfl, fun e he => by cases he⟩, .inr ⟨rfl, fun e he => by cases he⟩⟩
    have e3 := h
    with_reducible refine split2 (fun hb => ?_) (fun hb => ?_) <;> have h := hb <;> (try simp only [wf_preprocess] at h) <;> simp -implicitDefEqProofs (disch := omega) only [go_sem, hb, d1, setO_up1, setO_twice] <;> (repeat (with_reducible refine And.intro ?_ ?_; focus first | omega | rfl | assumption | exact ⟨_, rfl, rfl⟩ | (simp; omega) | (simp; done)))
    · subst h
      simp only [exprK, reduceIte, Int.reduceEq, false_or, or_false, or_self, false_and] at hq
      refine call_m [true] rfl (l1Pick_ok hB c1 (1 + l) j _ fgL (by rw [getO_up1]; exact g _) (by decide) (by decide)) ?_
      simp -implicitDefEqProofs (disch := omega) only [go_sem, d1, setO_up1, setO_twice]
      refine call_m [true] rfl (ih1 vars (pickD fgL c1).2 (1 + l) j _ (by first | omega | (simp only [List.length_append, List.length_cons, List.length_nil]; omega)) (by rw [getO_up1]; exact g _)) ?_
      simp -implicitDefEqProofs (disch := omega) only [go_sem, d1, setO_up1, setO_twice]
      (repeat (with_reducible refine And.intro ?_ ?_; focus first | omega | rfl | assumption | exact ⟨_, rfl, rfl⟩ | (simp; omega) | (simp; done)))
      refine call_d rfl (l11Op_push 4 (pickD fgL c1).1 [(exprD n vars (pickD fgL c1).2).1] (by simp only [List.map_cons, List.map_nil, MExpr.enc_eq, MType.enc_eq, List.cons_append, List.nil_append]) (by simp) (.inr rfl)) ?_
      simp -implicitDefEqProofs (disch := omega) only [go_sem, d1, setO_up1, setO_twice]
      rw [hq]
      refine ⟨rfl, [_, _, _, _, _, _, _], _, _, rfl, rfl, .inl ⟨1, ?_, ?_⟩, .inl ⟨2, ?_, ?_⟩⟩ <;> simp only [opE, fArgs_mk, fArms_mk, List.map_cons, List.map_nil, MExpr.enc_eq, enc_mkA, MType.enc_eq, encS, List.cons_append, List.nil_append] <;> rfl
    have e4 := h
    with_reducible refine split2 (fun hb => ?_) (fun hb => ?_) <;> have h := hb <;> (try simp only [wf_preprocess] at h) <;> simp -implicitDefEqProofs (disch := omega) only [go_sem, hb, d1, setO_up1, setO_twice] <;> (repeat (with_reducible refine And.intro ?_ ?_; focus first | omega | rfl | assumption | exact ⟨_, rfl, rfl⟩ | (simp; omega) | (simp; done)))
    · subst h
      simp only [exprK, reduceIte, Int.reduceEq, false_or, or_false, or_self, false_and] at hq
      refine call_m [true] rfl (l1Pick_ok hB c1 (1 + l) j _ showL (by rw [getO_up1]; exact g _) (by decide) (by decide)) ?_
      simp -implicitDefEqProofs (disch := omega) only [go_sem, d1, setO_up1, setO_twice]
      refine call_m [true] rfl (ih1 vars (pickD showL c1).2 (1 + l) j _ (by first | omega | (simp only [List.length_append, List.length_cons, List.length_nil]; omega)) (by rw [getO_up1]; exact g _)) ?_
      simp -implicitDefEqProofs (disch := omega) only [go_sem, d1, setO_up1, setO_twice]
      refine call_m [true] rfl (ih1 vars (exprD n vars (pickD showL c1).2).2 (1 + l) j _ (by first | omega | (simp only [List.length_append, List.length_cons, List.length_nil]; omega)) (by rw [getO_up1]; exact g _)) ?_
      simp -implicitDefEqProofs (disch := omega) only [go_sem, d1, setO_up1, setO_twice]
      (repeat (with_reducible refine And.intro ?_ ?_; focus first | omega | rfl | assumption | exact ⟨_, rfl, rfl⟩ | (simp; omega) | (simp; done)))
      rw [hq]
      refine ⟨rfl, [_, _, _, _, _, _, _], _, _, rfl, rfl, .inr ⟨?_, encE_len _⟩, .inr ⟨rfl, fun e he => by cases he⟩⟩ <;> simp only [opE, fArgs_mk, fArms_mk, List.map_cons, List.map_nil, MExpr.enc_eq, enc_mkA, MType.enc_eq, encS, List.cons_append, List.nil_append] <;> rfl
    have e5 := h
    with_reducible refine split2 (fun hb => ?_) (fun hb => ?_) <;> have h := hb <;> (try simp only [wf_preprocess] at h) <;> simp -implicitDefEqProofs (disch := omega) only [go_sem, hb, d1, setO_up1, setO_twice] <;> (repeat (with_reducible refine And.intro ?_ ?_; focus first | omega | rfl | assumption | exact ⟨_, rfl, rfl⟩ | (simp; omega) | (simp; done)))
    · subst h
      simp only [exprK, reduceIte, Int.reduceEq, false_or, or_false, or_self, false_and] at hq
      refine call_m [true] rfl (ih1 vars c1 (1 + l) j _ (by first | omega | (simp only [List.length_append, List.length_cons, List.length_nil]; omega)) (by rw [getO_up1]; exact g _)) ?_
      simp -implicitDefEqProofs (disch := omega) only [go_sem, d1, setO_up1, setO_twice]
      refine call_m [true] rfl (ih1 vars (exprD n vars c1).2 (1 + l) j _ (by first | omega | (simp only [List.length_append, List.length_cons, List.length_nil]; omega)) (by rw [getO_up1]; exact g _)) ?_
      simp -implicitDefEqProofs (disch := omega) only [go_sem, d1, setO_up1, setO_twice]
      (repeat (with_reducible refine And.intro ?_ ?_; focus first | omega | rfl | assumption | exact ⟨_, rfl, rfl⟩ | (simp; omega) | (simp; done)))
      refine call_d rfl (l11Op_push 6 [99, 111, 110, 115] [(exprD n vars c1).1, (exprD n vars (exprD n vars c1).2).1] (by simp only [List.map_cons, List.map_nil, MExpr.enc_eq, MType.enc_eq, List.cons_append, List.nil_append]) (by simp) (.inr rfl)) ?_
      simp -implicitDefEqProofs (disch := omega) only [go_sem, d1, setO_up1, setO_twice]
      rw [hq]
      refine ⟨rfl, [_, _, _, _, _, _, _], _, _, rfl, rfl, .inl ⟨1, ?_, ?_⟩, .inl ⟨2, ?_, ?_⟩⟩ <;> simp only [opE, fArgs_mk, fArms_mk, List.map_cons, List.map_nil, MExpr.enc_eq, enc_mkA, MType.enc_eq, encS, List.cons_append, List.nil_append] <;> rfl
    have e6 := h
    with_reducible refine split2 (fun hb => ?_) (fun hb => ?_) <;> have h := hb <;> (try simp only [wf_preprocess] at h) <;> simp -implicitDefEqProofs (disch := omega) only [go_sem, hb, d1, setO_up1, setO_twice] <;> (repeat (with_reducible refine And.intro ?_ ?_; focus first | omega | rfl | assumption | exact ⟨_, rfl, rfl⟩ | (simp; omega) | (simp; done)))
    · subst h
      simp only [exprK, reduceIte, Int.reduceEq, false_or, or_false, or_self, false_and] at hq
      refine call_m [true] rfl (ih1 vars c1 (1 + l) j _ (by first | omega | (simp only [List.length_append, List.length_cons, List.length_nil]; omega)) (by rw [getO_up1]; exact g _)) ?_
      simp -implicitDefEqProofs (disch := omega) only [go_sem, d1, setO_up1, setO_twice]
      refine call_m [true] rfl (ih1 vars (exprD n vars c1).2 (1 + l) j _ (by first | omega | (simp only [List.length_append, List.length_cons, List.length_nil]; omega)) (by rw [getO_up1]; exact g _)) ?_
      simp -implicitDefEqProofs (disch := omega) only [go_sem, d1, setO_up1, setO_twice]
      have ih2 := fun c l j S hk => ih1 (vars ++ [[104], [116]]) c l j S (by simp only [List.length_append, List.length_cons, List.length_nil]; omega) hk
      simp only [List.map_append, List.map_cons, List.map_nil, encS] at ih2
      refine call_m [true] rfl (ih2 (exprD n vars (exprD n vars c1).2).2 (1 + l) j _ (by rw [getO_up1]; exact g _)) ?_
      simp -implicitDefEqProofs (disch := omega) only [go_sem, d1, setO_up1, setO_twice]
      (repeat (with_reducible refine And.intro ?_ ?_; focus first | omega | rfl | assumption | exact ⟨_, rfl, rfl⟩ | (simp; omega) | (simp; done)))
      rw [hq]
      refine ⟨rfl, [_, _, _, _, _, _, _], _, _, rfl, rfl, .inr ⟨?_, encE_len _⟩, .inr ⟨?_, encM_len _⟩⟩ <;> simp only [opE, fArgs_mk, fArms_mk, List.map_cons, List.map_nil, MExpr.enc_eq, enc_mkA, MType.enc_eq, encS, List.cons_append, List.nil_append] <;> rfl
    have e7 := h
    with_reducible refine split2 (fun hb => ?_) (fun hb => ?_) <;> have h := hb <;> (try simp only [wf_preprocess] at h) <;> simp -implicitDefEqProofs (disch := omega) only [go_sem, hb, d1, setO_up1, setO_twice] <;> (repeat (with_reducible refine And.intro ?_ ?_; focus first | omega | rfl | assumption | exact ⟨_, rfl, rfl⟩ | (simp; omega) | (simp; done)))
    · subst h
      simp only [exprK, reduceIte, Int.reduceEq, false_or, or_false, or_self, false_and] at hq
      refine call_m [true] rfl (ih1 vars c1 (1 + l) j _ (by first | omega | (simp only [List.length_append, List.length_cons, List.length_nil]; omega)) (by rw [getO_up1]; exact g _)) ?_
      simp -implicitDefEqProofs (disch := omega) only [go_sem, d1, setO_up1, setO_twice]
      refine ⟨hm, ⟨_, rfl, rfl⟩, fun y hy => absurd hy List.not_mem_nil, by omega, by simp, ⟨_, rfl, rfl⟩, by omega, ?_⟩
      have ih2 := fun c l j S hk => ih1 (vars ++ [[121]]) c l j S (by simp only [List.length_append, List.length_cons, List.length_nil]; omega) hk
      simp only [List.map_append, List.map_cons, List.map_nil, encS] at ih2
      refine call_m [true] rfl (ih2 (exprD n vars c1).2 (1 + l) j _ (by rw [getO_up1]; exact g _)) ?_
      simp -implicitDefEqProofs (disch := omega) only [go_sem, d1, setO_up1, setO_twice]
      (repeat (with_reducible refine And.intro ?_ ?_; focus first | omega | rfl | assumption | exact ⟨_, rfl, rfl⟩ | (simp; omega) | (simp; done)))
      refine call_d rfl (l11Op_push 8 [121] [(exprD n vars c1).1, (exprD n (vars ++ [[121]]) (exprD n vars c1).2).1] (by simp only [List.map_cons, List.map_nil, MExpr.enc_eq, MType.enc_eq, List.cons_append, List.nil_append]) (by simp) (.inr rfl)) ?_
      simp -implicitDefEqProofs (disch := omega) only [go_sem, d1, setO_up1, setO_twice]
      rw [hq]
      refine ⟨rfl, [_, _, _, _, _, _, _], _, _, rfl, rfl, .inl ⟨2, ?_, ?_⟩, .inl ⟨3, ?_, ?_⟩⟩ <;> simp only [opE, fArgs_mk, fArms_mk, List.map_cons, List.map_nil, MExpr.enc_eq, enc_mkA, MType.enc_eq, encS, List.cons_append, List.nil_append] <;> rfl
    have e8 := h
    with_reducible refine split2 (fun hb => ?_) (fun hb => ?_) <;> have h := hb <;> (try simp only [wf_preprocess] at h) <;> simp -implicitDefEqProofs (disch := omega) only [go_sem, hb, d1, setO_up1, setO_twice] <;> (repeat (with_reducible refine And.intro ?_ ?_; focus first | omega | rfl | assumption | exact ⟨_, rfl, rfl⟩ | (simp; omega) | (simp; done)))
    · subst h
      simp only [exprK, reduceIte, Int.reduceEq, false_or, or_false, or_self, false_and] at hq
      refine call_m [true] rfl (ih1 vars c1 (1 + l) j _ (by first | omega | (simp only [List.length_append, List.length_cons, List.length_nil]; omega)) (by rw [getO_up1]; exact g _)) ?_
      simp -implicitDefEqProofs (disch := omega) only [go_sem, d1, setO_up1, setO_twice]
      refine call_m [true] rfl (ih1 vars (exprD n vars c1).2 (1 + l) j _ (by first | omega | (simp only [List.length_append, List.length_cons, List.length_nil]; omega)) (by rw [getO_up1]; exact g _)) ?_
      simp -implicitDefEqProofs (disch := omega) only [go_sem, d1, setO_up1, setO_twice]
      refine call_m [true] rfl (ih1 vars (exprD n vars (exprD n vars c1).2).2 (1 + l) j _ (by first | omega | (simp only [List.length_append, List.length_cons, List.length_nil]; omega)) (by rw [getO_up1]; exact g _)) ?_
      simp -implicitDefEqProofs (disch := omega) only [go_sem, d1, setO_up1, setO_twice]
      (repeat (with_reducible refine And.intro ?_ ?_; focus first | omega | rfl | assumption | exact ⟨_, rfl, rfl⟩ | (simp; omega) | (simp; done)))
      refine call_d rfl (l11Op_push 9 [] [(exprD n vars c1).1, (exprD n vars (exprD n vars c1).2).1, (exprD n vars (exprD n vars (exprD n vars c1).2).2).1] (by simp only [List.map_cons, List.map_nil, MExpr.enc_eq, MType.enc_eq, List.cons_append, List.nil_append]) (by simp) (.inr rfl)) ?_
      simp -implicitDefEqProofs (disch := omega) only [go_sem, d1, setO_up1, setO_twice]
      rw [hq]
      refine ⟨rfl, [_, _, _, _, _, _, _], _, _, rfl, rfl, .inl ⟨1, ?_, ?_⟩, .inl ⟨2, ?_, ?_⟩⟩ <;> simp only [opE, fArgs_mk, fArms_mk, List.map_cons, List.map_nil, MExpr.enc_eq, enc_mkA, MType.enc_eq, encS, List.cons_append, List.nil_append] <;> rfl
    have e9 := h
    with_reducible refine split2 (fun hb => ?_) (fun hb => ?_) <;> have h := hb <;> (try simp only [wf_preprocess] at h) <;> simp -implicitDefEqProofs (disch := omega) only [go_sem, hb, d1, setO_up1, setO_twice] <;> (repeat (with_reducible refine And.intro ?_ ?_; focus first | omega | rfl | assumption | exact ⟨_, rfl, rfl⟩ | (simp; omega) | (simp; done)))
    · subst h
      simp only [exprK, reduceIte, Int.reduceEq, false_or, or_false, or_self, false_and] at hq
      refine call_m [true] rfl (l1Pick_ok hB c1 (1 + l) j _ primL (by rw [getO_up1]; exact g _) (by decide) (by decide)) ?_
      simp -implicitDefEqProofs (disch := omega) only [go_sem, d1, setO_up1, setO_twice]
      refine call_m [true] rfl (ih1 vars (pickD primL c1).2 (1 + l) j _ (by first | omega | (simp only [List.length_append, List.length_cons, List.length_nil]; omega)) (by rw [getO_up1]; exact g _)) ?_
      simp -implicitDefEqProofs (disch := omega) only [go_sem, d1, setO_up1, setO_twice]
      refine call_m [true] rfl (ih1 vars (exprD n vars (pickD primL c1).2).2 (1 + l) j _ (by first | omega | (simp only [List.length_append, List.length_cons, List.length_nil]; omega)) (by rw [getO_up1]; exact g _)) ?_
      simp -implicitDefEqProofs (disch := omega) only [go_sem, d1, setO_up1, setO_twice]
      (repeat (with_reducible refine And.intro ?_ ?_; focus first | omega | rfl | assumption | exact ⟨_, rfl, rfl⟩ | (simp; omega) | (simp; done)))
      refine call_d rfl (l11Op_push 10 (pickD primL c1).1 [(exprD n vars (pickD primL c1).2).1, (exprD n vars (exprD n vars (pickD primL c1).2).2).1] (by simp only [List.map_cons, List.map_nil, MExpr.enc_eq, MType.enc_eq, List.cons_append, List.nil_append]) (by simp) (.inr rfl)) ?_
      simp -implicitDefEqProofs (disch := omega) only [go_sem, d1, setO_up1, setO_twice]
      rw [hq]
      refine ⟨rfl, [_, _, _, _, _, _, _], _, _, rfl, rfl, .inl ⟨1, ?_, ?_⟩, .inl ⟨2, ?_, ?_⟩⟩ <;> simp only [opE, fArgs_mk, fArms_mk, List.map_cons, List.map_nil, MExpr.enc_eq, enc_mkA, MType.enc_eq, encS, List.cons_append, List.nil_append] <;> rfl
    have e10 := h
    with_reducible refine split2 (fun hb => ?_) (fun hb => ?_) <;> have h := hb <;> (try simp only [wf_preprocess] at h) <;> simp -implicitDefEqProofs (disch := omega) only [go_sem, hb, d1, setO_up1, setO_twice] <;> (repeat (with_reducible refine And.intro ?_ ?_; focus first | omega | rfl | assumption | exact ⟨_, rfl, rfl⟩ | (simp; omega) | (simp; done)))
    · subst h
      simp only [exprK, reduceIte, Int.reduceEq, false_or, or_false, or_self, false_and] at hq
      refine call_m [true] rfl (ih1 vars c1 (1 + l) j _ (by first | omega | (simp only [List.length_append, List.length_cons, List.length_nil]; omega)) (by rw [getO_up1]; exact g _)) ?_
      simp -implicitDefEqProofs (disch := omega) only [go_sem, d1, setO_up1, setO_twice]
      (repeat (with_reducible refine And.intro ?_ ?_; focus first | omega | rfl | assumption | exact ⟨_, rfl, rfl⟩ | (simp; omega) | (simp; done)))
      rw [hq]
      refine ⟨rfl, [_, _, _, _, _, _, _], _, _, rfl, rfl, .inr ⟨?_, encE_len _⟩, .inr ⟨rfl, fun e he => by cases he⟩⟩ <;> simp only [opE, fArgs_mk, fArms_mk, List.map_cons, List.map_nil, MExpr.enc_eq, enc_mkA, MType.enc_eq, encS, List.cons_append, List.nil_append] <;> rfl
    have e11 := h
    with_reducible refine split2 (fun hb => ?_) (fun hb => ?_) <;> have h := hb <;> (try simp only [wf_preprocess] at h) <;> simp -implicitDefEqProofs (disch := omega) only [go_sem, hb, d1, setO_up1, setO_twice] <;> (repeat (with_reducible refine And.intro ?_ ?_; focus first | omega | rfl | assumption | exact ⟨_, rfl, rfl⟩ | (simp; omega) | (simp; done)))
    · subst h
      simp only [exprK, reduceIte, Int.reduceEq, false_or, or_false, or_self, false_and] at hq
      refine call_m [true] rfl (tyRaw_plain (l4Ty_esc hB (vars := aL) (by decide) 1 c1 (1 + l) j _ (by rw [getO_up1]; exact g _) (by omega))) ?_
      simp -implicitDefEqProofs (disch := omega) only [go_sem, d1, setO_up1, setO_twice]
      refine call_m [true] rfl (ih1 vars (tyD aL 1 c1).2 (1 + l) j _ (by first | omega | (simp only [List.length_append, List.length_cons, List.length_nil]; omega)) (by rw [getO_up1]; exact g _)) ?_
      simp -implicitDefEqProofs (disch := omega) only [go_sem, d1, setO_up1, setO_twice]
      (repeat (with_reducible refine And.intro ?_ ?_; focus first | omega | rfl | assumption | exact ⟨_, rfl, rfl⟩ | (simp; omega) | (simp; done)))
      rw [hq]
      refine ⟨rfl, [_, _, _, _, _, _, _], _, _, rfl, rfl, .inr ⟨?_, encE_len _⟩, .inr ⟨rfl, fun e he => by cases he⟩⟩ <;> simp only [opE, fArgs_mk, fArms_mk, List.map_cons, List.map_nil, MExpr.enc_eq, enc_mkA, MType.enc_eq, encS, List.cons_append, List.nil_append] <;> rfl
    have e12 := h
    simp only [exprK, if_neg e1, e2, e3, false_or, or_self, false_and, reduceIte, if_neg e4, if_neg e5, if_neg e6, if_neg e7, if_neg e8, if_neg e9, if_neg e10, if_neg e11, if_neg e12] at hq
    have hx2 := belowD_rng (n := 20) c1 (by omega)
    refine call_d rfl (l1Below_ok hB c1 (1 + l) j _ 20 (by rw [getO_up1]; exact g _) (by omega) (by omega)) ?_
    simp -implicitDefEqProofs (disch := omega) only [go_sem, d1, setO_up1, setO_twice]
    (repeat (with_reducible refine And.intro ?_ ?_; focus first | omega | rfl | assumption | exact ⟨_, rfl, rfl⟩ | (simp; omega) | (simp; done)))
    refine call_w (l11Int_ok ((belowD 20 c1).1 - 5)) ?_
    simp -implicitDefEqProofs (disch := omega) only [go_sem, d1, setO_up1, setO_twice]
    rw [hq]
    refine ⟨rfl, [_, _, _, _, _, _, _], _, _, rfl, rfl, .inr ⟨rfl, fun e he => by cases he⟩, .inr ⟨rfl, fun e he => by cases he⟩⟩
end Go.Proofs.Ytceaigchkgifgaa

namespace Go.Ab
def xzL : List (List UInt8) := [[120], [122]]
theorem short_xz : Short8 xzL := by unfold Short8; decide
def nameL : List (List UInt8) := [[], [120], [65], [43]]
theorem short_name : Short8 nameL := by unfold Short8; decide
def numL : List Int := [-1000000, -999999, 2, 1000000]
def traL : List (List UInt8) := [[], [115, 104, 111, 119], [65]]
theorem short_tra : Short8 traL := by unfold Short8; decide
def nilL : List (List UInt8) := [[110, 105, 108], []]
theorem short_nil : Short8 nilL := by unfold Short8; decide
def uwL : List (List UInt8) := [[117], [119]]
theorem short_uw : Short8 uwL := by unfold Short8; decide
def pickI {bs : List Int} (xs : List Int) (c : Cu bs) : Int × Cu bs := (xs.getD (belowD xs.length c).1.toNat 0, (belowD xs.length c).2)
def bentE {bs : List Int} (k : Int) (e : MExpr) (c : Cu bs) : MExpr × Cu bs :=
  if k = 0 then (.mk ((belowD 15 c).1 - 1) e.fTrait e.fName e.fN e.fType e.fArgs e.fArms, (belowD 15 c).2) else
  if k = 1 then (.mk e.fKind e.fTrait (pickD nameL c).1 e.fN e.fType e.fArgs e.fArms, (pickD nameL c).2) else
  if k = 2 then (.mk e.fKind e.fTrait e.fName (pickI numL c).1 e.fType e.fArgs e.fArms, (pickI numL c).2) else
  if k = 3 then (.mk e.fKind e.fTrait e.fName e.fN e.fType (e.fArgs ++ [intE 1]) e.fArms, c) else
  if k = 4 then (.mk e.fKind (pickD traL c).1 e.fName e.fN e.fType e.fArgs e.fArms, (pickD traL c).2) else
  if k = 5 then (.mk e.fKind e.fTrait e.fName e.fN e.fType e.fArgs (e.fArms ++ [.mk (pickD nilL c).1 [[117], (pickD uwL (pickD nilL c).2).1] (intE 1)]), (pickD uwL (pickD nilL c).2).2) else
  (e, c)
theorem v_mkE (k : Int) (t s : List UInt8) (n : Int) (ty : MType) (a : List MExpr) (b : List MArm) : (MExpr.mk k t s n ty a b).v = .agg [.d (.i .i64 k), .d (.s t), .d (.s s), .d (.i .i64 n), .d (.i .i64 ty.fKind), .d (.s ty.fName), .d (.sl (ty.fArgs.map MType.enc)), .d (.sl (a.map MExpr.enc)), .d (.sl (b.map MArm.enc))] := rfl
def bentX {bs : List Int} (c : Cu bs) : MExpr × Cu bs := bentE (belowD 12 (exprD 3 xzL c).2).1 (exprD 3 xzL c).1 (belowD 12 (exprD 3 xzL c).2).2
theorem szRows_ap : ∀ a b : List (List D), szRows (a ++ b) = szRows a + szRows b
  | [], b => by simp [szRows]
  | r :: a, b => by rw [List.cons_append, szRows, szRows, szRows_ap a b]; omega
theorem bentE_sz {bs : List Int} (k : Int) (e : MExpr) (c : Cu bs) : (bentE k e c).1.sz ≤ e.sz + 40 := by
  have he : e.sz = _ := (congrArg MExpr.sz (MExpr.eta e)).symm.trans (sz_mkE ..)
  have h1 := pickD_len c short_name
  have h2 := pickD_len c short_tra
  have h3 := pickD_len c short_nil
  have h4 := pickD_len (pickD nilL c).2 short_uw
  have h0 : szRow (intE 1).enc = 0 := by rw [MExpr.sz_def, intE, sz_mkE, sz_zT]; simp [szRows]
  have h5 : szRows ((e.fArgs ++ [intE 1]).map MExpr.enc) = szRows (e.fArgs.map MExpr.enc) := by
    rw [List.map_append, szRows_ap]
    simp only [List.map_cons, List.map_nil, szRows, h0, Nat.add_zero]
  have hi : (intE 1).sz = 0 := h0
  unfold bentE
  by_cases e0 : k = 0
  · rw [if_pos e0]; simp only [sz_mkE]; omega
  rw [if_neg e0]
  by_cases e1 : k = 1
  · rw [if_pos e1]; simp only [sz_mkE]; omega
  rw [if_neg e1]
  by_cases e2 : k = 2
  · rw [if_pos e2]; simp only [sz_mkE]; omega
  rw [if_neg e2]
  by_cases e3 : k = 3
  · rw [if_pos e3]; simp only [sz_mkE, h5, List.length_append, List.length_cons, List.length_nil]; omega
  rw [if_neg e3]
  by_cases e4 : k = 4
  · rw [if_pos e4]; simp only [sz_mkE]; omega
  rw [if_neg e4]
  by_cases e5 : k = 5
  · rw [if_pos e5]; simp only [sz_mkE, List.map_append, szRows_ap, List.map_cons, List.map_nil, szRows, sz_mkA, List.length_append, List.length_cons, List.length_nil, encS, szRow, D.sz, List.length_map, hi]; omega
  rw [if_neg e5]; exact Nat.le_add_right _ _
theorem bentX_sz {bs : List Int} (c : Cu bs) : (bentX c).1.sz ≤ 1700 := by
  have h1 := exprD_sz 3 xzL c short_xz
  have h2 := bentE_sz (belowD 12 (exprD 3 xzL c).2).1 (exprD 3 xzL c).1 (belowD 12 (exprD 3 xzL c).2).2
  unfold bentX
  omega
end Go.Ab
namespace Go.Proofs.Ytceaigchkgifgaa
open Go Go.Ab
theorem l1PickInt_ok {bs : List Int} (hB : Bytes bs) (c : Cu bs) (l j : Nat) (S : Store) (xs : List Int) (hk : getO S (l, j) = some (.box (cur c))) (h1 : 1 ≤ xs.length) (h2 : xs.length ≤ 256) :
    ACall Try.prog 75 [.c (.ptr (l, j) 0), .c (.d (.sl (xs.map encI)))] S (fun r S' => r = .c (.d (.i .i64 (pickI xs c).1)) ∧ S' = setO S (l, j) (.box (cur (pickI xs c).2))) := by
  have hx := belowD_rng (n := xs.length) c (by omega)
  refine acall_cw (rs := [.tmp 4]) Try.checked.mixed Try.func75 Try.ntmps75 rfl rfl rfl rfl rfl ?_
  simp -implicitDefEqProofs (disch := omega) only [go_sem, encI]
  refine call_d rfl (l1Below_ok hB c (1 + l) j ([] :: S) xs.length (by rw [getO_up1]; exact hk) (by omega) (by omega)) ?_
  have hi : (belowD (xs.length : Int) c).1.toNat < xs.length := by omega
  have e : (pickI xs c).1 = xs[(belowD (xs.length : Int) c).1.toNat] := by simp only [pickI, List.getD, List.getElem?_eq_getElem hi, Option.getD_some]
  simp -implicitDefEqProofs (disch := omega) only [go_sem, encI, setO_up1]
  (repeat (with_reducible refine And.intro ?_ ?_; focus first | omega | rfl | assumption | exact ⟨_, rfl, rfl⟩ | (simp; omega) | (simp; done)))
  try rw [← e]
  first | done | exact ⟨rfl, rfl⟩ | rfl
theorem l11Bent_ok {bs : List Int} (hB : Bytes bs) (c : Cu bs) (l j : Nat) (S : Store) (hk : getO S (l, j) = some (.box (cur c))) :
    ACall Try.prog 43 [.c (.ptr (l, j) 0)] S (fun r S1 => r = (bentX c).1.v ∧ S1 = setO S (l, j) (.box (cur (bentX c).2))) := by
  have g : ∀ x : Ab.Obj, getO (setO S (l, j) x) (l, j) = some x := fun x => getO_setO_eq _ _ _ _ hk
  unfold bentX
  obtain ⟨t, ht⟩ : ∃ t, t = (exprD 3 xzL c).1 := ⟨_, rfl⟩
  obtain ⟨c1, hc1⟩ : ∃ c1, c1 = (exprD 3 xzL c).2 := ⟨_, rfl⟩
  have hsz := exprD_sz 3 xzL c short_xz
  rw [← ht] at hsz
  rw [← ht, ← hc1]
  obtain ⟨k, hkd⟩ : ∃ k, k = (belowD 12 c1).1 := ⟨_, rfl⟩
  obtain ⟨c2, hc2⟩ : ∃ c2, c2 = (belowD 12 c1).2 := ⟨_, rfl⟩
  rw [← hkd, ← hc2]
  obtain ⟨q, hq⟩ : ∃ q, q = bentE k t c2 := ⟨_, rfl⟩
  rw [← hq]
  have hsl := MExpr.sz_parts t
  refine acall_cwc [52] (rs := [.cell 2 38]) Try.checked.mixed Try.func43 Try.ntmps43 rfl rfl rfl rfl rfl ?_
  simp -implicitDefEqProofs (disch := omega) only [go_sem]
  have h1 := exRaw_push (S' := [.box [.d (.i .i64 0), .d (.s []), .d (.s []), .d (.i .i64 0), .d (.i .i64 0), .d (.s []), .fsl [], .fsl [], .fsl []]] :: setO S (l, j) (.box (cur (exprD 3 xzL c).2))) rfl (by
    have := l11Expr_esc hB 3 xzL c (1 + l) j ([.box [.d (.i .i64 0), .d (.s []), .d (.s []), .d (.i .i64 0), .d (.i .i64 0), .d (.s []), .fsl [], .fsl [], .fsl []]] :: S) (by decide) (by rw [getO_up1]; exact hk)
    rw [setO_up1] at this
    exact this)
  rw [← ht, ← hc1] at h1
  (repeat (with_reducible refine And.intro ?_ ?_; focus first | omega | rfl | assumption | exact ⟨_, rfl, rfl⟩ | (simp; omega) | (simp; done)))
  refine call_m [true] rfl h1 ?_
  simp -implicitDefEqProofs (disch := omega) only [go_sem, setO_up1]
  refine call_d rfl (l1Below_ok hB c1 (1 + l) j _ 12 (by rw [getO_up1]; exact g _) (by omega) (by omega)) ?_
  rw [← hkd, ← hc2]
  simp -implicitDefEqProofs (disch := omega) only [go_sem, setO_up1, setO_twice]
  with_reducible refine split2 (fun hb => ?_) (fun hb => ?_) <;> have h := hb <;> (try simp only [wf_preprocess] at h) <;> simp -implicitDefEqProofs (disch := omega) only [go_sem, hb, setO_up1, setO_twice] <;> (repeat (with_reducible refine And.intro ?_ ?_; focus first | omega | rfl | assumption | exact ⟨_, rfl, rfl⟩ | (simp; omega) | (simp; done)))
  · subst h
    simp only [bentE, reduceIte] at hq
    have hx := belowD_rng (n := 15) c2 (by omega)
    refine call_d rfl (l1Below_ok hB c2 (1 + l) j _ 15 (by rw [getO_up1]; exact g _) (by omega) (by omega)) ?_
    simp -implicitDefEqProofs (disch := omega) only [go_sem, setO_up1, setO_twice]
    (repeat (with_reducible refine And.intro ?_ ?_; focus first | omega | rfl | assumption | exact ⟨_, rfl, rfl⟩ | (simp; omega) | (simp; done)))
    rw [hq]
    exact ⟨rfl, rfl⟩
  have e0 := h
  with_reducible refine split2 (fun hb => ?_) (fun hb => ?_) <;> have h := hb <;> (try simp only [wf_preprocess] at h) <;> simp -implicitDefEqProofs (disch := omega) only [go_sem, hb, setO_up1, setO_twice] <;> (repeat (with_reducible refine And.intro ?_ ?_; focus first | omega | rfl | assumption | exact ⟨_, rfl, rfl⟩ | (simp; omega) | (simp; done)))
  · subst h
    simp only [bentE, reduceIte, Int.reduceEq] at hq
    refine call_m [true] rfl (l1Pick_ok hB c2 (1 + l) j _ nameL (by rw [getO_up1]; exact g _) (by decide) (by decide)) ?_
    simp -implicitDefEqProofs (disch := omega) only [go_sem, setO_up1, setO_twice]
    rw [hq]
    exact ⟨rfl, rfl⟩
  have e1 := h
  with_reducible refine split2 (fun hb => ?_) (fun hb => ?_) <;> have h := hb <;> (try simp only [wf_preprocess] at h) <;> simp -implicitDefEqProofs (disch := omega) only [go_sem, hb, setO_up1, setO_twice] <;> (repeat (with_reducible refine And.intro ?_ ?_; focus first | omega | rfl | assumption | exact ⟨_, rfl, rfl⟩ | (simp; omega) | (simp; done)))
  · subst h
    simp only [bentE, reduceIte, Int.reduceEq] at hq
    refine call_m [true] rfl (l1PickInt_ok hB c2 (1 + l) j _ numL (by rw [getO_up1]; exact g _) (by decide) (by decide)) ?_
    simp -implicitDefEqProofs (disch := omega) only [go_sem, setO_up1, setO_twice]
    rw [hq]
    exact ⟨rfl, rfl⟩
  have e2 := h
  with_reducible refine split2 (fun hb => ?_) (fun hb => ?_) <;> have h := hb <;> (try simp only [wf_preprocess] at h) <;> simp -implicitDefEqProofs (disch := omega) only [go_sem, hb, setO_up1, setO_twice] <;> (repeat (with_reducible refine And.intro ?_ ?_; focus first | omega | rfl | assumption | exact ⟨_, rfl, rfl⟩ | (simp; omega) | (simp; done)))
  · subst h
    simp only [bentE, reduceIte, Int.reduceEq] at hq
    refine call_w (l11Int_ok 1) ?_
    simp -implicitDefEqProofs (disch := omega) only [go_sem, setO_up1, setO_twice]
    (repeat (with_reducible refine And.intro ?_ ?_; focus first | omega | rfl | assumption | exact ⟨_, rfl, rfl⟩ | (simp; omega) | (simp; done)))
    refine ⟨by cases l <;> rfl, ?_⟩
    simp -implicitDefEqProofs (disch := omega) only [go_sem, setO_up1, setO_twice]
    rw [hq]
    refine ⟨?_, rfl⟩
    show _ = (MExpr.mk _ _ _ _ _ _ _).v
    rw [v_mkE, List.map_append]
    simp only [List.map_cons, List.map_nil, enc_mkA, intE, MExpr.enc_eq, MType.enc_eq, zT, encS]
    rfl
  have e3 := h
  with_reducible refine split2 (fun hb => ?_) (fun hb => ?_) <;> have h := hb <;> (try simp only [wf_preprocess] at h) <;> simp -implicitDefEqProofs (disch := omega) only [go_sem, hb, setO_up1, setO_twice] <;> (repeat (with_reducible refine And.intro ?_ ?_; focus first | omega | rfl | assumption | exact ⟨_, rfl, rfl⟩ | (simp; omega) | (simp; done)))
  · subst h
    simp only [bentE, reduceIte, Int.reduceEq] at hq
    refine call_m [true] rfl (l1Pick_ok hB c2 (1 + l) j _ traL (by rw [getO_up1]; exact g _) (by decide) (by decide)) ?_
    simp -implicitDefEqProofs (disch := omega) only [go_sem, setO_up1, setO_twice]
    rw [hq]
    exact ⟨rfl, rfl⟩
  have e4 := h
  with_reducible refine split2 (fun hb => ?_) (fun hb => ?_) <;> have h := hb <;> (try simp only [wf_preprocess] at h) <;> simp -implicitDefEqProofs (disch := omega) only [go_sem, hb, setO_up1, setO_twice] <;> (repeat (with_reducible refine And.intro ?_ ?_; focus first | omega | rfl | assumption | exact ⟨_, rfl, rfl⟩ | (simp; omega) | (simp; done)))
  · subst h
    simp only [bentE, reduceIte, Int.reduceEq] at hq
    refine call_m [true] rfl (l1Pick_ok hB c2 (1 + l) j _ nilL (by rw [getO_up1]; exact g _) (by decide) (by decide)) ?_
    simp -implicitDefEqProofs (disch := omega) only [go_sem, setO_up1, setO_twice]
    refine call_m [true] rfl (l1Pick_ok hB (pickD nilL c2).2 (1 + l) j _ uwL (by rw [getO_up1]; exact g _) (by decide) (by decide)) ?_
    simp -implicitDefEqProofs (disch := omega) only [go_sem, setO_up1, setO_twice]
    refine call_w (l11Int_ok 1) ?_
    simp -implicitDefEqProofs (disch := omega) only [go_sem, setO_up1, setO_twice]
    (repeat (with_reducible refine And.intro ?_ ?_; focus first | omega | rfl | assumption | exact ⟨_, rfl, rfl⟩ | (simp; omega) | (simp; done)))
    refine ⟨by cases l <;> rfl, ?_⟩
    simp -implicitDefEqProofs (disch := omega) only [go_sem, setO_up1, setO_twice]
    rw [hq]
    refine ⟨?_, rfl⟩
    show _ = (MExpr.mk _ _ _ _ _ _ _).v
    rw [v_mkE, List.map_append]
    simp only [List.map_cons, List.map_nil, enc_mkA, intE, MExpr.enc_eq, MType.enc_eq, zT, encS]
    rfl
  have e5 := h
  simp only [bentE, if_neg e0, if_neg e1, if_neg e2, if_neg e3, if_neg e4, if_neg e5] at hq
  rw [hq]
  exact ⟨rfl, rfl⟩
end Go.Proofs.Ytceaigchkgifgaa

namespace Go.Ab
def lowerB (b : UInt8) : Prop := 97 ≤ b.toNat ∧ b.toNat ≤ 122
def digitB (b : UInt8) : Prop := 48 ≤ b.toNat ∧ b.toNat ≤ 57
def nameOk (s : List UInt8) : Prop := ∀ i, i < s.length → lowerB (s.getD i 0) ∨ (i ≠ 0 ∧ digitB (s.getD i 0))
def reserved : List (List UInt8) := [[105, 110, 116], [98, 111, 111, 108], [97, 115, 115, 111, 99], [100, 121, 110], [105, 102], [108, 101, 116], [99, 97, 115, 101], [110, 101, 119], [109, 101, 116, 104, 111, 100], [112, 97, 99, 107], [116, 114, 117, 101], [102, 97, 108, 115, 101]]
noncomputable def validName (s : List UInt8) : Bool := dec ((1 ≤ s.length ∧ s.length ≤ 8) ∧ s ∉ reserved ∧ nameOk s)
noncomputable def builtInB (s : List UInt8) : Bool := dec (s = [105, 110, 116] ∨ s = [98, 111, 111, 108])
noncomputable def indexS (xs : List (List UInt8)) (s : List UInt8) : Int := if s ∈ xs then ((xs.findIdx fun x => dec (x = s) : Nat) : Int) else -1
theorem indexS_here {xs : List (List UInt8)} {s : List UInt8} {i : Nat} (hi : i < xs.length) (hj : ∀ j, j < i → xs.getD j [] ≠ s) (h : xs.getD i [] = s) : indexS xs s = i := by
  have e : ∀ j, ∀ hj : j < xs.length, xs.getD j [] = xs[j] := fun j hj => by simp [List.getD, hj]
  have hm : s ∈ xs := by rw [← h, e i hi]; exact List.getElem_mem hi
  unfold indexS
  rw [if_pos hm]
  congr 1
  rw [List.findIdx_eq hi]
  exact ⟨dec_true (by rw [← e i hi]; exact h), fun j hji => dec_false (by rw [← e j (by omega)]; exact hj j hji)⟩
theorem indexS_no {xs : List (List UInt8)} {s : List UInt8} (hj : ∀ j, j < xs.length → xs.getD j [] ≠ s) : indexS xs s = -1 := by
  unfold indexS
  refine if_neg fun hm => ?_
  obtain ⟨j, h1, h2⟩ := List.getElem_of_mem hm
  exact hj j h1 (by simp [List.getD, h1, h2])
theorem indexS_pos {xs : List (List UInt8)} {s : List UInt8} : decide (indexS xs s ≥ 0) = dec (s ∈ xs) := by
  rw [decide_dec]
  refine dec_congr ?_
  unfold indexS
  split
  · rename_i h; exact ⟨fun _ => h, fun _ => by omega⟩
  · rename_i h; exact ⟨fun x => by omega, fun x => absurd x h⟩
def indexP {α : Type} (p : α → Bool) (xs : List α) : Int := if xs.any p then ((xs.findIdx p : Nat) : Int) else -1
theorem indexP_here {α : Type} {p : α → Bool} {xs : List α} {i : Nat} (hi : i < xs.length) (hj : ∀ j, ∀ hj : j < xs.length, j < i → p xs[j] = false) (h : p xs[i] = true) : indexP p xs = i := by
  unfold indexP
  rw [if_pos (List.any_eq_true.2 ⟨xs[i], List.getElem_mem hi, h⟩)]
  congr 1
  rw [List.findIdx_eq hi]
  exact ⟨h, fun j hji => hj j (by omega) hji⟩
theorem indexP_no {α : Type} {p : α → Bool} {xs : List α} (hj : ∀ j, ∀ hj : j < xs.length, p xs[j] = false) : indexP p xs = -1 := by
  unfold indexP
  refine if_neg fun h => ?_
  obtain ⟨x, hx, hp⟩ := List.any_eq_true.1 h
  obtain ⟨j, h1, h2⟩ := List.getElem_of_mem hx
  rw [← h2, hj j h1] at hp
  cases hp
theorem indexP_pos {α : Type} {p : α → Bool} {xs : List α} : decide (indexP p xs ≥ 0) = xs.any p := by
  unfold indexP
  cases h : xs.any p with
  | true => simp
  | false => simp
noncomputable def fineT (k : Int) (n : List UInt8) (len : Nat) : Bool :=
  dec ((k = 1 ∨ k = 4) ∧ validName n = true ∧ len = 0 ∨ k = 3 ∧ validName n = true ∧ len = 1 ∨ k = 2 ∧ (validName n = true ∧ len ≤ 3 ∨ builtInB n = true ∧ len = 0))
mutual
noncomputable def formed : MType → Bool
  | .mk k n a => fineT k n a.length && formeds a
noncomputable def formeds : List MType → Bool
  | [] => true
  | t :: ts => formed t && formeds ts
end
theorem formed_eq (t : MType) : formed t = (fineT t.fKind t.fName t.fArgs.length && formeds t.fArgs) := by cases t; rw [formed]; rfl
theorem formeds_any : ∀ {ts : List MType}, (ts.any fun t => !formed t) = !formeds ts
  | [] => rfl
  | t :: ts => by rw [List.any_cons, formeds_any (ts := ts), formeds]; simp
mutual
def depthT : MType → Nat
  | .mk _ _ a => depths a
def depths : List MType → Nat
  | [] => 0
  | t :: ts => max (depthT t + 1) (depths ts)
end
theorem depthT_eq (t : MType) : depthT t = depths t.fArgs := by cases t; rw [depthT]; rfl
mutual
theorem depthT_le : ∀ t : MType, depthT t + 1 ≤ t.cnt
  | .mk k n a => by
    have := depths_le a
    rw [depthT, MType.cnt]; omega
theorem depths_le : ∀ ts : List MType, depths ts ≤ MType.cnts ts
  | [] => by simp [depths]
  | t :: ts => by
    have h1 := depthT_le t
    have h2 := depths_le ts
    rw [depths, MType.cnts]
    omega
end
noncomputable def validType (t : MType) : Bool := dec (formed t = true ∧ depthT t ≤ 6 ∧ t.cnt ≤ 60)
end Go.Ab

namespace Go.Ab
mutual
def nodesT : MType → List MType
  | .mk k n a => .mk k n a :: nodesL a
def nodesL : List MType → List MType
  | [] => []
  | t :: ts => nodesT t ++ nodesL ts
end
mutual
theorem nodes_len : ∀ t : MType, (nodesT t).length = t.cnt
  | .mk k n a => by rw [nodesT, List.length_cons, MType.cnt, nodesL_len a]; omega
theorem nodesL_len : ∀ ts : List MType, (nodesL ts).length = MType.cnts ts
  | [] => rfl
  | t :: ts => by rw [nodesL, List.length_append, MType.cnts, nodes_len t, nodesL_len ts]
end
end Go.Ab

namespace Go.Proofs.Ytceaigchkgifgaa
open Go Go.Ab
theorem l1In_ok (n a b : Int) : PCall Try.prog 87 [.c (.d (.i .i64 n)), .c (.d (.i .i64 a)), .c (.d (.i .i64 b))] (.c (.d (.b (dec (a ≤ n ∧ n ≤ b))))) := fun S => by
  refine acall_cw (rs := [.tmp 6]) Try.checked.mixed Try.func87 Try.ntmps87 rfl rfl rfl rfl rfl ?_
  simp -implicitDefEqProofs (disch := omega) only [go_sem]
  with_reducible refine split2 (fun hb => ?_) (fun hb => ?_) <;> have h := hb <;> (try simp only [wf_preprocess] at h) <;> simp -implicitDefEqProofs (disch := omega) only [go_sem, hb] <;> (repeat (with_reducible refine And.intro ?_ ?_; focus first | omega | rfl | assumption | exact ⟨_, rfl, rfl⟩ | (simp; omega) | (simp; done)))
  · exact bool_eq (by rw [decide_dec]; exact dec_congr ⟨fun x => ⟨by omega, x⟩, fun x => x.2⟩)
  · exact bool_eq (dec_false (by omega)).symm
theorem l1Has_ok (xs : List (List UInt8)) (s : List UInt8) (hl : xs.length ≤ 1073741824) : PCall Try.prog 71 [.c (.d (.sl (xs.map encS))), .c (.d (.s s))] (.c (.d (.b (dec (s ∈ xs))))) := fun S => by
  refine acall_cw (rs := [.tmp 4]) Try.checked.mixed Try.func71 Try.ntmps71 rfl rfl rfl rfl rfl ?_
  simp -implicitDefEqProofs (disch := omega) only [go_sem, encS]
  refine loop_at (ι := Nat) Try.checked.mixed rfl [0, 1, 5] (fun i => [.c (.d (.sl (xs.map encS))), .c (.d (.s s)), .c (.d (.i .i64 i))]) (fun _ => [] :: S)
    (fun i => i ≤ xs.length ∧ ∀ j, j < i → ∀ h : j < xs.length, xs[j] ≠ s) (fun i => xs.length - i) 0 rfl rfl ⟨Nat.zero_le _, fun j h => by omega⟩ ?_
  rintro i ⟨p1, p2⟩
  simp -implicitDefEqProofs (disch := omega) only [go_sem, encS]
  with_reducible refine split2 (fun hb => ?_) (fun hb => ?_) <;> have h := hb <;> (try simp only [wf_preprocess] at h) <;> simp -implicitDefEqProofs (disch := omega) only [go_sem, hb, encS] <;> (repeat (with_reducible refine And.intro ?_ ?_; focus first | omega | rfl | assumption | exact ⟨_, rfl, rfl⟩ | (simp; omega) | (simp; done)))
  · have hi : i < xs.length := by omega
    with_reducible refine split2 (fun hb => ?_) (fun hb => ?_) <;> have h := hb <;> (try simp only [wf_preprocess] at h) <;> simp -implicitDefEqProofs (disch := omega) only [go_sem, hb, encS] <;> (repeat (with_reducible refine And.intro ?_ ?_; focus first | omega | rfl | assumption | exact ⟨_, rfl, rfl⟩ | (simp; omega) | (simp; done)))
    · exact bool_eq (dec_true (by rw [← h]; exact List.getElem_mem hi)).symm
    · refine inv_at (i + 1) (by omega) rfl rfl ⟨by omega, fun j hj hl => ?_⟩
      by_cases e : j = i
      · subst e; exact h
      · exact p2 j (by omega) hl
  · refine bool_eq (dec_false fun hm => ?_).symm
    obtain ⟨j, h1, h2⟩ := List.getElem_of_mem hm
    exact p2 j (by omega) h1 h2
theorem indexS_ok (xs : List (List UInt8)) (s : List UInt8) (hl : xs.length ≤ 1073741824) : PCall Try.prog 69 [.c (.d (.sl (xs.map encS))), .c (.d (.s s))] (.c (.d (.i .i64 (indexS xs s)))) := fun S => by
  refine acall_cw (rs := [.tmp 4]) Try.checked.mixed Try.func69 Try.ntmps69 rfl rfl rfl rfl rfl ?_
  simp -implicitDefEqProofs (disch := omega) only [go_sem, encS]
  refine loop_at (ι := Nat) Try.checked.mixed rfl [0, 1, 7, 8] (fun i => [.c (.d (.sl (xs.map encS))), .c (.d (.s s)), .c (.d (.i .i64 xs.length)), .c (.d (.i .i64 i))]) (fun _ => [] :: S)
    (fun i => i ≤ xs.length ∧ ∀ j, j < i → xs.getD j [] ≠ s) (fun i => xs.length - i) 0 rfl rfl ⟨Nat.zero_le _, fun j h => by omega⟩ ?_
  rintro i ⟨p1, p2⟩
  simp -implicitDefEqProofs (disch := omega) only [go_sem, encS]
  with_reducible refine split2 (fun hb => ?_) (fun hb => ?_) <;> have h := hb <;> (try simp only [wf_preprocess] at h) <;> simp -implicitDefEqProofs (disch := omega) only [go_sem, hb, encS] <;> (repeat (with_reducible refine And.intro ?_ ?_; focus first | omega | rfl | assumption | exact ⟨_, rfl, rfl⟩ | (simp; omega) | (simp; done)))
  · have hi : i < xs.length := by omega
    have e : xs.getD i [] = xs[i] := by simp [List.getD, hi]
    with_reducible refine split2 (fun hb => ?_) (fun hb => ?_) <;> have h := hb <;> (try simp only [wf_preprocess] at h) <;> simp -implicitDefEqProofs (disch := omega) only [go_sem, hb, encS] <;> (repeat (with_reducible refine And.intro ?_ ?_; focus first | omega | rfl | assumption | exact ⟨_, rfl, rfl⟩ | (simp; omega) | (simp; done)))
    · rw [indexS_here hi p2 (by rw [e]; exact h.symm)]
    · refine inv_at (i + 1) (by omega) rfl rfl ⟨by omega, fun j hj => ?_⟩
      by_cases e' : j = i
      · subst e'; rw [e]; exact fun x => h x.symm
      · exact p2 j (by omega)
  · rw [indexS_no (fun j hj => p2 j (by omega))]
theorem containsS_ok (xs : List (List UInt8)) (s : List UInt8) (hl : xs.length ≤ 1073741824) : PCall Try.prog 40 [.c (.d (.sl (xs.map encS))), .c (.d (.s s))] (.c (.d (.b (dec (s ∈ xs))))) := fun S => by
  refine acall_cw (rs := [.tmp 4]) Try.checked.mixed Try.func40 Try.ntmps40 rfl rfl rfl rfl rfl ?_
  simp -implicitDefEqProofs (disch := omega) only [go_sem]
  refine call_w (indexS_ok xs s hl) ?_
  simp -implicitDefEqProofs (disch := omega) only [go_sem] <;> (repeat (with_reducible refine And.intro ?_ ?_; focus first | omega | rfl | assumption | exact ⟨_, rfl, rfl⟩ | (simp; omega) | (simp; done)))
  exact bool_eq indexS_pos
theorem specReserved_ok (s : List UInt8) : PCall Try.prog 119 [.c (.d (.s s))] (.c (.d (.b (dec (s ∈ reserved))))) := fun S => by
  refine acall_cw (rs := [.tmp 2]) Try.checked.mixed Try.func119 Try.ntmps119 rfl rfl rfl rfl rfl ?_
  simp -implicitDefEqProofs (disch := omega) only [go_sem]
  (repeat (with_reducible refine And.intro ?_ ?_; focus first | omega | rfl | assumption | exact ⟨_, rfl, rfl⟩ | (simp; omega) | (simp; done)))
  refine call_w (l1Has_ok reserved s (by decide)) ?_
  simp -implicitDefEqProofs (disch := omega) only [go_sem] <;> (repeat (with_reducible refine And.intro ?_ ?_; focus first | omega | rfl | assumption | exact ⟨_, rfl, rfl⟩ | (simp; omega) | (simp; done)))
theorem implReserved_ok (s : List UInt8) : PCall Try.prog 116 [.c (.d (.s s))] (.c (.d (.b (dec (s ∈ reserved))))) := fun S => by
  refine acall_cw (rs := [.tmp 2]) Try.checked.mixed Try.func116 Try.ntmps116 rfl rfl rfl rfl rfl ?_
  simp -implicitDefEqProofs (disch := omega) only [go_sem]
  (repeat (with_reducible refine And.intro ?_ ?_; focus first | omega | rfl | assumption | exact ⟨_, rfl, rfl⟩ | (simp; omega) | (simp; done)))
  refine call_w (containsS_ok reserved s (by decide)) ?_
  simp -implicitDefEqProofs (disch := omega) only [go_sem] <;> (repeat (with_reducible refine And.intro ?_ ?_; focus first | omega | rfl | assumption | exact ⟨_, rfl, rfl⟩ | (simp; omega) | (simp; done)))
theorem isLower_ok (b : UInt8) : PCall Try.prog 114 [.c (.d (.i .u8 b.toNat))] (.c (.d (.b (dec (lowerB b))))) := fun S => by
  refine acall_cw (rs := [.tmp 2]) Try.checked.mixed Try.func114 Try.ntmps114 rfl rfl rfl rfl rfl ?_
  simp -implicitDefEqProofs (disch := omega) only [go_sem]
  with_reducible refine split2 (fun hb => ?_) (fun hb => ?_) <;> have h := hb <;> (try simp only [wf_preprocess] at h) <;> simp -implicitDefEqProofs (disch := omega) only [go_sem, hb] <;> (repeat (with_reducible refine And.intro ?_ ?_; focus first | omega | rfl | assumption | exact ⟨_, rfl, rfl⟩ | (simp; omega) | (simp; done)))
  · exact bool_eq (by rw [decide_dec]; exact dec_congr ⟨fun x => ⟨by omega, by omega⟩, fun x => by have := x.2; omega⟩)
  · exact bool_eq (dec_false fun x => by have := x.1; omega).symm
theorem isDigit_ok (b : UInt8) : PCall Try.prog 115 [.c (.d (.i .u8 b.toNat))] (.c (.d (.b (dec (digitB b))))) := fun S => by
  refine acall_cw (rs := [.tmp 2]) Try.checked.mixed Try.func115 Try.ntmps115 rfl rfl rfl rfl rfl ?_
  simp -implicitDefEqProofs (disch := omega) only [go_sem]
  with_reducible refine split2 (fun hb => ?_) (fun hb => ?_) <;> have h := hb <;> (try simp only [wf_preprocess] at h) <;> simp -implicitDefEqProofs (disch := omega) only [go_sem, hb] <;> (repeat (with_reducible refine And.intro ?_ ?_; focus first | omega | rfl | assumption | exact ⟨_, rfl, rfl⟩ | (simp; omega) | (simp; done)))
  · exact bool_eq (by rw [decide_dec]; exact dec_congr ⟨fun x => ⟨by omega, by omega⟩, fun x => by have := x.2; omega⟩)
  · exact bool_eq (dec_false fun x => by have := x.1; omega).symm
theorem implValidName_ok (s : List UInt8) (hl : s.length ≤ 1073741824) : PCall Try.prog 84 [.c (.d (.s s))] (.c (.d (.b (validName s)))) := fun S => by
  refine acall_cw (rs := [.tmp 2]) Try.checked.mixed Try.func84 Try.ntmps84 rfl rfl rfl rfl rfl ?_
  simp -implicitDefEqProofs (disch := omega) only [go_sem]
  refine loop_at (ι := Nat) Try.checked.mixed rfl [0, 5, 6] (fun i => [.c (.d (.s s)), .c (.d (.i .i64 s.length)), .c (.d (.i .i64 i))]) (fun _ => [] :: S)
    (fun i => i ≤ s.length ∧ ∀ j, j < i → lowerB (s.getD j 0) ∨ (j ≠ 0 ∧ digitB (s.getD j 0))) (fun i => s.length - i) 0 rfl rfl ⟨Nat.zero_le _, fun j h => by omega⟩ ?_
  rintro i ⟨p1, p2⟩
  have next : i < s.length → (lowerB (s.getD i 0) ∨ (i ≠ 0 ∧ digitB (s.getD i 0))) → ∀ j, j < i + 1 → lowerB (s.getD j 0) ∨ (j ≠ 0 ∧ digitB (s.getD j 0)) := fun hi h j hj => by
    by_cases e : j = i
    · subst e; exact h
    · exact p2 j (by omega)
  have bad : i < s.length → ¬ (lowerB (s.getD i 0) ∨ (i ≠ 0 ∧ digitB (s.getD i 0))) → validName s = false := fun hi h => dec_false fun x => h (x.2.2 i hi)
  simp -implicitDefEqProofs (disch := omega) only [go_sem]
  with_reducible refine split2 (fun hb => ?_) (fun hb => ?_) <;> have h := hb <;> (try simp only [wf_preprocess] at h) <;> simp -implicitDefEqProofs (disch := omega) only [go_sem, hb] <;> (repeat (with_reducible refine And.intro ?_ ?_; focus first | omega | rfl | assumption | exact ⟨_, rfl, rfl⟩ | (simp; omega) | (simp; done)))
  · have hi : i < s.length := by omega
    (repeat (with_reducible refine And.intro ?_ ?_; focus first | omega | rfl | assumption | exact ⟨_, rfl, rfl⟩ | (simp; omega) | (simp; done)))
    refine call_w (isLower_ok (s.getD i 0)) ?_
    simp -implicitDefEqProofs (disch := omega) only [go_sem] <;> (repeat (with_reducible refine And.intro ?_ ?_; focus first | omega | rfl | assumption | exact ⟨_, rfl, rfl⟩ | (simp; omega) | (simp; done)))
    with_reducible refine split2 (fun hb => ?_) (fun hb => ?_) <;> have h := hb <;> (try simp only [wf_preprocess] at h) <;> simp -implicitDefEqProofs (disch := omega) only [go_sem, hb] <;> (repeat (with_reducible refine And.intro ?_ ?_; focus first | omega | rfl | assumption | exact ⟨_, rfl, rfl⟩ | (simp; omega) | (simp; done)))
    · have nl := h
      with_reducible refine split2 (fun hb => ?_) (fun hb => ?_) <;> have h := hb <;> (try simp only [wf_preprocess] at h) <;> simp -implicitDefEqProofs (disch := omega) only [go_sem, hb] <;> (repeat (with_reducible refine And.intro ?_ ?_; focus first | omega | rfl | assumption | exact ⟨_, rfl, rfl⟩ | (simp; omega) | (simp; done)))
      · have i0 : i = 0 := by omega
        rw [bad hi (fun x => x.elim nl fun y => y.1 i0)]
      · have ne := h
        (repeat (with_reducible refine And.intro ?_ ?_; focus first | omega | rfl | assumption | exact ⟨_, rfl, rfl⟩ | (simp; omega) | (simp; done)))
        refine call_w (isDigit_ok (s.getD i 0)) ?_
        simp -implicitDefEqProofs (disch := omega) only [go_sem] <;> (repeat (with_reducible refine And.intro ?_ ?_; focus first | omega | rfl | assumption | exact ⟨_, rfl, rfl⟩ | (simp; omega) | (simp; done)))
        with_reducible refine split2 (fun hb => ?_) (fun hb => ?_) <;> have h := hb <;> (try simp only [wf_preprocess] at h) <;> simp -implicitDefEqProofs (disch := omega) only [go_sem, hb] <;> (repeat (with_reducible refine And.intro ?_ ?_; focus first | omega | rfl | assumption | exact ⟨_, rfl, rfl⟩ | (simp; omega) | (simp; done)))
        · rw [bad hi (fun x => x.elim nl fun y => h y.2)]
        · exact inv_at (i + 1) (by omega) rfl rfl ⟨by omega, next hi (.inr ⟨by omega, h⟩)⟩
    · exact inv_at (i + 1) (by omega) rfl rfl ⟨by omega, next hi (.inl h)⟩
  · have hn : nameOk s := fun j hj => p2 j (by omega)
    have h0 : ∀ b, dec (s ∈ reserved) = b → ∀ c, decide ((s.length : Int) ≥ 1) = c → ∀ d, decide ((s.length : Int) ≤ 8) = d → validName s = (c && d && !b) := by
      rintro b rfl c rfl d rfl
      unfold validName
      rw [Bool.eq_iff_iff]
      simp only [dec_eq_true, Bool.and_eq_true, decide_eq_true_eq, Bool.not_eq_true', dec_eq_false]
      exact ⟨fun x => ⟨⟨by omega, by omega⟩, x.2.1⟩, fun x => ⟨⟨by omega, by omega⟩, x.2, hn⟩⟩
    with_reducible refine split2 (fun hb => ?_) (fun hb => ?_) <;> have h := hb <;> (try simp only [wf_preprocess] at h) <;> simp -implicitDefEqProofs (disch := omega) only [go_sem, hb] <;> (repeat (with_reducible refine And.intro ?_ ?_; focus first | omega | rfl | assumption | exact ⟨_, rfl, rfl⟩ | (simp; omega) | (simp; done)))
    · have c1 := hb
      with_reducible refine split2 (fun hb => ?_) (fun hb => ?_) <;> have h := hb <;> (try simp only [wf_preprocess] at h) <;> simp -implicitDefEqProofs (disch := omega) only [go_sem, hb] <;> (repeat (with_reducible refine And.intro ?_ ?_; focus first | omega | rfl | assumption | exact ⟨_, rfl, rfl⟩ | (simp; omega) | (simp; done)))
      · refine call_w (implReserved_ok s) ?_
        simp -implicitDefEqProofs (disch := omega) only [go_sem] <;> (repeat (with_reducible refine And.intro ?_ ?_; focus first | omega | rfl | assumption | exact ⟨_, rfl, rfl⟩ | (simp; omega) | (simp; done)))
        exact bool_eq (by rw [h0 _ rfl _ c1 _ hb]; simp)
      · exact bool_eq (by rw [h0 _ rfl _ c1 _ hb]; simp)
    · exact bool_eq (by rw [h0 _ rfl _ hb _ rfl]; simp)
theorem specValidName_ok (s : List UInt8) (hl : s.length ≤ 1073741824) : PCall Try.prog 88 [.c (.d (.s s))] (.c (.d (.b (validName s)))) := fun S => by
  have bad : ¬ nameOk s → validName s = false := fun h => dec_false fun x => h x.2.2
  refine acall_cw (rs := [.tmp 2]) Try.checked.mixed Try.func88 Try.ntmps88 rfl rfl rfl rfl rfl ?_
  simp -implicitDefEqProofs (disch := omega) only [go_sem]
  refine call_w (l1In_ok s.length 1 8) ?_
  simp -implicitDefEqProofs (disch := omega) only [go_sem] <;> (repeat (with_reducible refine And.intro ?_ ?_; focus first | omega | rfl | assumption | exact ⟨_, rfl, rfl⟩ | (simp; omega) | (simp; done)))
  with_reducible refine split2 (fun hb => ?_) (fun hb => ?_) <;> have h := hb <;> (try simp only [wf_preprocess] at h) <;> simp -implicitDefEqProofs (disch := omega) only [go_sem, hb] <;> (repeat (with_reducible refine And.intro ?_ ?_; focus first | omega | rfl | assumption | exact ⟨_, rfl, rfl⟩ | (simp; omega) | (simp; done)))
  · rw [show validName s = false from dec_false fun x => h (by omega)]
  have hlen := h
  refine call_w (specReserved_ok s) ?_
  simp -implicitDefEqProofs (disch := omega) only [go_sem] <;> (repeat (with_reducible refine And.intro ?_ ?_; focus first | omega | rfl | assumption | exact ⟨_, rfl, rfl⟩ | (simp; omega) | (simp; done)))
  with_reducible refine split2 (fun hb => ?_) (fun hb => ?_) <;> have h := hb <;> (try simp only [wf_preprocess] at h) <;> simp -implicitDefEqProofs (disch := omega) only [go_sem, hb] <;> (repeat (with_reducible refine And.intro ?_ ?_; focus first | omega | rfl | assumption | exact ⟨_, rfl, rfl⟩ | (simp; omega) | (simp; done)))
  · rw [show validName s = false from dec_false fun x => x.2.1 h]
  have hres := h
  refine loop_at (ι := Nat) Try.checked.mixed rfl [0, 3] (fun i => [.c (.d (.s s)), .c (.d (.i .i64 i))]) (fun _ => [] :: S)
    (fun i => i ≤ s.length ∧ ∀ j, j < i → lowerB (s.getD j 0) ∨ (j ≠ 0 ∧ digitB (s.getD j 0))) (fun i => s.length - i) 0 rfl rfl ⟨Nat.zero_le _, fun j h => by omega⟩ ?_
  rintro i ⟨p1, p2⟩
  have next : i < s.length → (lowerB (s.getD i 0) ∨ (i ≠ 0 ∧ digitB (s.getD i 0))) → ∀ j, j < i + 1 → lowerB (s.getD j 0) ∨ (j ≠ 0 ∧ digitB (s.getD j 0)) := fun hi h j hj => by
    by_cases e : j = i
    · subst e; exact h
    · exact p2 j (by omega)
  simp -implicitDefEqProofs (disch := omega) only [go_sem]
  with_reducible refine split2 (fun hb => ?_) (fun hb => ?_) <;> have h := hb <;> (try simp only [wf_preprocess] at h) <;> simp -implicitDefEqProofs (disch := omega) only [go_sem, hb] <;> (repeat (with_reducible refine And.intro ?_ ?_; focus first | omega | rfl | assumption | exact ⟨_, rfl, rfl⟩ | (simp; omega) | (simp; done)))
  · have hi : i < s.length := by omega
    have bad' : ¬ (lowerB (s.getD i 0) ∨ (i ≠ 0 ∧ digitB (s.getD i 0))) → validName s = false := fun h => bad fun x => h (x i hi)
    have next := next hi
    unfold lowerB digitB at bad' next
    all_goals try (with_reducible refine split2 (fun hb => ?_) (fun hb => ?_) <;> have h := hb <;> (try simp only [wf_preprocess] at h) <;> simp -implicitDefEqProofs (disch := omega) only [go_sem, hb] <;> (repeat (with_reducible refine And.intro ?_ ?_; focus first | omega | rfl | assumption | exact ⟨_, rfl, rfl⟩ | (simp; omega) | (simp; done))))
    all_goals try (with_reducible refine split2 (fun hb => ?_) (fun hb => ?_) <;> have h := hb <;> (try simp only [wf_preprocess] at h) <;> simp -implicitDefEqProofs (disch := omega) only [go_sem, hb] <;> (repeat (with_reducible refine And.intro ?_ ?_; focus first | omega | rfl | assumption | exact ⟨_, rfl, rfl⟩ | (simp; omega) | (simp; done))))
    all_goals try (with_reducible refine split2 (fun hb => ?_) (fun hb => ?_) <;> have h := hb <;> (try simp only [wf_preprocess] at h) <;> simp -implicitDefEqProofs (disch := omega) only [go_sem, hb] <;> (repeat (with_reducible refine And.intro ?_ ?_; focus first | omega | rfl | assumption | exact ⟨_, rfl, rfl⟩ | (simp; omega) | (simp; done))))
    all_goals try (with_reducible refine split2 (fun hb => ?_) (fun hb => ?_) <;> have h := hb <;> (try simp only [wf_preprocess] at h) <;> simp -implicitDefEqProofs (disch := omega) only [go_sem, hb] <;> (repeat (with_reducible refine And.intro ?_ ?_; focus first | omega | rfl | assumption | exact ⟨_, rfl, rfl⟩ | (simp; omega) | (simp; done))))
    all_goals try (with_reducible refine split2 (fun hb => ?_) (fun hb => ?_) <;> have h := hb <;> (try simp only [wf_preprocess] at h) <;> simp -implicitDefEqProofs (disch := omega) only [go_sem, hb] <;> (repeat (with_reducible refine And.intro ?_ ?_; focus first | omega | rfl | assumption | exact ⟨_, rfl, rfl⟩ | (simp; omega) | (simp; done))))
    all_goals try (with_reducible refine split2 (fun hb => ?_) (fun hb => ?_) <;> have h := hb <;> (try simp only [wf_preprocess] at h) <;> simp -implicitDefEqProofs (disch := omega) only [go_sem, hb] <;> (repeat (with_reducible refine And.intro ?_ ?_; focus first | omega | rfl | assumption | exact ⟨_, rfl, rfl⟩ | (simp; omega) | (simp; done))))
    all_goals first
      | exact inv_at (i + 1) (by omega) rfl rfl ⟨by omega, next (by omega)⟩
      | exact bool_eq (bad' (by omega)).symm
  · rw [show validName s = true from dec_true ⟨by omega, hres, fun j hj => p2 j (by omega)⟩]
theorem l4Base_ok (s : List UInt8) : PCall Try.prog 70 [.c (.d (.s s))] (.c (.d (.b (builtInB s)))) := fun S => by
  refine acall_cw (rs := [.tmp 2]) Try.checked.mixed Try.func70 Try.ntmps70 rfl rfl rfl rfl rfl ?_
  simp -implicitDefEqProofs (disch := omega) only [go_sem]
  with_reducible refine split2 (fun hb => ?_) (fun hb => ?_) <;> have h := hb <;> (try simp only [wf_preprocess] at h) <;> simp -implicitDefEqProofs (disch := omega) only [go_sem, hb] <;> (repeat (with_reducible refine And.intro ?_ ?_; focus first | omega | rfl | assumption | exact ⟨_, rfl, rfl⟩ | (simp; omega) | (simp; done)))
  · exact bool_eq (dec_true (.inl h)).symm
  · exact bool_eq (by rw [decide_dec]; exact dec_congr ⟨fun x => .inr x, fun x => x.resolve_left h⟩)
theorem isBuiltIn_ok (s : List UInt8) : PCall Try.prog 39 [.c (.d (.s s))] (.c (.d (.b (builtInB s)))) := fun S => by
  refine acall_cw (rs := [.tmp 2]) Try.checked.mixed Try.func39 Try.ntmps39 rfl rfl rfl rfl rfl ?_
  simp -implicitDefEqProofs (disch := omega) only [go_sem]
  with_reducible refine split2 (fun hb => ?_) (fun hb => ?_) <;> have h := hb <;> (try simp only [wf_preprocess] at h) <;> simp -implicitDefEqProofs (disch := omega) only [go_sem, hb] <;> (repeat (with_reducible refine And.intro ?_ ?_; focus first | omega | rfl | assumption | exact ⟨_, rfl, rfl⟩ | (simp; omega) | (simp; done)))
  · exact bool_eq (dec_true (.inl h)).symm
  · exact bool_eq (by rw [decide_dec]; exact dec_congr ⟨fun x => .inr x, fun x => x.resolve_left h⟩)
end Go.Proofs.Ytceaigchkgifgaa

namespace Go.Proofs.Ytceaigchkgifgaa
open Go Go.Ab
end Go.Proofs.Ytceaigchkgifgaa

namespace Go.Proofs.Ytceaigchkgifgaa
open Go Go.Ab
theorem arg_sz {x : MType} {i : Nat} (hi : i < x.fArgs.length) (h : x.sz ≤ 4194304) : x.fArgs[i].sz ≤ 4194304 ∧ x.fArgs.length ≤ 4194304 ∧ x.fName.length ≤ 4194304 := by
  have hx : x.fArgs[i].sz ≤ szRows (x.fArgs.map MType.enc) := szRows_mem (List.mem_map_of_mem (List.getElem_mem hi))
  simp only [MType.sz, MType.enc_eq, szRow, D.sz, List.length_map] at h
  omega
theorem ty_sz {x : MType} (h : x.sz ≤ 4194304) : x.fArgs.length ≤ 4194304 ∧ x.fName.length ≤ 4194304 := by
  simp only [MType.sz, MType.enc_eq, szRow, D.sz, List.length_map] at h
  omega
theorem cnts_drop : ∀ {ts : List MType} {i : Nat} (hi : i < ts.length), MType.cnts (ts.drop i) = ts[i].cnt + MType.cnts (ts.drop (i + 1)) := fun {ts} {i} hi => by
  rw [List.drop_eq_getElem_cons hi, MType.cnts]
theorem depths_drop : ∀ {ts : List MType} {i : Nat} (hi : i < ts.length), depths (ts.drop i) = max (depthT ts[i] + 1) (depths (ts.drop (i + 1))) := fun {ts} {i} hi => by
  rw [List.drop_eq_getElem_cons hi, depths]
theorem formeds_drop : ∀ {ts : List MType} {i : Nat} (hi : i < ts.length), formeds (ts.drop i) = (formed ts[i] && formeds (ts.drop (i + 1))) := fun {ts} {i} hi => by
  rw [List.drop_eq_getElem_cons hi, formeds]
theorem l4Left_all : ∀ n : Nat, ∀ x : MType, SizeOf.sizeOf x < n → ∀ l : Int, 0 ≤ l → l ≤ 1073741824 → x.sz ≤ 4194304 → PCall Try.prog 120 [x.v, .c (.d (.i .i64 l))] (.c (.d (.i .i64 (sub1 l x.cnt))))
  | 0 => fun x h => by omega
  | n + 1 => by
    have ih := l4Left_all n
    intro x hn l h0 h1 hsz S
    have lArgs := MType.lt_Args x
    have hts := ty_sz hsz
    have hcn := MType.cnt_eq x
    refine acall_cw (rs := [.tmp 4]) Try.checked.mixed Try.func120 Try.ntmps120 rfl rfl rfl rfl rfl ?_
    simp -implicitDefEqProofs (disch := omega) only [go_sem]
    refine loop_at (ι := Nat × Int) Try.checked.mixed rfl [1, 2, 5] (fun y => [.c (.d (.i .i64 y.2)), .c (.ptr (0, 0) 0), .c (.d (.i .i64 y.1))]) (fun y => [.box [.d (.i .i64 x.fKind), .d (.s x.fName), .d (.sl (x.fArgs.map MType.enc))]] :: S)
      (fun y => y.1 ≤ x.fArgs.length ∧ -1 ≤ y.2 ∧ y.2 ≤ 1073741824 ∧ (0 ≤ y.2 → sub1 l x.cnt = sub1 y.2 (MType.cnts (x.fArgs.drop y.1))) ∧ (y.2 < 0 → sub1 l x.cnt = -1)) (fun y => x.fArgs.length - y.1) (0, l - 1) rfl rfl ⟨Nat.zero_le _, by simp only; omega, by simp only; omega, fun h => ?_, fun h => ?_⟩ ?_
    · simp only [List.drop_zero] at h ⊢
      unfold sub1
      rw [hcn]
      split <;> split <;> omega
    · simp only at h
      exact sub1_no (by omega)
    rintro ⟨i, c⟩ ⟨p1, p2, p3, p4, p5⟩
    simp only at p1 p2 p3 p4 p5
    simp -implicitDefEqProofs (disch := omega) only [go_sem]
    with_reducible refine split2 (fun hb => ?_) (fun hb => ?_) <;> have h := hb <;> (try simp only [wf_preprocess] at h) <;> simp -implicitDefEqProofs (disch := omega) only [go_sem, hb] <;> (repeat (with_reducible refine And.intro ?_ ?_; focus first | omega | rfl | assumption | exact ⟨_, rfl, rfl⟩ | (simp; omega) | (simp; done)))
    · have hi : i < x.fArgs.length := by omega
      with_reducible refine split2 (fun hb => ?_) (fun hb => ?_) <;> have h := hb <;> (try simp only [wf_preprocess] at h) <;> simp -implicitDefEqProofs (disch := omega) only [go_sem, hb] <;> (repeat (with_reducible refine And.intro ?_ ?_; focus first | omega | rfl | assumption | exact ⟨_, rfl, rfl⟩ | (simp; omega) | (simp; done)))
      · have hsz' := arg_sz hi hsz
        have p6 := p4 h
        rw [cnts_drop hi] at p6
        (repeat (with_reducible refine And.intro ?_ ?_; focus first | omega | rfl | assumption | exact ⟨_, rfl, rfl⟩ | (simp; omega) | (simp; done)))
        refine call_w (ih x.fArgs[i] (by have := List.sizeOf_lt_of_mem (List.getElem_mem hi); omega) c (by omega) (by omega) (by omega)) ?_
        simp -implicitDefEqProofs (disch := omega) only [go_sem] <;> (repeat (with_reducible refine And.intro ?_ ?_; focus first | omega | rfl | assumption | exact ⟨_, rfl, rfl⟩ | (simp; omega) | (simp; done)))
        refine inv_at (i + 1, sub1 c _) (by simp only; omega) rfl rfl ⟨by simp only; omega, ?_, ?_, fun h => ?_, fun h => ?_⟩
        · simp only; unfold sub1; split <;> omega
        · simp only; unfold sub1; split <;> omega
        · simp only at h ⊢
          rw [p6]
          have := sub1_nn (l := c) (a := x.fArgs[i].cnt) (by omega)
          rw [this.1]
          unfold sub1
          split <;> split <;> omega
        · simp only at h ⊢
          rw [p6]
          have := sub1_neg h
          exact sub1_no (by omega)
      · have hc : c = -1 := by omega
        rw [p5 (by omega), hc]
    · have hi : i = x.fArgs.length := by omega
      by_cases hc : 0 ≤ c
      · rw [p4 hc, hi, List.drop_length, MType.cnts, sub1_yes (by omega)]
        exact int_eq (by simp)
      · rw [p5 (by omega)]
        exact int_eq (by omega)
theorem l4Left_ok (x : MType) (l : Int) (h0 : 0 ≤ l) (h1 : l ≤ 1073741824) (hsz : x.sz ≤ 4194304) : PCall Try.prog 120 [x.v, .c (.d (.i .i64 l))] (.c (.d (.i .i64 (sub1 l x.cnt)))) := l4Left_all _ x (Nat.lt_succ_self _) l h0 h1 hsz
theorem l1Max_ok (a b : Int) : PCall Try.prog 133 [.c (.d (.i .i64 a)), .c (.d (.i .i64 b))] (.c (.d (.i .i64 (max a b)))) := fun S => by
  refine acall_cw (rs := [.tmp 4]) Try.checked.mixed Try.func133 Try.ntmps133 rfl rfl rfl rfl rfl ?_
  simp -implicitDefEqProofs (disch := omega) only [go_sem]
  with_reducible refine split2 (fun hb => ?_) (fun hb => ?_) <;> have h := hb <;> (try simp only [wf_preprocess] at h) <;> simp -implicitDefEqProofs (disch := omega) only [go_sem, hb] <;> (repeat (with_reducible refine And.intro ?_ ?_; focus first | omega | rfl | assumption | exact ⟨_, rfl, rfl⟩ | (simp; omega) | (simp; done)))
  · exact int_eq (by omega)
  · exact int_eq (by omega)
theorem specDepth_all : ∀ n : Nat, ∀ x : MType, SizeOf.sizeOf x < n → x.sz ≤ 4194304 → PCall Try.prog 121 [x.v] (.c (.d (.i .i64 (depthT x))))
  | 0 => fun x h => by omega
  | n + 1 => by
    have ih := specDepth_all n
    intro x hn hsz S
    have lArgs := MType.lt_Args x
    have hts := ty_sz hsz
    have hd1 := depthT_le x
    have hd2 := cnt_le x
    refine acall_cw (rs := [.tmp 2]) Try.checked.mixed Try.func121 Try.ntmps121 rfl rfl rfl rfl rfl ?_
    simp -implicitDefEqProofs (disch := omega) only [go_sem]
    refine loop_at (ι := Nat × Nat) Try.checked.mixed rfl [1, 3, 4] (fun y => [.c (.ptr (0, 0) 0), .c (.d (.i .i64 y.2)), .c (.d (.i .i64 y.1))]) (fun y => [.box [.d (.i .i64 x.fKind), .d (.s x.fName), .d (.sl (x.fArgs.map MType.enc))]] :: S)
      (fun y => y.1 ≤ x.fArgs.length ∧ depthT x = max y.2 (depths (x.fArgs.drop y.1))) (fun y => x.fArgs.length - y.1) (0, 0) rfl rfl ⟨Nat.zero_le _, by simp [depthT_eq]⟩ ?_
    rintro ⟨i, c⟩ ⟨p1, p2⟩
    simp only at p1 p2
    simp -implicitDefEqProofs (disch := omega) only [go_sem]
    with_reducible refine split2 (fun hb => ?_) (fun hb => ?_) <;> have h := hb <;> (try simp only [wf_preprocess] at h) <;> simp -implicitDefEqProofs (disch := omega) only [go_sem, hb] <;> (repeat (with_reducible refine And.intro ?_ ?_; focus first | omega | rfl | assumption | exact ⟨_, rfl, rfl⟩ | (simp; omega) | (simp; done)))
    · have hi : i < x.fArgs.length := by omega
      have hsz' := arg_sz hi hsz
      rw [depths_drop hi] at p2
      have hd3 := depthT_le x.fArgs[i]
      have hd4 := cnt_le x.fArgs[i]
      (repeat (with_reducible refine And.intro ?_ ?_; focus first | omega | rfl | assumption | exact ⟨_, rfl, rfl⟩ | (simp; omega) | (simp; done)))
      refine call_w (ih x.fArgs[i] (by have := List.sizeOf_lt_of_mem (List.getElem_mem hi); omega) (by omega)) ?_
      simp -implicitDefEqProofs (disch := omega) only [go_sem] <;> (repeat (with_reducible refine And.intro ?_ ?_; focus first | omega | rfl | assumption | exact ⟨_, rfl, rfl⟩ | (simp; omega) | (simp; done)))
      refine call_w (l1Max_ok _ _) ?_
      simp -implicitDefEqProofs (disch := omega) only [go_sem] <;> (repeat (with_reducible refine And.intro ?_ ?_; focus first | omega | rfl | assumption | exact ⟨_, rfl, rfl⟩ | (simp; omega) | (simp; done)))
      rw [show max (c : Int) (1 + (depthT x.fArgs[i] : Int)) = ((max c (1 + depthT x.fArgs[i]) : Nat) : Int) by omega]
      exact inv_at (i + 1, max c (1 + depthT x.fArgs[i])) (by simp only; omega) rfl rfl ⟨by simp only; omega, by simp only; omega⟩
    · have hi : i = x.fArgs.length := by omega
      rw [hi, List.drop_length, depths] at p2
      exact int_eq (by omega)
theorem specDepth_ok (x : MType) (hsz : x.sz ≤ 4194304) : PCall Try.prog 121 [x.v] (.c (.d (.i .i64 (depthT x)))) := specDepth_all _ x (Nat.lt_succ_self _) hsz
theorem implDepth_all : ∀ n : Nat, ∀ x : MType, SizeOf.sizeOf x < n → x.sz ≤ 4194304 → PCall Try.prog 130 [x.v] (.c (.d (.i .i64 (depthT x))))
  | 0 => fun x h => by omega
  | n + 1 => by
    have ih := implDepth_all n
    intro x hn hsz S
    have lArgs := MType.lt_Args x
    have hts := ty_sz hsz
    have hd1 := depthT_le x
    have hd2 := cnt_le x
    refine acall_cw (rs := [.tmp 2]) Try.checked.mixed Try.func130 Try.ntmps130 rfl rfl rfl rfl rfl ?_
    simp -implicitDefEqProofs (disch := omega) only [go_sem]
    refine loop_at (ι := Nat × Nat) Try.checked.mixed rfl [3, 7, 8, 9] (fun y => [.c (.d (.i .i64 y.2)), .c (.d (.sl (x.fArgs.map MType.enc))), .c (.d (.i .i64 x.fArgs.length)), .c (.d (.i .i64 y.1))]) (fun y => [.box [.d (.i .i64 x.fKind), .d (.s x.fName), .d (.sl (x.fArgs.map MType.enc))]] :: S)
      (fun y => y.1 ≤ x.fArgs.length ∧ depthT x = max y.2 (depths (x.fArgs.drop y.1))) (fun y => x.fArgs.length - y.1) (0, 0) rfl rfl ⟨Nat.zero_le _, by simp [depthT_eq]⟩ ?_
    rintro ⟨i, c⟩ ⟨p1, p2⟩
    simp only at p1 p2
    simp -implicitDefEqProofs (disch := omega) only [go_sem]
    with_reducible refine split2 (fun hb => ?_) (fun hb => ?_) <;> have h := hb <;> (try simp only [wf_preprocess] at h) <;> simp -implicitDefEqProofs (disch := omega) only [go_sem, hb] <;> (repeat (with_reducible refine And.intro ?_ ?_; focus first | omega | rfl | assumption | exact ⟨_, rfl, rfl⟩ | (simp; omega) | (simp; done)))
    · have hi : i < x.fArgs.length := by omega
      have hsz' := arg_sz hi hsz
      rw [depths_drop hi] at p2
      have hd3 := depthT_le x.fArgs[i]
      have hd4 := cnt_le x.fArgs[i]
      (repeat (with_reducible refine And.intro ?_ ?_; focus first | omega | rfl | assumption | exact ⟨_, rfl, rfl⟩ | (simp; omega) | (simp; done)))
      refine call_w (ih x.fArgs[i] (by have := List.sizeOf_lt_of_mem (List.getElem_mem hi); omega) (by omega)) ?_
      simp -implicitDefEqProofs (disch := omega) only [go_sem] <;> (repeat (with_reducible refine And.intro ?_ ?_; focus first | omega | rfl | assumption | exact ⟨_, rfl, rfl⟩ | (simp; omega) | (simp; done)))
      rw [show max (c : Int) ((depthT x.fArgs[i] : Int) + 1) = ((max c (depthT x.fArgs[i] + 1) : Nat) : Int) by omega]
      exact inv_drop 1 (by decide) (i + 1, max c (depthT x.fArgs[i] + 1)) (by simp only; omega) rfl rfl rfl rfl ⟨by simp only; omega, by simp only; omega⟩
    · have hi : i = x.fArgs.length := by omega
      rw [hi, List.drop_length, depths] at p2
      exact int_eq (by omega)
theorem implDepth_ok (x : MType) (hsz : x.sz ≤ 4194304) : PCall Try.prog 130 [x.v] (.c (.d (.i .i64 (depthT x)))) := implDepth_all _ x (Nat.lt_succ_self _) hsz
theorem typeSize_all : ∀ n : Nat, ∀ x : MType, SizeOf.sizeOf x < n → x.sz ≤ 4194304 → PCall Try.prog 131 [x.v] (.c (.d (.i .i64 x.cnt)))
  | 0 => fun x h => by omega
  | n + 1 => by
    have ih := typeSize_all n
    intro x hn hsz S
    have lArgs := MType.lt_Args x
    have hts := ty_sz hsz
    have hd2 := cnt_le x
    refine acall_cw (rs := [.tmp 2]) Try.checked.mixed Try.func131 Try.ntmps131 rfl rfl rfl rfl rfl ?_
    simp -implicitDefEqProofs (disch := omega) only [go_sem]
    refine loop_at (ι := Nat × Nat) Try.checked.mixed rfl [3, 7, 8, 9] (fun y => [.c (.d (.i .i64 y.2)), .c (.d (.sl (x.fArgs.map MType.enc))), .c (.d (.i .i64 x.fArgs.length)), .c (.d (.i .i64 y.1))]) (fun y => [.box [.d (.i .i64 x.fKind), .d (.s x.fName), .d (.sl (x.fArgs.map MType.enc))]] :: S)
      (fun y => y.1 ≤ x.fArgs.length ∧ x.cnt = y.2 + MType.cnts (x.fArgs.drop y.1)) (fun y => x.fArgs.length - y.1) (0, 1) rfl rfl ⟨Nat.zero_le _, by simp [MType.cnt_eq]⟩ ?_
    rintro ⟨i, c⟩ ⟨p1, p2⟩
    simp only at p1 p2
    simp -implicitDefEqProofs (disch := omega) only [go_sem]
    with_reducible refine split2 (fun hb => ?_) (fun hb => ?_) <;> have h := hb <;> (try simp only [wf_preprocess] at h) <;> simp -implicitDefEqProofs (disch := omega) only [go_sem, hb] <;> (repeat (with_reducible refine And.intro ?_ ?_; focus first | omega | rfl | assumption | exact ⟨_, rfl, rfl⟩ | (simp; omega) | (simp; done)))
    · have hi : i < x.fArgs.length := by omega
      have hsz' := arg_sz hi hsz
      rw [cnts_drop hi] at p2
      (repeat (with_reducible refine And.intro ?_ ?_; focus first | omega | rfl | assumption | exact ⟨_, rfl, rfl⟩ | (simp; omega) | (simp; done)))
      refine call_w (ih x.fArgs[i] (by have := List.sizeOf_lt_of_mem (List.getElem_mem hi); omega) (by omega)) ?_
      simp -implicitDefEqProofs (disch := omega) only [go_sem] <;> (repeat (with_reducible refine And.intro ?_ ?_; focus first | omega | rfl | assumption | exact ⟨_, rfl, rfl⟩ | (simp; omega) | (simp; done)))
      rw [show (c : Int) + (x.fArgs[i].cnt : Int) = ((c + x.fArgs[i].cnt : Nat) : Int) by omega]
      exact inv_drop 1 (by decide) (i + 1, c + x.fArgs[i].cnt) (by simp only; omega) rfl rfl rfl rfl ⟨by simp only; omega, by simp only; omega⟩
    · have hi : i = x.fArgs.length := by omega
      rw [hi, List.drop_length, MType.cnts] at p2
      exact int_eq (by omega)
theorem typeSize_ok (x : MType) (hsz : x.sz ≤ 4194304) : PCall Try.prog 131 [x.v] (.c (.d (.i .i64 x.cnt))) := typeSize_all _ x (Nat.lt_succ_self _) hsz
theorem isFormed_all : ∀ n : Nat, (∀ x : MType, SizeOf.sizeOf x < n → x.sz ≤ 4194304 → PCall Try.prog 129 [x.v] (.c (.d (.b (formed x))))) ∧
    (∀ xs : List MType, SizeOf.sizeOf xs < n → xs.length ≤ 4194304 → (∀ t ∈ xs, t.sz ≤ 4194304) → PCall Try.prog 139 [.c (.d (.sl (xs.map MType.enc))), .c (.fn 140 [])] (.c (.d (.b (!formeds xs)))))
  | 0 => ⟨fun x h => by omega, fun x h => by omega⟩
  | n + 1 => by
    obtain ⟨ih, ihS⟩ := isFormed_all n
    refine ⟨fun x hn hsz S => ?_, fun xs hn hlen hsz S => ?_⟩
    · have lArgs := MType.lt_Args x
      have hts := ty_sz hsz
      have fin : ∀ b, fineT x.fKind x.fName x.fArgs.length = b → formed x = (b && formeds x.fArgs) := fun b hb => by rw [← hb]; exact formed_eq x
      have hall : ∀ t ∈ x.fArgs, t.sz ≤ 4194304 := fun t ht => by
        obtain ⟨i, hi, e⟩ := List.getElem_of_mem ht
        rw [← e]; exact (arg_sz hi hsz).1
      have tail := ihS x.fArgs (by omega) hts.1 hall
      have yes : fineT x.fKind x.fName x.fArgs.length = true → formed x = !(!formeds x.fArgs) := fun h => by rw [fin _ h]; simp
      have no : fineT x.fKind x.fName x.fArgs.length = false → formed x = false := fun h => by rw [fin _ h]; simp
      have shut : ¬ ((x.fKind = 1 ∨ x.fKind = 4) ∧ validName x.fName = true ∧ x.fArgs.length = 0 ∨ x.fKind = 3 ∧ validName x.fName = true ∧ x.fArgs.length = 1 ∨ x.fKind = 2 ∧ (validName x.fName = true ∧ x.fArgs.length ≤ 3 ∨ builtInB x.fName = true ∧ x.fArgs.length = 0)) → V.c (.d (.b false)) = V.c (.d (.b (formed x))) := fun h => bool_eq (no (dec_false h)).symm
      have open_ : ((x.fKind = 1 ∨ x.fKind = 4) ∧ validName x.fName = true ∧ x.fArgs.length = 0 ∨ x.fKind = 3 ∧ validName x.fName = true ∧ x.fArgs.length = 1 ∨ x.fKind = 2 ∧ (validName x.fName = true ∧ x.fArgs.length ≤ 3 ∨ builtInB x.fName = true ∧ x.fArgs.length = 0)) → V.c (.d (.b (!(!formeds x.fArgs)))) = V.c (.d (.b (formed x))) := fun h => bool_eq (yes (dec_true h)).symm
      clear yes no fin
      refine acall_cw (rs := [.tmp 2]) Try.checked.mixed Try.func129 Try.ntmps129 rfl rfl rfl rfl rfl ?_
      simp -implicitDefEqProofs (disch := omega) only [go_sem]
      repeat' (first
        | (with_reducible refine split2 (fun hb => ?_) (fun hb => ?_) <;> have h := hb <;> (try simp only [wf_preprocess] at h) <;> simp -implicitDefEqProofs (disch := omega) only [go_sem, hb] <;> (repeat (with_reducible refine And.intro ?_ ?_; focus first | omega | rfl | assumption | exact ⟨_, rfl, rfl⟩ | (simp; omega) | (simp; done))))
        | (refine call_w (implValidName_ok x.fName (by omega)) ?_; simp -implicitDefEqProofs (disch := omega) only [go_sem])
        | (refine call_w (isBuiltIn_ok x.fName) ?_; simp -implicitDefEqProofs (disch := omega) only [go_sem])
        | (refine call_w tail ?_; simp -implicitDefEqProofs (disch := omega) only [go_sem]))
      all_goals first
        | (refine shut (fun y => ?_); rcases y with ⟨_, _, _⟩ | ⟨_, _, _⟩ | ⟨_, ⟨_, _⟩ | ⟨_, _⟩⟩ <;> first | omega | (simp_all; done))
        | (refine open_ ?_; first
            | exact .inl ⟨by omega, by assumption, by omega⟩
            | exact .inr (.inl ⟨by omega, by assumption, by omega⟩)
            | exact .inr (.inr ⟨by omega, .inl ⟨by assumption, by omega⟩⟩)
            | exact .inr (.inr ⟨by omega, .inr ⟨by assumption, by omega⟩⟩))
    · have hcl : ∀ y ∈ xs, PCall Try.prog 140 [y.v] (.c (.d (.b (!formed y)))) := fun y hy S => by
        have hys := List.sizeOf_lt_of_mem hy
        refine acall_cw (rs := [.tmp 2]) Try.checked.mixed Try.func140 Try.ntmps140 rfl rfl rfl rfl rfl ?_
        simp -implicitDefEqProofs (disch := omega) only [go_sem]
        refine call_w (ih y (by omega) (hsz y hy)) ?_
        simp -implicitDefEqProofs (disch := omega) only [go_sem] <;> (repeat (with_reducible refine And.intro ?_ ?_; focus first | omega | rfl | assumption | exact ⟨_, rfl, rfl⟩ | (simp; omega) | (simp; done)))
      have hidx : PCall Try.prog 143 [.c (.d (.sl (xs.map MType.enc))), .c (.fn 140 [])] (.c (.d (.i .i64 (indexP (fun y => !formed y) xs)))) := fun S => by
        refine acall_cw (rs := [.tmp 4]) Try.checked.mixed Try.func143 Try.ntmps143 rfl rfl rfl rfl rfl ?_
        simp -implicitDefEqProofs (disch := omega) only [go_sem]
        refine loop_at (ι := Nat) Try.checked.mixed rfl [0, 1, 7, 8] (fun i => [.c (.d (.sl (xs.map MType.enc))), .c (.fn 140 []), .c (.d (.i .i64 xs.length)), .c (.d (.i .i64 i))]) (fun _ => [] :: S)
          (fun i => i ≤ xs.length ∧ ∀ j, ∀ hj : j < xs.length, j < i → formed xs[j] = true) (fun i => xs.length - i) 0 rfl rfl ⟨Nat.zero_le _, fun j _ h => by omega⟩ ?_
        rintro i ⟨p1, p2⟩
        simp -implicitDefEqProofs (disch := omega) only [go_sem]
        with_reducible refine split2 (fun hb => ?_) (fun hb => ?_) <;> have h := hb <;> (try simp only [wf_preprocess] at h) <;> simp -implicitDefEqProofs (disch := omega) only [go_sem, hb] <;> (repeat (with_reducible refine And.intro ?_ ?_; focus first | omega | rfl | assumption | exact ⟨_, rfl, rfl⟩ | (simp; omega) | (simp; done)))
        · have hi : i < xs.length := by omega
          (repeat (with_reducible refine And.intro ?_ ?_; focus first | omega | rfl | assumption | exact ⟨_, rfl, rfl⟩ | (simp; omega) | (simp; done)))
          refine call_w (hcl xs[i] (List.getElem_mem hi)) ?_
          simp -implicitDefEqProofs (disch := omega) only [go_sem] <;> (repeat (with_reducible refine And.intro ?_ ?_; focus first | omega | rfl | assumption | exact ⟨_, rfl, rfl⟩ | (simp; omega) | (simp; done)))
          with_reducible refine split2 (fun hb => ?_) (fun hb => ?_) <;> have h := hb <;> (try simp only [wf_preprocess] at h) <;> simp -implicitDefEqProofs (disch := omega) only [go_sem, hb] <;> (repeat (with_reducible refine And.intro ?_ ?_; focus first | omega | rfl | assumption | exact ⟨_, rfl, rfl⟩ | (simp; omega) | (simp; done)))
          · rw [indexP_here hi (fun j hj hji => by rw [p2 j hj hji]; rfl) (by rw [h]; rfl)]
          · refine inv_at (i + 1) (by omega) rfl rfl ⟨by omega, fun j hj hji => ?_⟩
            by_cases e : j = i
            · subst e; exact h
            · exact p2 j hj (by omega)
        · rw [indexP_no (fun j hj => by rw [p2 j hj (by omega)]; rfl)]
      refine acall_cw (rs := [.tmp 4]) Try.checked.mixed Try.func139 Try.ntmps139 rfl rfl rfl rfl rfl ?_
      simp -implicitDefEqProofs (disch := omega) only [go_sem]
      refine call_w (hidx) ?_
      simp -implicitDefEqProofs (disch := omega) only [go_sem] <;> (repeat (with_reducible refine And.intro ?_ ?_; focus first | omega | rfl | assumption | exact ⟨_, rfl, rfl⟩ | (simp; omega) | (simp; done)))
      rw [← formeds_any]
      exact bool_eq indexP_pos
theorem isFormed_ok (x : MType) (hsz : x.sz ≤ 4194304) : PCall Try.prog 129 [x.v] (.c (.d (.b (formed x)))) := (isFormed_all _).1 x (Nat.lt_succ_self _) hsz
theorem implValidType_ok (x : MType) (hsz : x.sz ≤ 4194304) : PCall Try.prog 111 [x.v] (.c (.d (.b (validType x)))) := fun S => by
  refine acall_cw (rs := [.tmp 2]) Try.checked.mixed Try.func111 Try.ntmps111 rfl rfl rfl rfl rfl ?_
  simp -implicitDefEqProofs (disch := omega) only [go_sem]
  refine call_w (isFormed_ok x hsz) ?_
  simp -implicitDefEqProofs (disch := omega) only [go_sem] <;> (repeat (with_reducible refine And.intro ?_ ?_; focus first | omega | rfl | assumption | exact ⟨_, rfl, rfl⟩ | (simp; omega) | (simp; done)))
  with_reducible refine split2 (fun hb => ?_) (fun hb => ?_) <;> have h := hb <;> (try simp only [wf_preprocess] at h) <;> simp -implicitDefEqProofs (disch := omega) only [go_sem, hb] <;> (repeat (with_reducible refine And.intro ?_ ?_; focus first | omega | rfl | assumption | exact ⟨_, rfl, rfl⟩ | (simp; omega) | (simp; done)))
  · have h1 := h
    refine call_w (implDepth_ok x hsz) ?_
    simp -implicitDefEqProofs (disch := omega) only [go_sem] <;> (repeat (with_reducible refine And.intro ?_ ?_; focus first | omega | rfl | assumption | exact ⟨_, rfl, rfl⟩ | (simp; omega) | (simp; done)))
    with_reducible refine split2 (fun hb => ?_) (fun hb => ?_) <;> have h := hb <;> (try simp only [wf_preprocess] at h) <;> simp -implicitDefEqProofs (disch := omega) only [go_sem, hb] <;> (repeat (with_reducible refine And.intro ?_ ?_; focus first | omega | rfl | assumption | exact ⟨_, rfl, rfl⟩ | (simp; omega) | (simp; done)))
    · refine call_w (typeSize_ok x hsz) ?_
      simp -implicitDefEqProofs (disch := omega) only [go_sem] <;> (repeat (with_reducible refine And.intro ?_ ?_; focus first | omega | rfl | assumption | exact ⟨_, rfl, rfl⟩ | (simp; omega) | (simp; done)))
      exact bool_eq (by rw [decide_dec]; exact dec_congr ⟨fun y => ⟨h1, by omega, by omega⟩, fun y => by have := y.2.2; omega⟩)
    · exact bool_eq (dec_false fun y => by have := y.2.1; omega).symm
  · exact bool_eq (dec_false fun y => by rw [y.1] at h; cases h).symm
set_option maxHeartbeats 1000000 in
theorem l4Form_all : ∀ n : Nat, ∀ x : MType, SizeOf.sizeOf x < n → x.sz ≤ 4194304 → PCall Try.prog 122 [x.v] (.c (.d (.b (formed x))))
  | 0 => fun x h => by omega
  | n + 1 => by
    have ih := l4Form_all n
    intro x hn hsz S
    have lArgs := MType.lt_Args x
    have hts := ty_sz hsz
    have shut : ¬ ((x.fKind = 1 ∨ x.fKind = 4) ∧ validName x.fName = true ∧ x.fArgs.length = 0 ∨ x.fKind = 3 ∧ validName x.fName = true ∧ x.fArgs.length = 1 ∨ x.fKind = 2 ∧ (validName x.fName = true ∧ x.fArgs.length ≤ 3 ∨ builtInB x.fName = true ∧ x.fArgs.length = 0)) → V.c (.d (.b false)) = V.c (.d (.b (formed x))) := fun h => bool_eq (by rw [formed_eq, show fineT x.fKind x.fName x.fArgs.length = false from dec_false h]; rfl)
    have fine0 : ∀ b : Bool, (b = true ↔ ((x.fKind = 1 ∨ x.fKind = 4) ∧ validName x.fName = true ∧ x.fArgs.length = 0 ∨ x.fKind = 3 ∧ validName x.fName = true ∧ x.fArgs.length = 1 ∨ x.fKind = 2 ∧ (validName x.fName = true ∧ x.fArgs.length ≤ 3 ∨ builtInB x.fName = true ∧ x.fArgs.length = 0))) → b = fineT x.fKind x.fName x.fArgs.length := fun b h => by
      rw [Bool.eq_iff_iff, h]
      unfold fineT
      rw [dec_eq_true]
    refine acall_cw (rs := [.tmp 2]) Try.checked.mixed Try.func122 Try.ntmps122 rfl rfl rfl rfl rfl ?_
    simp -implicitDefEqProofs (disch := omega) only [go_sem]
    refine call_w (specValidName_ok x.fName (by omega)) ?_
    simp -implicitDefEqProofs (disch := omega) only [go_sem] <;> (repeat (with_reducible refine And.intro ?_ ?_; focus first | omega | rfl | assumption | exact ⟨_, rfl, rfl⟩ | (simp; omega) | (simp; done)))
    repeat' (first
      | (with_reducible refine split2 (fun hb => ?_) (fun hb => ?_) <;> have h := hb <;> (try simp only [wf_preprocess] at h) <;> simp -implicitDefEqProofs (disch := omega) only [go_sem, hb] <;> (repeat (with_reducible refine And.intro ?_ ?_; focus first | omega | rfl | assumption | exact ⟨_, rfl, rfl⟩ | (simp; omega) | (simp; done))))
      | (refine call_w (l4Base_ok x.fName) ?_; simp -implicitDefEqProofs (disch := omega) only [go_sem]))
    all_goals first
      | (refine shut (fun y => ?_); rcases y with ⟨_, _, _⟩ | ⟨_, _, _⟩ | ⟨_, ⟨_, _⟩ | ⟨_, _⟩⟩ <;> first | omega | (simp_all; done))
      | skip
    all_goals
      refine loop_at (ι := Nat × Bool) Try.checked.mixed rfl [1, 3, 4] (fun y => [.c (.ptr (0, 0) 0), .c (.d (.b y.2)), .c (.d (.i .i64 y.1))]) (fun y => [.box [.d (.i .i64 x.fKind), .d (.s x.fName), .d (.sl (x.fArgs.map MType.enc))]] :: S)
        (fun y => y.1 ≤ x.fArgs.length ∧ (y.2 && formeds (x.fArgs.drop y.1)) = formed x) (fun y => x.fArgs.length - y.1) (0, fineT x.fKind x.fName x.fArgs.length) ?_ rfl ⟨Nat.zero_le _, by rw [formed_eq]; rfl⟩ ?_
      · simp only [List.map_cons, List.map_nil]
        simp -implicitDefEqProofs (disch := omega) only [go_sem, List.cons.injEq, V.c.injEq, C.d.injEq, D.b.injEq, Int.natCast_zero]
        refine fine0 _ ⟨fun y => ?_, fun y => ?_⟩
        · (try simp only [decide_eq_true_eq, Bool.false_eq_true] at y) <;> first
            | exact .inl ⟨by omega, by assumption, by omega⟩
            | exact .inr (.inl ⟨by omega, by assumption, by omega⟩)
            | exact .inr (.inr ⟨by omega, .inl ⟨by assumption, by omega⟩⟩)
            | exact .inr (.inr ⟨by omega, .inr ⟨by assumption, by omega⟩⟩)
        · rcases y with ⟨_, _, _⟩ | ⟨_, _, _⟩ | ⟨_, ⟨_, _⟩ | ⟨_, _⟩⟩ <;> first | omega | (simp only [decide_eq_true_eq]; omega) | (simp_all; done)
      rintro ⟨i, c⟩ ⟨p1, p2⟩
      simp only at p1 p2
      simp -implicitDefEqProofs (disch := omega) only [go_sem]
      with_reducible refine split2 (fun hb => ?_) (fun hb => ?_) <;> have h := hb <;> (try simp only [wf_preprocess] at h) <;> simp -implicitDefEqProofs (disch := omega) only [go_sem, hb] <;> (repeat (with_reducible refine And.intro ?_ ?_; focus first | omega | rfl | assumption | exact ⟨_, rfl, rfl⟩ | (simp; omega) | (simp; done)))
      · have hi : i < x.fArgs.length := by omega
        have hsz' := arg_sz hi hsz
        rw [formeds_drop hi] at p2
        with_reducible refine split2 (fun hb => ?_) (fun hb => ?_) <;> have h := hb <;> (try simp only [wf_preprocess] at h) <;> simp -implicitDefEqProofs (disch := omega) only [go_sem, hb] <;> (repeat (with_reducible refine And.intro ?_ ?_; focus first | omega | rfl | assumption | exact ⟨_, rfl, rfl⟩ | (simp; omega) | (simp; done)))
        · refine call_w (ih x.fArgs[i] (by have := List.sizeOf_lt_of_mem (List.getElem_mem hi); omega) (by omega)) ?_
          simp -implicitDefEqProofs (disch := omega) only [go_sem]
          exact inv_at (i + 1, formed x.fArgs[i]) (by simp only; omega) rfl rfl ⟨by simp only; omega, by rw [← p2, h]; rfl⟩
        · exact inv_at (i + 1, false) (by simp only; omega) rfl rfl ⟨by simp only; omega, by rw [← p2, h]; rfl⟩
      · have hi : i = x.fArgs.length := by omega
        rw [hi, List.drop_length, formeds, Bool.and_true] at p2
        rw [p2]
theorem l4Form_ok (x : MType) (hsz : x.sz ≤ 4194304) : PCall Try.prog 122 [x.v] (.c (.d (.b (formed x)))) := l4Form_all _ x (Nat.lt_succ_self _) hsz
theorem specValidType_ok (x : MType) (hsz : x.sz ≤ 4194304) : PCall Try.prog 90 [x.v] (.c (.d (.b (validType x)))) := fun S => by
  refine acall_cw (rs := [.tmp 2]) Try.checked.mixed Try.func90 Try.ntmps90 rfl rfl rfl rfl rfl ?_
  simp -implicitDefEqProofs (disch := omega) only [go_sem]
  refine call_w (l4Left_ok x 60 (by omega) (by omega) hsz) ?_
  simp -implicitDefEqProofs (disch := omega) only [go_sem] <;> (repeat (with_reducible refine And.intro ?_ ?_; focus first | omega | rfl | assumption | exact ⟨_, rfl, rfl⟩ | (simp; omega) | (simp; done)))
  with_reducible refine split2 (fun hb => ?_) (fun hb => ?_) <;> have h := hb <;> (try simp only [wf_preprocess] at h) <;> simp -implicitDefEqProofs (disch := omega) only [go_sem, hb] <;> (repeat (with_reducible refine And.intro ?_ ?_; focus first | omega | rfl | assumption | exact ⟨_, rfl, rfl⟩ | (simp; omega) | (simp; done)))
  · have h1 := (sub1_nn (l := 60) (a := x.cnt) (by omega)).2
    refine call_w (specDepth_ok x hsz) ?_
    simp -implicitDefEqProofs (disch := omega) only [go_sem] <;> (repeat (with_reducible refine And.intro ?_ ?_; focus first | omega | rfl | assumption | exact ⟨_, rfl, rfl⟩ | (simp; omega) | (simp; done)))
    with_reducible refine split2 (fun hb => ?_) (fun hb => ?_) <;> have h := hb <;> (try simp only [wf_preprocess] at h) <;> simp -implicitDefEqProofs (disch := omega) only [go_sem, hb] <;> (repeat (with_reducible refine And.intro ?_ ?_; focus first | omega | rfl | assumption | exact ⟨_, rfl, rfl⟩ | (simp; omega) | (simp; done)))
    · refine call_w (l4Form_ok x hsz) ?_
      simp -implicitDefEqProofs (disch := omega) only [go_sem] <;> (repeat (with_reducible refine And.intro ?_ ?_; focus first | omega | rfl | assumption | exact ⟨_, rfl, rfl⟩ | (simp; omega) | (simp; done)))
      refine bool_eq ?_
      cases hf : formed x with
      | false => exact (dec_false fun y => by rw [hf] at y; cases y.1).symm
      | true => exact (dec_true ⟨hf, by omega, by omega⟩).symm
    · exact bool_eq (dec_false fun y => by have := y.2.1; omega).symm
  · have h1 := sub1_neg (l := 60) (a := x.cnt) (by omega)
    exact bool_eq (dec_false fun y => by have := y.2.2; omega).symm
end Go.Proofs.Ytceaigchkgifgaa

namespace Go.Proofs.Ytceaigchkgifgaa
open Go Go.Ab
theorem equalFuncExpr_ok (g : Nat) (xs ys : List MExpr) (hl : xs.length ≤ 1073741824) (hg : ∀ x ∈ xs, ∀ y, PCall Try.prog g [x.v, y.v] (.c (.d (.b (dec (x = y)))))) :
    PCall Try.prog 55 [.c (.d (.sl (xs.map MExpr.enc))), .c (.d (.sl (ys.map MExpr.enc))), .c (.fn g [])] (.c (.d (.b (dec (xs = ys))))) := fun S => by
  refine acall_cw (rs := [.tmp 6]) Try.checked.mixed Try.func55 Try.ntmps55 rfl rfl rfl rfl rfl ?_
  simp -implicitDefEqProofs (disch := omega) only [go_sem]
  with_reducible refine split2 (fun hb => ?_) (fun hb => ?_) <;> have h := hb <;> (try simp only [wf_preprocess] at h) <;> simp -implicitDefEqProofs (disch := omega) only [go_sem, hb] <;> (repeat (with_reducible refine And.intro ?_ ?_; focus first | omega | rfl | assumption | exact ⟨_, rfl, rfl⟩ | (simp; omega) | (simp; done)))
  · exact bool_eq (dec_false (fun e => h (by rw [e]))).symm
  have hl' : xs.length = ys.length := by omega
  refine loop_at (ι := Nat) Try.checked.mixed rfl [1, 2, 15, 16, 17] (fun y => [.c (.d (.sl (ys.map MExpr.enc))), .c (.fn g []), .c (.d (.sl (xs.map MExpr.enc))), .c (.d (.i .i64 xs.length)), .c (.d (.i .i64 y))]) (fun y => [] :: S)
    (fun i => i ≤ xs.length ∧ ∀ j, j < i → xs[j]? = ys[j]?) (fun y => xs.length - y) 0 rfl rfl ⟨Nat.zero_le _, fun j h => by omega⟩ ?_
  rintro i ⟨p1, p2⟩
  simp -implicitDefEqProofs (disch := omega) only [go_sem]
  with_reducible refine split2 (fun hb => ?_) (fun hb => ?_) <;> have h := hb <;> (try simp only [wf_preprocess] at h) <;> simp -implicitDefEqProofs (disch := omega) only [go_sem, hb] <;> (repeat (with_reducible refine And.intro ?_ ?_; focus first | omega | rfl | assumption | exact ⟨_, rfl, rfl⟩ | (simp; omega) | (simp; done)))
  · have hi : i < xs.length := by omega
    have hi' : i < ys.length := by omega
    (repeat (with_reducible refine And.intro ?_ ?_; focus first | omega | rfl | assumption | exact ⟨_, rfl, rfl⟩ | (simp; omega) | (simp; done)))
    refine call_w (hg xs[i] (List.getElem_mem hi) ys[i]) ?_
    simp -implicitDefEqProofs (disch := omega) only [go_sem]
    with_reducible refine split2 (fun hb => ?_) (fun hb => ?_) <;> have h := hb <;> (try simp only [wf_preprocess] at h) <;> simp -implicitDefEqProofs (disch := omega) only [go_sem, hb] <;> (repeat (with_reducible refine And.intro ?_ ?_; focus first | omega | rfl | assumption | exact ⟨_, rfl, rfl⟩ | (simp; omega) | (simp; done)))
    · exact bool_eq (dec_false (fun e => h (by simp only [e]))).symm
    refine inv_drop 0 (by decide) (i + 1) (by omega) rfl rfl rfl rfl ⟨by omega, fun j hj => ?_⟩
    by_cases e : j = i
    · subst e
      rw [List.getElem?_eq_getElem hi, List.getElem?_eq_getElem hi', h]
    · exact p2 j (by omega)
  · have hi : i = xs.length := by omega
    refine bool_eq (dec_true (List.ext_getElem? fun j => ?_)).symm
    by_cases hj : j < i
    · exact p2 j hj
    · rw [List.getElem?_eq_none (by omega), List.getElem?_eq_none (by omega)]
theorem equalFuncArm_ok (g : Nat) (xs ys : List MArm) (hl : xs.length ≤ 1073741824) (hg : ∀ x ∈ xs, ∀ y, PCall Try.prog g [x.v, y.v] (.c (.d (.b (dec (x = y)))))) :
    PCall Try.prog 56 [.c (.d (.sl (xs.map MArm.enc))), .c (.d (.sl (ys.map MArm.enc))), .c (.fn g [])] (.c (.d (.b (dec (xs = ys))))) := fun S => by
  refine acall_cw (rs := [.tmp 6]) Try.checked.mixed Try.func56 Try.ntmps56 rfl rfl rfl rfl rfl ?_
  simp -implicitDefEqProofs (disch := omega) only [go_sem]
  with_reducible refine split2 (fun hb => ?_) (fun hb => ?_) <;> have h := hb <;> (try simp only [wf_preprocess] at h) <;> simp -implicitDefEqProofs (disch := omega) only [go_sem, hb] <;> (repeat (with_reducible refine And.intro ?_ ?_; focus first | omega | rfl | assumption | exact ⟨_, rfl, rfl⟩ | (simp; omega) | (simp; done)))
  · exact bool_eq (dec_false (fun e => h (by rw [e]))).symm
  have hl' : xs.length = ys.length := by omega
  refine loop_at (ι := Nat) Try.checked.mixed rfl [1, 2, 15, 16, 17] (fun y => [.c (.d (.sl (ys.map MArm.enc))), .c (.fn g []), .c (.d (.sl (xs.map MArm.enc))), .c (.d (.i .i64 xs.length)), .c (.d (.i .i64 y))]) (fun y => [] :: S)
    (fun i => i ≤ xs.length ∧ ∀ j, j < i → xs[j]? = ys[j]?) (fun y => xs.length - y) 0 rfl rfl ⟨Nat.zero_le _, fun j h => by omega⟩ ?_
  rintro i ⟨p1, p2⟩
  simp -implicitDefEqProofs (disch := omega) only [go_sem]
  with_reducible refine split2 (fun hb => ?_) (fun hb => ?_) <;> have h := hb <;> (try simp only [wf_preprocess] at h) <;> simp -implicitDefEqProofs (disch := omega) only [go_sem, hb] <;> (repeat (with_reducible refine And.intro ?_ ?_; focus first | omega | rfl | assumption | exact ⟨_, rfl, rfl⟩ | (simp; omega) | (simp; done)))
  · have hi : i < xs.length := by omega
    have hi' : i < ys.length := by omega
    (repeat (with_reducible refine And.intro ?_ ?_; focus first | omega | rfl | assumption | exact ⟨_, rfl, rfl⟩ | (simp; omega) | (simp; done)))
    refine call_w (hg xs[i] (List.getElem_mem hi) ys[i]) ?_
    simp -implicitDefEqProofs (disch := omega) only [go_sem]
    with_reducible refine split2 (fun hb => ?_) (fun hb => ?_) <;> have h := hb <;> (try simp only [wf_preprocess] at h) <;> simp -implicitDefEqProofs (disch := omega) only [go_sem, hb] <;> (repeat (with_reducible refine And.intro ?_ ?_; focus first | omega | rfl | assumption | exact ⟨_, rfl, rfl⟩ | (simp; omega) | (simp; done)))
    · exact bool_eq (dec_false (fun e => h (by simp only [e]))).symm
    refine inv_drop 0 (by decide) (i + 1) (by omega) rfl rfl rfl rfl ⟨by omega, fun j hj => ?_⟩
    by_cases e : j = i
    · subst e
      rw [List.getElem?_eq_getElem hi, List.getElem?_eq_getElem hi', h]
    · exact p2 j (by omega)
  · have hi : i = xs.length := by omega
    refine bool_eq (dec_true (List.ext_getElem? fun j => ?_)).symm
    by_cases hj : j < i
    · exact p2 j hj
    · rw [List.getElem?_eq_none (by omega), List.getElem?_eq_none (by omega)]
theorem indexFuncExpr_ok (g : Nat) (caps : List (Key × Nat)) (S : Store) (xs : List MExpr) (p : MExpr → Bool) (hl : xs.length ≤ 1073741824) (hp : ∀ x ∈ xs, FPure Try.prog g caps S [x.v] (.c (.d (.b (p x))))) :
    ACall Try.prog 112 [.c (.d (.sl (xs.map MExpr.enc))), .c (.fn g caps)] S (fun r S' => r = .c (.d (.i .i64 (indexP p xs))) ∧ S' = S) := by
  refine acall_cw (rs := [.tmp 4]) Try.checked.mixed Try.func112 Try.ntmps112 rfl rfl rfl rfl rfl ?_
  simp -implicitDefEqProofs (disch := omega) only [go_sem]
  refine loop_at (ι := Nat) Try.checked.mixed rfl [0, 1, 7, 8] (fun i => [.c (.d (.sl (xs.map MExpr.enc))), .c (.fn g (upCaps 1 caps)), .c (.d (.i .i64 xs.length)), .c (.d (.i .i64 i))]) (fun _ => [] :: S)
    (fun i => i ≤ xs.length ∧ ∀ j, ∀ hj : j < xs.length, j < i → p xs[j] = false) (fun i => xs.length - i) 0 rfl rfl ⟨Nat.zero_le _, fun j _ h => by omega⟩ ?_
  rintro i ⟨p1, p2⟩
  simp -implicitDefEqProofs (disch := omega) only [go_sem]
  with_reducible refine split2 (fun hb => ?_) (fun hb => ?_) <;> have h := hb <;> (try simp only [wf_preprocess] at h) <;> simp -implicitDefEqProofs (disch := omega) only [go_sem, hb] <;> (repeat (with_reducible refine And.intro ?_ ?_; focus first | omega | rfl | assumption | exact ⟨_, rfl, rfl⟩ | (simp; omega) | (simp; done)))
  · have hi : i < xs.length := by omega
    (repeat (with_reducible refine And.intro ?_ ?_; focus first | omega | rfl | assumption | exact ⟨_, rfl, rfl⟩ | (simp; omega) | (simp; done)))
    refine call_d rfl (hp xs[i] (List.getElem_mem hi) [_]) ?_
    simp -implicitDefEqProofs (disch := omega) only [go_sem]
    with_reducible refine split2 (fun hb => ?_) (fun hb => ?_) <;> have h := hb <;> (try simp only [wf_preprocess] at h) <;> simp -implicitDefEqProofs (disch := omega) only [go_sem, hb] <;> (repeat (with_reducible refine And.intro ?_ ?_; focus first | omega | rfl | assumption | exact ⟨_, rfl, rfl⟩ | (simp; omega) | (simp; done)))
    · rw [indexP_here hi p2 h]
    · refine inv_at (i + 1) (by omega) rfl rfl ⟨by omega, fun j hj hji => ?_⟩
      by_cases e : j = i
      · subst e; exact h
      · exact p2 j hj (by omega)
  · rw [indexP_no (fun j hj => p2 j hj (by omega))]
theorem containsFuncExpr_ok (g : Nat) (caps : List (Key × Nat)) (S : Store) (xs : List MExpr) (p : MExpr → Bool) (hl : xs.length ≤ 1073741824) (hp : ∀ x ∈ xs, FPure Try.prog g caps S [x.v] (.c (.d (.b (p x))))) :
    ACall Try.prog 80 [.c (.d (.sl (xs.map MExpr.enc))), .c (.fn g caps)] S (fun r S' => r = .c (.d (.b (xs.any p))) ∧ S' = S) := by
  refine acall_cw (rs := [.tmp 4]) Try.checked.mixed Try.func80 Try.ntmps80 rfl rfl rfl rfl rfl ?_
  simp -implicitDefEqProofs (disch := omega) only [go_sem]
  refine call_d rfl (indexFuncExpr_ok g (upCaps 1 caps) _ xs p hl fun x hx => (hp x hx).push _) ?_
  simp -implicitDefEqProofs (disch := omega) only [go_sem]
  exact bool_eq indexP_pos
theorem indexFuncArm_ok (g : Nat) (caps : List (Key × Nat)) (S : Store) (xs : List MArm) (p : MArm → Bool) (hl : xs.length ≤ 1073741824) (hp : ∀ x ∈ xs, FPure Try.prog g caps S [x.v] (.c (.d (.b (p x))))) :
    ACall Try.prog 113 [.c (.d (.sl (xs.map MArm.enc))), .c (.fn g caps)] S (fun r S' => r = .c (.d (.i .i64 (indexP p xs))) ∧ S' = S) := by
  refine acall_cw (rs := [.tmp 4]) Try.checked.mixed Try.func113 Try.ntmps113 rfl rfl rfl rfl rfl ?_
  simp -implicitDefEqProofs (disch := omega) only [go_sem]
  refine loop_at (ι := Nat) Try.checked.mixed rfl [0, 1, 7, 8] (fun i => [.c (.d (.sl (xs.map MArm.enc))), .c (.fn g (upCaps 1 caps)), .c (.d (.i .i64 xs.length)), .c (.d (.i .i64 i))]) (fun _ => [] :: S)
    (fun i => i ≤ xs.length ∧ ∀ j, ∀ hj : j < xs.length, j < i → p xs[j] = false) (fun i => xs.length - i) 0 rfl rfl ⟨Nat.zero_le _, fun j _ h => by omega⟩ ?_
  rintro i ⟨p1, p2⟩
  simp -implicitDefEqProofs (disch := omega) only [go_sem]
  with_reducible refine split2 (fun hb => ?_) (fun hb => ?_) <;> have h := hb <;> (try simp only [wf_preprocess] at h) <;> simp -implicitDefEqProofs (disch := omega) only [go_sem, hb] <;> (repeat (with_reducible refine And.intro ?_ ?_; focus first | omega | rfl | assumption | exact ⟨_, rfl, rfl⟩ | (simp; omega) | (simp; done)))
  · have hi : i < xs.length := by omega
    (repeat (with_reducible refine And.intro ?_ ?_; focus first | omega | rfl | assumption | exact ⟨_, rfl, rfl⟩ | (simp; omega) | (simp; done)))
    refine call_d rfl (hp xs[i] (List.getElem_mem hi) [_]) ?_
    simp -implicitDefEqProofs (disch := omega) only [go_sem]
    with_reducible refine split2 (fun hb => ?_) (fun hb => ?_) <;> have h := hb <;> (try simp only [wf_preprocess] at h) <;> simp -implicitDefEqProofs (disch := omega) only [go_sem, hb] <;> (repeat (with_reducible refine And.intro ?_ ?_; focus first | omega | rfl | assumption | exact ⟨_, rfl, rfl⟩ | (simp; omega) | (simp; done)))
    · rw [indexP_here hi p2 h]
    · refine inv_at (i + 1) (by omega) rfl rfl ⟨by omega, fun j hj hji => ?_⟩
      by_cases e : j = i
      · subst e; exact h
      · exact p2 j hj (by omega)
  · rw [indexP_no (fun j hj => p2 j hj (by omega))]
theorem containsFuncArm_ok (g : Nat) (caps : List (Key × Nat)) (S : Store) (xs : List MArm) (p : MArm → Bool) (hl : xs.length ≤ 1073741824) (hp : ∀ x ∈ xs, FPure Try.prog g caps S [x.v] (.c (.d (.b (p x))))) :
    ACall Try.prog 82 [.c (.d (.sl (xs.map MArm.enc))), .c (.fn g caps)] S (fun r S' => r = .c (.d (.b (xs.any p))) ∧ S' = S) := by
  refine acall_cw (rs := [.tmp 4]) Try.checked.mixed Try.func82 Try.ntmps82 rfl rfl rfl rfl rfl ?_
  simp -implicitDefEqProofs (disch := omega) only [go_sem]
  refine call_d rfl (indexFuncArm_ok g (upCaps 1 caps) _ xs p hl fun x hx => (hp x hx).push _) ?_
  simp -implicitDefEqProofs (disch := omega) only [go_sem]
  exact bool_eq indexP_pos
theorem indexFuncstring_ok (g : Nat) (caps : List (Key × Nat)) (S : Store) (xs : List (List UInt8)) (p : (List UInt8) → Bool) (hl : xs.length ≤ 1073741824) (hp : ∀ x ∈ xs, FPure Try.prog g caps S [.c (.d (.s x))] (.c (.d (.b (p x))))) :
    ACall Try.prog 132 [.c (.d (.sl (xs.map encS))), .c (.fn g caps)] S (fun r S' => r = .c (.d (.i .i64 (indexP p xs))) ∧ S' = S) := by
  refine acall_cw (rs := [.tmp 4]) Try.checked.mixed Try.func132 Try.ntmps132 rfl rfl rfl rfl rfl ?_
  simp -implicitDefEqProofs (disch := omega) only [go_sem, encS]
  refine loop_at (ι := Nat) Try.checked.mixed rfl [0, 1, 7, 8] (fun i => [.c (.d (.sl (xs.map encS))), .c (.fn g (upCaps 1 caps)), .c (.d (.i .i64 xs.length)), .c (.d (.i .i64 i))]) (fun _ => [] :: S)
    (fun i => i ≤ xs.length ∧ ∀ j, ∀ hj : j < xs.length, j < i → p xs[j] = false) (fun i => xs.length - i) 0 rfl rfl ⟨Nat.zero_le _, fun j _ h => by omega⟩ ?_
  rintro i ⟨p1, p2⟩
  simp -implicitDefEqProofs (disch := omega) only [go_sem, encS]
  with_reducible refine split2 (fun hb => ?_) (fun hb => ?_) <;> have h := hb <;> (try simp only [wf_preprocess] at h) <;> simp -implicitDefEqProofs (disch := omega) only [go_sem, hb, encS] <;> (repeat (with_reducible refine And.intro ?_ ?_; focus first | omega | rfl | assumption | exact ⟨_, rfl, rfl⟩ | (simp; omega) | (simp; done)))
  · have hi : i < xs.length := by omega
    (repeat (with_reducible refine And.intro ?_ ?_; focus first | omega | rfl | assumption | exact ⟨_, rfl, rfl⟩ | (simp; omega) | (simp; done)))
    refine call_d rfl (hp xs[i] (List.getElem_mem hi) [_]) ?_
    simp -implicitDefEqProofs (disch := omega) only [go_sem, encS]
    with_reducible refine split2 (fun hb => ?_) (fun hb => ?_) <;> have h := hb <;> (try simp only [wf_preprocess] at h) <;> simp -implicitDefEqProofs (disch := omega) only [go_sem, hb, encS] <;> (repeat (with_reducible refine And.intro ?_ ?_; focus first | omega | rfl | assumption | exact ⟨_, rfl, rfl⟩ | (simp; omega) | (simp; done)))
    · rw [indexP_here hi p2 h]
    · refine inv_at (i + 1) (by omega) rfl rfl ⟨by omega, fun j hj hji => ?_⟩
      by_cases e : j = i
      · subst e; exact h
      · exact p2 j hj (by omega)
  · rw [indexP_no (fun j hj => p2 j hj (by omega))]
theorem containsFuncstring_ok (g : Nat) (caps : List (Key × Nat)) (S : Store) (xs : List (List UInt8)) (p : (List UInt8) → Bool) (hl : xs.length ≤ 1073741824) (hp : ∀ x ∈ xs, FPure Try.prog g caps S [.c (.d (.s x))] (.c (.d (.b (p x))))) :
    ACall Try.prog 117 [.c (.d (.sl (xs.map encS))), .c (.fn g caps)] S (fun r S' => r = .c (.d (.b (xs.any p))) ∧ S' = S) := by
  refine acall_cw (rs := [.tmp 4]) Try.checked.mixed Try.func117 Try.ntmps117 rfl rfl rfl rfl rfl ?_
  simp -implicitDefEqProofs (disch := omega) only [go_sem, encS]
  refine call_d rfl (indexFuncstring_ok g (upCaps 1 caps) _ xs p hl fun x hx => (hp x hx).push _) ?_
  simp -implicitDefEqProofs (disch := omega) only [go_sem, encS]
  exact bool_eq indexP_pos
theorem equalS_ok (xs ys : List (List UInt8)) (hl : xs.length ≤ 1073741824) : PCall Try.prog 58 [.c (.d (.sl (xs.map encS))), .c (.d (.sl (ys.map encS)))] (.c (.d (.b (dec (xs = ys))))) := fun S => by
  refine acall_cw (rs := [.tmp 4]) Try.checked.mixed Try.func58 Try.ntmps58 rfl rfl rfl rfl rfl ?_
  simp -implicitDefEqProofs (disch := omega) only [go_sem, encS]
  with_reducible refine split2 (fun hb => ?_) (fun hb => ?_) <;> have h := hb <;> (try simp only [wf_preprocess] at h) <;> simp -implicitDefEqProofs (disch := omega) only [go_sem, hb, encS] <;> (repeat (with_reducible refine And.intro ?_ ?_; focus first | omega | rfl | assumption | exact ⟨_, rfl, rfl⟩ | (simp; omega) | (simp; done)))
  · exact bool_eq (dec_false (fun e => h (by rw [e]))).symm
  have hl' : xs.length = ys.length := by omega
  refine loop_at (ι := Nat) Try.checked.mixed rfl [0, 1, 12, 13] (fun i => [.c (.d (.sl (xs.map encS))), .c (.d (.sl (ys.map encS))), .c (.d (.i .i64 xs.length)), .c (.d (.i .i64 i))]) (fun _ => [] :: S)
    (fun i => i ≤ xs.length ∧ ∀ j, j < i → xs[j]? = ys[j]?) (fun y => xs.length - y) 0 rfl rfl ⟨Nat.zero_le _, fun j h => by omega⟩ ?_
  rintro i ⟨p1, p2⟩
  simp -implicitDefEqProofs (disch := omega) only [go_sem, encS]
  with_reducible refine split2 (fun hb => ?_) (fun hb => ?_) <;> have h := hb <;> (try simp only [wf_preprocess] at h) <;> simp -implicitDefEqProofs (disch := omega) only [go_sem, hb, encS] <;> (repeat (with_reducible refine And.intro ?_ ?_; focus first | omega | rfl | assumption | exact ⟨_, rfl, rfl⟩ | (simp; omega) | (simp; done)))
  · have hi : i < xs.length := by omega
    have hi' : i < ys.length := by omega
    (repeat (with_reducible refine And.intro ?_ ?_; focus first | omega | rfl | assumption | exact ⟨_, rfl, rfl⟩ | (simp; omega) | (simp; done)))
    with_reducible refine split2 (fun hb => ?_) (fun hb => ?_) <;> have h := hb <;> (try simp only [wf_preprocess] at h) <;> simp -implicitDefEqProofs (disch := omega) only [go_sem, hb, encS] <;> (repeat (with_reducible refine And.intro ?_ ?_; focus first | omega | rfl | assumption | exact ⟨_, rfl, rfl⟩ | (simp; omega) | (simp; done)))
    · exact bool_eq (dec_false (fun e => h (by simp only [e]))).symm
    refine inv_at (i + 1) (by omega) rfl rfl ⟨by omega, fun j hj => ?_⟩
    by_cases e : j = i
    · subst e
      rw [List.getElem?_eq_getElem hi, List.getElem?_eq_getElem hi', h]
    · exact p2 j (by omega)
  · have hi : i = xs.length := by omega
    refine bool_eq (dec_true (List.ext_getElem? fun j => ?_)).symm
    by_cases hj : j < i
    · exact p2 j hj
    · rw [List.getElem?_eq_none (by omega), List.getElem?_eq_none (by omega)]
end Go.Proofs.Ytceaigchkgifgaa

namespace Go.Ab
theorem strs_b {s : List UInt8} {xs : List (List UInt8)} (h : s ∈ xs) : s.length ≤ szRows (xs.map encS) := by
  have := szRows_mem (List.mem_map_of_mem (f := encS) h)
  simpa [encS, szRow, D.sz] using this
noncomputable def namesOk (xs : List (List UInt8)) : Bool := dec xs.Nodup && xs.all validName
noncomputable def among (xs ys : List (List UInt8)) : Bool := xs.all fun s => dec (s ∈ ys)
theorem mem_addW {s l : List UInt8} {m : List (List UInt8)} : s ∈ addW l m ↔ s = l ∨ s ∈ m := by
  unfold addW
  split
  · rename_i h
    exact ⟨.inr, fun x => x.elim (fun e => e ▸ h) id⟩
  · rw [List.mem_append, List.mem_singleton]; exact Or.comm
theorem take_snoc {α : Type} {xs : List α} {i : Nat} (hi : i < xs.length) : xs.take (i + 1) = xs.take i ++ [xs[i]] := List.take_succ_eq_append_getElem hi
theorem nodup_snoc {α : Type} {xs : List α} {x : α} : (xs ++ [x]).Nodup ↔ xs.Nodup ∧ x ∉ xs := by
  rw [List.nodup_append]
  constructor
  · rintro ⟨h1, _, h3⟩
    exact ⟨h1, fun hx => h3 x hx x (by simp) rfl⟩
  · rintro ⟨h1, h2⟩
    exact ⟨h1, by simp, fun a ha b hb e => by simp at hb; subst hb; exact h2 (e ▸ ha)⟩
theorem not_nodup {α : Type} {xs : List α} {i : Nat} (hi : i < xs.length) (h : xs[i] ∈ xs.take i) : ¬ xs.Nodup := fun hn => by
  have h1 : (xs.take (i + 1)).Nodup := hn.sublist (List.take_sublist _ _)
  rw [take_snoc hi] at h1
  exact (nodup_snoc.1 h1).2 h
end Go.Ab
namespace Go.Proofs.Ytceaigchkgifgaa
open Go Go.Ab
theorem implDistinct_ok (xs : List (List UInt8)) (hl : xs.length ≤ 1073741824) : PCall Try.prog 22 [.c (.d (.sl (xs.map encS)))] (.c (.d (.b (dec xs.Nodup)))) := fun S => by
  refine acall_cw (rs := [.tmp 2]) Try.checked.mixed Try.func22 Try.ntmps22 rfl rfl rfl rfl rfl ?_
  simp -implicitDefEqProofs (disch := omega) only [go_sem, encS]
  (repeat (with_reducible refine And.intro ?_ ?_; focus first | omega | rfl | assumption | exact ⟨_, rfl, rfl⟩ | (simp; omega) | (simp; done)))
  refine loop_at (ι := Nat × List (List UInt8)) Try.checked.mixed rfl [3, 7, 8, 9] (fun y => [.c (.mp (0, 0)), .c (.d (.sl (xs.map encS))), .c (.d (.i .i64 xs.length)), .c (.d (.i .i64 y.1))]) (fun y => [.mp y.2] :: S)
    (fun y => y.1 ≤ xs.length ∧ (∀ s, s ∈ y.2 ↔ s ∈ xs.take y.1) ∧ (xs.take y.1).Nodup) (fun y => xs.length - y.1) (0, []) rfl rfl ⟨Nat.zero_le _, fun s => by simp, by simp⟩ ?_
  rintro ⟨i, m⟩ ⟨p1, p2, p3⟩
  simp only at p1 p2 p3
  simp -implicitDefEqProofs (disch := omega) only [go_sem, encS]
  with_reducible refine split2 (fun hb => ?_) (fun hb => ?_) <;> have h := hb <;> (try simp only [wf_preprocess] at h) <;> simp -implicitDefEqProofs (disch := omega) only [go_sem, hb, encS] <;> (repeat (with_reducible refine And.intro ?_ ?_; focus first | omega | rfl | assumption | exact ⟨_, rfl, rfl⟩ | (simp; omega) | (simp; done)))
  · have hi : i < xs.length := by omega
    (repeat (with_reducible refine And.intro ?_ ?_; focus first | omega | rfl | assumption | exact ⟨_, rfl, rfl⟩ | (simp; omega) | (simp; done)))
    with_reducible refine split2 (fun hb => ?_) (fun hb => ?_) <;> have h := hb <;> (try simp only [wf_preprocess] at h) <;> simp -implicitDefEqProofs (disch := omega) only [go_sem, hb, encS] <;> (repeat (with_reducible refine And.intro ?_ ?_; focus first | omega | rfl | assumption | exact ⟨_, rfl, rfl⟩ | (simp; omega) | (simp; done)))
    · exact bool_eq (dec_false (not_nodup hi ((p2 _).1 h))).symm
    · refine inv_at (i + 1, addW xs[i] m) (by simp only; omega) rfl rfl ⟨by simp only; omega, fun s => ?_, ?_⟩
      · simp only
        rw [mem_addW, take_snoc hi, List.mem_append, List.mem_singleton, p2]
        exact Or.comm
      · simp only
        rw [take_snoc hi, nodup_snoc]
        exact ⟨p3, fun hx => h ((p2 _).2 hx)⟩
  · rw [List.take_of_length_le (by omega)] at p3
    exact bool_eq (dec_true p3).symm
theorem specDistinct_ok (xs : List (List UInt8)) (hl : xs.length ≤ 1073741824) : PCall Try.prog 93 [.c (.d (.sl (xs.map encS)))] (.c (.d (.b (dec xs.Nodup)))) := fun S => by
  refine acall_cw (rs := [.tmp 2]) Try.checked.mixed Try.func93 Try.ntmps93 rfl rfl rfl rfl rfl ?_
  simp -implicitDefEqProofs (disch := omega) only [go_sem, encS]
  refine loop_at (ι := Nat) Try.checked.mixed rfl [0, 3] (fun i => [.c (.d (.sl (xs.map encS))), .c (.d (.i .i64 i))]) (fun _ => [] :: S)
    (fun i => i ≤ xs.length ∧ (xs.take i).Nodup) (fun i => xs.length - i) 0 rfl rfl ⟨Nat.zero_le _, by simp⟩ ?_
  rintro i ⟨p1, p3⟩
  simp -implicitDefEqProofs (disch := omega) only [go_sem, encS]
  with_reducible refine split2 (fun hb => ?_) (fun hb => ?_) <;> have h := hb <;> (try simp only [wf_preprocess] at h) <;> simp -implicitDefEqProofs (disch := omega) only [go_sem, hb, encS] <;> (repeat (with_reducible refine And.intro ?_ ?_; focus first | omega | rfl | assumption | exact ⟨_, rfl, rfl⟩ | (simp; omega) | (simp; done)))
  · have hi : i < xs.length := by omega
    have hc : ∀ y ∈ xs.map encS, y.length = 1 := fun y hy => by
      obtain ⟨s, _, rfl⟩ := List.mem_map.1 hy
      rfl
    have e : (xs.map encS).take i = (xs.take i).map encS := List.map_take.symm
    refine And.intro ⟨by omega, by omega, hc⟩ ?_
    (repeat (with_reducible refine And.intro ?_ ?_; focus first | omega | rfl | assumption | exact ⟨_, rfl, rfl⟩ | (simp; omega) | (simp; done)))
    simp -implicitDefEqProofs (disch := omega) only [go_sem, Int.toNat_zero, e]
    refine call_w (l1Has_ok (xs.take i) xs[i] (by simp; omega)) ?_
    simp -implicitDefEqProofs (disch := omega) only [go_sem] <;> (repeat (with_reducible refine And.intro ?_ ?_; focus first | omega | rfl | assumption | exact ⟨_, rfl, rfl⟩ | (simp; omega) | (simp; done)))
    with_reducible refine split2 (fun hb => ?_) (fun hb => ?_) <;> have h := hb <;> (try simp only [wf_preprocess] at h) <;> simp -implicitDefEqProofs (disch := omega) only [go_sem, hb] <;> (repeat (with_reducible refine And.intro ?_ ?_; focus first | omega | rfl | assumption | exact ⟨_, rfl, rfl⟩ | (simp; omega) | (simp; done)))
    · exact bool_eq (dec_false (not_nodup hi h)).symm
    · refine inv_at (i + 1) (by omega) rfl rfl ⟨by omega, ?_⟩
      rw [take_snoc hi, nodup_snoc]
      exact ⟨p3, h⟩
  · rw [List.take_of_length_le (by omega)] at p3
    exact bool_eq (dec_true p3).symm
theorem l3Names_ok (xs : List (List UInt8)) (hl : xs.length ≤ 1073741824) (hs : ∀ s ∈ xs, s.length ≤ 4194304) : PCall Try.prog 92 [.c (.d (.sl (xs.map encS)))] (.c (.d (.b (xs.all validName)))) := fun S => by
  refine acall_cw (rs := [.tmp 2]) Try.checked.mixed Try.func92 Try.ntmps92 rfl rfl rfl rfl rfl ?_
  simp -implicitDefEqProofs (disch := omega) only [go_sem, encS]
  refine loop_at (ι := Nat) Try.checked.mixed rfl [0, 3] (fun i => [.c (.d (.sl (xs.map encS))), .c (.d (.i .i64 i))]) (fun _ => [] :: S)
    (fun i => i ≤ xs.length ∧ (xs.drop i).all validName = xs.all validName) (fun i => xs.length - i) 0 rfl rfl ⟨Nat.zero_le _, rfl⟩ ?_
  rintro i ⟨p1, p2⟩
  simp -implicitDefEqProofs (disch := omega) only [go_sem, encS]
  with_reducible refine split2 (fun hb => ?_) (fun hb => ?_) <;> have h := hb <;> (try simp only [wf_preprocess] at h) <;> simp -implicitDefEqProofs (disch := omega) only [go_sem, hb, encS] <;> (repeat (with_reducible refine And.intro ?_ ?_; focus first | omega | rfl | assumption | exact ⟨_, rfl, rfl⟩ | (simp; omega) | (simp; done)))
  · have hi : i < xs.length := by omega
    have hz := hs _ (List.getElem_mem hi)
    rw [List.drop_eq_getElem_cons hi, List.all_cons] at p2
    (repeat (with_reducible refine And.intro ?_ ?_; focus first | omega | rfl | assumption | exact ⟨_, rfl, rfl⟩ | (simp; omega) | (simp; done)))
    refine call_w (specValidName_ok xs[i] (by omega)) ?_
    simp -implicitDefEqProofs (disch := omega) only [go_sem] <;> (repeat (with_reducible refine And.intro ?_ ?_; focus first | omega | rfl | assumption | exact ⟨_, rfl, rfl⟩ | (simp; omega) | (simp; done)))
    with_reducible refine split2 (fun hb => ?_) (fun hb => ?_) <;> have h := hb <;> (try simp only [wf_preprocess] at h) <;> simp -implicitDefEqProofs (disch := omega) only [go_sem, hb] <;> (repeat (with_reducible refine And.intro ?_ ?_; focus first | omega | rfl | assumption | exact ⟨_, rfl, rfl⟩ | (simp; omega) | (simp; done)))
    · rw [← p2, h]; rfl
    · exact inv_at (i + 1) (by omega) rfl rfl ⟨by omega, by rw [← p2, h]; rfl⟩
  · rw [List.drop_of_length_le (by omega)] at p2
    rw [← p2]; rfl
theorem areNames_ok (xs : List (List UInt8)) (hl : xs.length ≤ 1073741824) (hs : ∀ s ∈ xs, s.length ≤ 4194304) : PCall Try.prog 85 [.c (.d (.sl (xs.map encS)))] (.c (.d (.b (namesOk xs)))) := fun S => by
  have hcl : ∀ s ∈ xs, PCall Try.prog 118 [.c (.d (.s s))] (.c (.d (.b (!validName s)))) := fun s hx S => by
    have := hs s hx
    refine acall_cw (rs := [.tmp 2]) Try.checked.mixed Try.func118 Try.ntmps118 rfl rfl rfl rfl rfl ?_
    simp -implicitDefEqProofs (disch := omega) only [go_sem]
    refine call_w (implValidName_ok s (by omega)) ?_
    simp -implicitDefEqProofs (disch := omega) only [go_sem] <;> (repeat (with_reducible refine And.intro ?_ ?_; focus first | omega | rfl | assumption | exact ⟨_, rfl, rfl⟩ | (simp; omega) | (simp; done)))
  have ha : (xs.any fun s => !validName s) = !xs.all validName := by rw [List.not_all_eq_any_not]
  refine acall_cw (rs := [.tmp 2]) Try.checked.mixed Try.func85 Try.ntmps85 rfl rfl rfl rfl rfl ?_
  simp -implicitDefEqProofs (disch := omega) only [go_sem]
  refine call_w (implDistinct_ok xs hl) ?_
  simp -implicitDefEqProofs (disch := omega) only [go_sem] <;> (repeat (with_reducible refine And.intro ?_ ?_; focus first | omega | rfl | assumption | exact ⟨_, rfl, rfl⟩ | (simp; omega) | (simp; done)))
  with_reducible refine split2 (fun hb => ?_) (fun hb => ?_) <;> have h := hb <;> (try simp only [wf_preprocess] at h) <;> simp -implicitDefEqProofs (disch := omega) only [go_sem, hb] <;> (repeat (with_reducible refine And.intro ?_ ?_; focus first | omega | rfl | assumption | exact ⟨_, rfl, rfl⟩ | (simp; omega) | (simp; done)))
  · refine call_d rfl (containsFuncstring_ok 118 [] _ xs (fun s => !validName s) hl fun s hx => FPure.of_pure (hcl s hx)) ?_
    simp -implicitDefEqProofs (disch := omega) only [go_sem]
    rw [ha]
    exact bool_eq (by unfold namesOk; rw [hb]; simp)
  · exact bool_eq (by unfold namesOk; rw [hb]; rfl)
end Go.Proofs.Ytceaigchkgifgaa

namespace Go.Ab
theorem run_app_make {P : Program} {w : World} {t u ty e : TypeId} {base : Option Addr} {n : Nat} {i : TypeInfo} {z : Value} (ht : P.underlying t = some (.slice e)) (hu : P.underlying u = some (.int .i64)) (hi : P.info? e = some i)
    (hz : i.zero = some z) (h1 : 1 ≤ n) (hn : n ≤ 1073741824) (hb : i.bytes ≤ 4096) (hs : i.size = z.cells.size) :
    ∃ (cap : Nat) (row : Array Value), n ≤ cap ∧ row.size = cap * z.cells.size ∧ (Builtin.append_ #[t, u] ty #[.slice base 0 0, .int .i64 n]).run P w =
      .ok (.slice (some ⟨w.heap.size, 0, none⟩) n cap) { w.drew with heap := w.heap.push (.cells row e) } := by
  have hn1 := nextcap_le n 0 (by omega)
  have h48 : ¬ (281474976710656 < Builtin.nextslicecap n 0 * i.bytes) := by
    have : Builtin.nextslicecap n 0 * i.bytes ≤ (2 * n + 512) * 4096 := Nat.mul_le_mul hn1 hb
    omega
  have h49 : ¬ (281474976710656 < (n : Int) * (i.bytes : Int)) := by
    have h2 : n * i.bytes ≤ 1073741824 * 4096 := Nat.mul_le_mul hn hb
    have : (n : Int) * (i.bytes : Int) = ((n * i.bytes : Nat) : Int) := by simp
    rw [this]; omega
  have h63' : ¬ (9223372036854775807 < (n : Int)) := by omega
  have hroom' : ¬ (n ≤ 0) := by omega
  have hneg : ¬ ((n : Int) < 0) := by omega
  have hn0 : ¬ n = 0 := by omega
  have hw : IntKind.i64.wrap (n : Int) = n := wrap_in _ (by omega)
  have hmax : IntKind.i64.max = 9223372036854775807 := by decide
  have ha : ∀ w : World, (asInt (.int .i64 (n : Int))).run P w = .ok (n : Int) w := fun w => by simp [asInt, asIntOf]
  let cap := (Question.appendCap n 0 e).cut (w.tape w.drawn (Question.appendCap n 0 e))
  have hcap : n ≤ cap := by simp [cap, Question.cut]
  refine ⟨cap, #[] ++ (if n * i.size = 0 then #[] else Builtin.zeroCells z.cells n) ++ Builtin.zeroCells z.cells (cap - n), hcap, ?_, ?_⟩
  · by_cases h0 : n * i.size = 0
    · rw [if_pos h0]
      have hsz : z.cells.size = 0 := by
        rcases Nat.mul_eq_zero.1 h0 with h | h
        · omega
        · omega
      simp [Builtin.zeroCells, hsz]
    · rw [if_neg h0]
      simp only [Builtin.zeroCells, Array.size_append, Array.size_map, Array.size_range, Array.size_empty, Nat.zero_add]
      rw [← Nat.add_mul]
      congr 1
      omega
  · by_cases h0 : n * i.size = 0
    · rw [if_pos h0]
      cases base <;> simp [Builtin.append_, run_underlying ht, run_underlying hu, sizeOf, typeInfo, zeroValue, hi, hz, hroom', h48, h49, h63', hneg, hw, hmax, Question.forced, newRow, ha, hn0, loadCellsFrom, h0, Builtin.firstCells, loadCells] <;> exact ⟨rfl, rfl⟩
    · rw [if_neg h0]
      cases base <;> simp [Builtin.append_, run_underlying ht, run_underlying hu, sizeOf, typeInfo, zeroValue, hi, hz, hroom', h48, h49, h63', hneg, hw, hmax, Question.forced, newRow, ha, hn0, loadCellsFrom, h0, Builtin.firstCells, loadCells] <;> exact ⟨rfl, rfl⟩
end Go.Ab
namespace Go.Proofs.Ytceaigchkgifgaa
open Go Go.Ab
theorem growS_run (base : Option Addr) (n : Nat) (h1 : 1 ≤ n) (hn : n ≤ 1073741824) (w : World) : Calls Try.prog 107 #[.slice base 0 0, .int .i64 n] w fun e w' =>
    ∃ cap row, n ≤ cap ∧ row.size = cap ∧ e = .returned (.slice (some ⟨w.heap.size, 0, none⟩) 0 cap) ∧ w' = { w.drew with heap := w.heap.push (.cells row 9) } := by
  obtain ⟨cap, row, hc, hr, hm⟩ := run_app_make (P := Try.prog) (w := w) (t := 33) (u := 3) (ty := 33) (e := 9) (base := base) (n := n) Try.underlying33 Try.underlying3 rfl rfl h1 hn (by decide +kernel) rfl
  have h0 : ¬ ((n : Int) < 0) := by omega
  have h2 : (0 : Int) < n := by omega
  go_enter Try.func107, Try.ntmps107
  go_wp2_with (at_builtin; refine Lib.wpList_append_run _ rfl _ _ _ _ rfl _ _ rfl rfl _ _ hm ?_)
  all_goals go_ret
  exact ⟨cap, hc, row, hr.trans (Nat.mul_one _), rfl, rfl⟩
theorem growS_run0 (base : Option Addr) (w : World) : Calls Try.prog 107 #[.slice base 0 0, .int .i64 0] w fun e w' => e = .returned (.slice base 0 0) ∧ w' = w := by
  go_enter Try.func107, Try.ntmps107
  go_wp2
  all_goals go_ret
  exact ⟨rfl, rfl⟩
theorem growS_ok (n : Nat) (hn : n ≤ 1073741824) (own0 : List Ab.Obj) (Ω : Store) : ACall Try.prog 107 [.c (.fsl []), .c (.d (.i .i64 n))] (own0 :: Ω)
    (fun r S' => r = .c (.tsl (0, own0.length) []) ∧ S' = (own0 ++ [.tok 1 []]) :: Ω) := by
  refine ⟨⟨_, Try.func107, by kernel_rfl, by kernel_rfl⟩, fun w σ β vs hS hv => ?_⟩
  obtain ⟨hl, h⟩ := hv
  obtain ⟨v0, e0, ⟨h0, a, m, h00⟩, _⟩ := h 0 _ rfl
  obtain ⟨v1, e1, h1, _⟩ := h 1 _ rfl
  have h1' : v1 = .int .i64 n := by cases h1; rfl
  subst h1'
  have hm : m = 0 := by rw [h00] at h0; cases h0 <;> rfl
  subst hm
  subst h00
  have hvs : vs = [.slice a 0 0, .int .i64 n] := by
    match vs, hl, e0, e1 with
    | [x, y], _, e0, e1 => simp at e0 e1; rw [e0, e1]
  subst hvs
  cases β with
  | nil => have := hS.shape.1; simp at this
  | cons bo bΩ =>
  have hlen : bo.length = own0.length := by
    obtain ⟨gr, g1, g2⟩ := hS.shape.2 0 own0 rfl
    simp at g1; rw [g1]; exact g2
  by_cases hz : n = 0
  · subst hz
    refine (growS_run0 a w).mono fun e w' ⟨he, hw⟩ => ?_
    subst hw
    obtain ⟨hS', hk, hst⟩ := hS.push (o := .tok 1 []) (h := .slice a 0 0) (Grow.refl hS.live) hlen ⟨h0, by simp, a, 0, rfl, by simp, .inl rfl⟩ (fun b hb => by cases a <;> simp [owns, blk] at hb)
    refine ⟨_, .c (.tsl (0, own0.length) []), _, _, _, he, hS', hk, hst, ⟨⟨h0, .tok 1 [], ?_, fun esz es e => ?_⟩, rfl⟩, rfl, rfl⟩
    · rw [getO_push_new]
    · obtain ⟨_, rfl⟩ := istok_of (lab := none) e; exact ⟨Nat.le_refl _, fun _ => by rw [← hlen, getO_push_new]⟩
  · refine (growS_run a n (by omega) hn w).mono fun e w' ⟨cap, row, hc, hr, he, hw⟩ => ?_
    subst hw
    have hσ : σ w.heap.size = 0 := (hS.live w.heap.size).resolve_left (by omega)
    have hg : Grow w σ { w.drew with heap := w.heap.push (.cells row 9) } σ := by
      refine ⟨by simp, rfl, rfl, fun b hb => ⟨?_, rfl⟩, fun b => ?_⟩
      · simp only [Array.getElem?_push]
        rw [if_neg (by omega)]
      · rcases hS.live b with hb | hb
        · left; simp; omega
        · exact .inr hb
    obtain ⟨hS', hk, hst⟩ := hS.push (o := .tok 1 []) (h := .slice (some ⟨w.heap.size, 0, none⟩) 0 cap) hg hlen ⟨.nil _ _, by simp, _, cap, rfl, by simp, .inr ⟨w.heap.size, 0, row, 9, rfl, by simp, by simp [hσ], by omega⟩⟩ (fun b hb => by
      simp only [owns, blk] at hb
      split at hb
      · cases hb
      · cases hb; exact Nat.le_refl _)
    refine ⟨_, .c (.tsl (0, own0.length) []), _, _, _, he, hS', hk, hst, ⟨⟨.nil _ _, .tok 1 [], ?_, fun esz es e => ?_⟩, rfl⟩, rfl, rfl⟩
    · rw [getO_push_new]
    · obtain ⟨_, rfl⟩ := istok_of (lab := none) e; exact ⟨Nat.le_refl _, fun _ => by rw [← hlen, getO_push_new]⟩
theorem encS_len {xs : List (List UInt8)} : ∀ y ∈ xs.map encS, y.length = 1 := fun y hy => by
  obtain ⟨z, _, rfl⟩ := List.mem_map.1 hy
  rfl
theorem flat_sum {α : Type} (xss : List (List α)) {i : Nat} (hi : i < xss.length) : (xss.take (i + 1)).flatten.length = (xss.take i).flatten.length + xss[i].length := by
  rw [List.take_succ_eq_append_getElem hi, List.flatten_append, List.length_append]
  simp only [List.flatten_cons, List.flatten_nil, List.append_nil]
theorem flat_le {α : Type} (xss : List (List α)) (i : Nat) : (xss.take i).flatten.length ≤ xss.flatten.length := by
  conv => rhs; rw [← List.take_append_drop i xss]
  rw [List.flatten_append, List.length_append]
  omega
theorem concatS_ok (xss : List (List (List UInt8))) (hl : xss.length ≤ 1073741824) (hf : xss.flatten.length ≤ 1073741824) : PCall Try.prog 78 [.c (.d (.sl (xss.map fun a => [.sl (a.map encS)])))] (.c (.d (.sl (xss.flatten.map encS)))) := fun S => by
  refine acall_cw (rs := [.tmp 2]) Try.checked.mixed Try.func78 Try.ntmps78 rfl rfl rfl rfl rfl ?_
  simp -implicitDefEqProofs (disch := omega) only [go_sem]
  refine loop_at (ι := Nat) Try.checked.mixed rfl [0, 3, 9, 10, 11] (fun i => [.c (.d (.sl (xss.map fun a => [.sl (a.map encS)]))), .c (.d (.i .i64 (xss.take i).flatten.length)), .c (.d (.sl (xss.map fun a => [.sl (a.map encS)]))), .c (.d (.i .i64 xss.length)), .c (.d (.i .i64 i))]) (fun _ => [] :: S)
    (fun i => i ≤ xss.length) (fun i => xss.length - i) 0 rfl rfl (Nat.zero_le _) ?_
  rintro i p1
  have hfi := flat_le xss i
  by_cases hi : i < xss.length
  · have hs := flat_sum xss hi
    have hfi' := flat_le xss (i + 1)
    simp -implicitDefEqProofs (disch := omega) only [go_sem]
    with_reducible refine split2 (fun hb => ?_) (fun hb => ?_) <;> have h := hb <;> (try simp only [wf_preprocess] at h) <;> simp -implicitDefEqProofs (disch := omega) only [go_sem, hb] <;> (repeat (with_reducible refine And.intro ?_ ?_; focus first | omega | rfl | assumption | exact ⟨_, rfl, rfl⟩ | (simp; omega) | (simp; done)))
    · (repeat (with_reducible refine And.intro ?_ ?_; focus first | omega | rfl | assumption | exact ⟨_, rfl, rfl⟩ | (simp; omega) | (simp; done)))
      with_reducible refine split2 (fun hb => ?_) (fun hb => ?_) <;> have h := hb <;> (try simp only [wf_preprocess] at h) <;> simp -implicitDefEqProofs (disch := omega) only [go_sem, hb] <;> (repeat (with_reducible refine And.intro ?_ ?_; focus first | omega | rfl | assumption | exact ⟨_, rfl, rfl⟩ | (simp; omega) | (simp; done)))
      · omega
      · refine inv_at (i + 1) (by omega) ?_ rfl (by omega)
        rw [hs]; rfl
    · omega
  have hi : i = xss.length := by omega
  subst hi
  simp -implicitDefEqProofs (disch := omega) only [go_sem]
  with_reducible refine split2 (fun hb => ?_) (fun hb => ?_) <;> have h := hb <;> (try simp only [wf_preprocess] at h) <;> simp -implicitDefEqProofs (disch := omega) only [go_sem, hb] <;> (repeat (with_reducible refine And.intro ?_ ?_; focus first | omega | rfl | assumption | exact ⟨_, rfl, rfl⟩ | (simp; omega) | (simp; done)))
  · omega
  rw [List.take_length]
  clear hfi
  refine call_d rfl (growS_ok xss.flatten.length hf [] S) ?_
  simp -implicitDefEqProofs (disch := omega) only [go_sem]
  refine loop_at (ι := Nat) Try.checked.mixed rfl [6, 25, 26, 27] (fun i => [.c (.tsl (0, 0) ((xss.take i).flatten.map encS)), .c (.d (.sl (xss.map fun a => [.sl (a.map encS)]))), .c (.d (.i .i64 xss.length)), .c (.d (.i .i64 i))]) (fun i => [.tok 1 ((xss.take i).flatten.map encS)] :: S)
    (fun i => i ≤ xss.length) (fun i => xss.length - i) 0 rfl rfl (Nat.zero_le _) ?_
  rintro i p1
  have hfi := flat_le xss i
  by_cases hi : i < xss.length
  · have hs := flat_sum xss hi
    have hfi' := flat_le xss (i + 1)
    have e : (xss.take (i + 1)).flatten.map encS = (xss.take i).flatten.map encS ++ xss[i].map encS := by
      rw [List.take_succ_eq_append_getElem hi, List.flatten_append, List.map_append]
      simp only [List.flatten_cons, List.flatten_nil, List.append_nil]
    simp -implicitDefEqProofs (disch := omega) only [go_sem]
    with_reducible refine split2 (fun hb => ?_) (fun hb => ?_) <;> have h := hb <;> (try simp only [wf_preprocess] at h) <;> simp -implicitDefEqProofs (disch := omega) only [go_sem, hb] <;> (repeat (with_reducible refine And.intro ?_ ?_; focus first | omega | rfl | assumption | exact ⟨_, rfl, rfl⟩ | (simp; omega) | (simp; done)))
    · (repeat (with_reducible refine And.intro ?_ ?_; focus first | omega | rfl | assumption | exact ⟨_, rfl, rfl⟩ | (simp; omega) | (simp; done)))
      refine ⟨encS_len, ⟨_, rfl, rfl⟩, by omega, ?_⟩
      exact inv_at (i + 1) (by omega) (by rw [e]; rfl) (by rw [e]) (by omega)
    · omega
  · have hi : i = xss.length := by omega
    subst hi
    simp -implicitDefEqProofs (disch := omega) only [go_sem]
    with_reducible refine split2 (fun hb => ?_) (fun hb => ?_) <;> have h := hb <;> (try simp only [wf_preprocess] at h) <;> simp -implicitDefEqProofs (disch := omega) only [go_sem, hb] <;> (repeat (with_reducible refine And.intro ?_ ?_; focus first | omega | rfl | assumption | exact ⟨_, rfl, rfl⟩ | (simp; omega) | (simp; done)))
    · omega
    rw [List.take_length]
theorem cloneS_nil (c : Nat) (w : World) : Calls Try.prog 77 #[.slice none 0 c] w fun e w' => e = .returned (.slice none 0 0) ∧ w' = w := by
  have hb : (binOp .eql 33 (.slice none 0 c) (.slice none 0 0)).run Try.prog w = .ok (.bool true) w := by
    simp [binOp, run_equal_slice_nil w _ _ _ _ _ Try.underlying33]
  go_enter Try.func77, Try.ntmps77
  go_wp2
  all_goals go_ret
  exact ⟨rfl, rfl⟩
theorem cloneS_run (w w' : World) (a : Addr) (n c : Nat) (r : Value) (hm : (Builtin.append_ #[33, 33] 33 #[.slice (some ⟨w.heap.size, 0, none⟩) 0 0, .slice (some a) n c]).run Try.prog (w.alloc (.cells #[] 9)) = .ok r w') :
    Calls Try.prog 77 #[.slice (some a) n c] w fun e w'' => e = .returned r ∧ w'' = w' := by
  have hb : (binOp .eql 33 (.slice (some a) n c) (.slice none 0 0)).run Try.prog w = .ok (.bool false) w := by
    simp [binOp, run_equal_slice_nil w _ _ _ _ _ Try.underlying33]
  go_enter Try.func77, Try.ntmps77
  go_wp2_with (at_builtin; refine Lib.wpList_append_run _ rfl _ _ _ _ rfl _ _ rfl rfl _ _ hm ?_)
  all_goals go_ret
  exact ⟨rfl, rfl⟩
theorem cloneS_ok (xs : List (List UInt8)) (hx : xs.length ≤ 1073741824) (own0 : List Ab.Obj) (Ω : Store) : ACall Try.prog 77 [.c (.d (.sl (xs.map encS)))] (own0 :: Ω)
    (fun r S' => r = .c (.tsl (0, own0.length) (xs.map encS)) ∧ S' = (own0 ++ [.tok 1 (xs.map encS)]) :: Ω) := by
  have hlen0 : (xs.map encS).length ≤ 1073741824 := by simpa using hx
  have h1 := encS_len (xs := xs)
  generalize xs.map encS = es at *
  refine ⟨⟨_, Try.func77, by kernel_rfl, by kernel_rfl⟩, fun w σ β vs hS hv => ?_⟩
  obtain ⟨hl, h⟩ := hv
  obtain ⟨v, e0, hd, _⟩ := h 0 _ rfl
  have hd : RepD w σ (.sl es) v := hd
  have hvs : vs = [v] := by
    match vs, hl, e0 with
    | [x], _, e0 => simp at e0; rw [e0]
  subst hvs
  cases β with
  | nil => have := hS.shape.1; simp at this
  | cons bo bΩ =>
  have hlen : bo.length = own0.length := by
    obtain ⟨gr, g1, g2⟩ := hS.shape.2 0 own0 rfl
    simp at g1; rw [g1]; exact g2
  have hv : ∃ a c, v = .slice a es.length c ∧ (a = none → es = []) := by
    cases hd with
    | nil a cap => exact ⟨a, cap, rfl, fun _ => rfl⟩
    | sl b off cap esz es vals c t fz => exact ⟨_, _, rfl, fun h => by cases h⟩
  obtain ⟨a, c, rfl, ha⟩ := hv
  cases a with
  | none =>
    have := ha rfl
    subst this
    refine (cloneS_nil c w).mono fun e w' ⟨he, hw⟩ => ?_
    subst hw
    obtain ⟨hS', hk, hst⟩ := hS.push (o := .tok 1 []) (h := .slice none 0 0) (Grow.refl hS.live) hlen ⟨.nil _ _, by simp, none, 0, rfl, by simp, .inl rfl⟩ (fun b hb => by simp [owns, blk] at hb)
    refine ⟨_, .c (.tsl (0, own0.length) []), _, _, _, he, hS', hk, hst, ⟨⟨.nil _ _, .tok 1 [], ?_, fun esz es e => ?_⟩, rfl⟩, rfl, rfl⟩
    · rw [getO_push_new]
    · obtain ⟨_, rfl⟩ := istok_of (lab := none) e; exact ⟨Nat.le_refl _, fun _ => by rw [← hlen, getO_push_new]⟩
  | some a =>
    have hσ : σ w.heap.size = 0 := (hS.live w.heap.size).resolve_left (by omega)
    have hg : Grow w σ (w.alloc (.cells #[] 9)) σ := by
      have hh : (w.alloc (.cells #[] 9)).heap = w.heap.push (.cells #[] 9) := rfl
      refine ⟨by rw [hh]; simp, rfl, rfl, fun b hb => ⟨?_, rfl⟩, fun b => ?_⟩
      · rw [hh, Array.getElem?_push]
        rw [if_neg (by omega)]
      · rcases hS.live b with hb | hb
        · left; rw [hh]; simp; omega
        · exact .inr hb
    have hobj : RepObj (w.alloc (.cells #[] 9)) σ [] [] (.tok 1 []) (.slice (some ⟨w.heap.size, 0, none⟩) 0 0) := ⟨.nil _ _, by simp, _, 0, rfl, by simp, .inl rfl⟩
    obtain ⟨r, w', σ', hr, hro, hsz, hos, hout, hn, hli, hfar, hbk, hzero, h1c⟩ := append_run (lab := none) (P := Try.prog) (w := w.alloc (.cells #[] 9)) (σ := σ) (S := []) (β := []) (t := 33) (u := 33) (ty := 33) (e := 9) (size := 1) (es := []) (ys := es) hg.live Try.underlying33 (.inl ⟨_, Try.underlying33⟩) ⟨[.d (.s [])], by kernel_rfl, rfl⟩ rfl (by decide +kernel) hobj (srcAll_slice (RepD.mono hg.near hd) h1) (by simpa using hlen0)
    rw [List.nil_append] at hro hbk
    refine (cloneS_run w w' a es.length c r hr).mono fun e w'' ⟨he, hw⟩ => ?_
    subst hw
    have hg2 : Grow (w.alloc (.cells #[] 9)) σ w'' σ' := ⟨hsz, hos, hout, fun b hb => hfar b hb (by simp [tokO, owns, blk]), hli⟩
    have hg3 := hg.trans hg2
    obtain ⟨hS', hk, hst⟩ := hS.push (o := .tok 1 es) (h := r) hg3 hlen (hro _ _) (fun b hb => by
      rcases hbk b hb with h | h
      · simp [tokO, owns, blk] at h
      · exact Nat.le_trans hg.size h)
    refine ⟨_, .c (.tsl (0, own0.length) es), _, _, _, he, hS', hk, hst, ⟨⟨(hro [] []).1, .tok 1 es, ?_, fun esz es' e => ?_⟩, h1c⟩, rfl, rfl⟩
    · rw [getO_push_new]
    · obtain ⟨_, rfl⟩ := istok_of (lab := none) e; exact ⟨Nat.le_refl _, fun _ => by rw [← hlen, getO_push_new]⟩
end Go.Proofs.Ytceaigchkgifgaa

namespace Go.Ab
def ops : List (List UInt8) := [[43], [45], [42], [60], [61]]
def zeroT (t : MType) : Prop := t.fKind = 0 ∧ t.fName = [] ∧ t.fArgs.length = 0
def fieldsP (e : MExpr) : Prop :=
  (1 ≤ e.fKind ∧ e.fKind ≤ 12) ∧
  (if e.fKind = 5 ∨ e.fKind = 11 then validName e.fTrait = true else e.fTrait = []) ∧
  (if e.fKind = 3 ∨ e.fKind = 4 ∨ e.fKind = 5 ∨ e.fKind = 6 ∨ e.fKind = 8 then validName e.fName = true else if e.fKind = 10 then e.fName ∈ ops else e.fName = []) ∧
  (if e.fKind = 1 then -999999 ≤ e.fN ∧ e.fN ≤ 999999 else if e.fKind = 2 then e.fN = 0 ∨ e.fN = 1 else e.fN = 0) ∧
  (if e.fKind = 12 then validType e.fType = true else zeroT e.fType) ∧
  (if e.fKind = 4 ∨ e.fKind = 6 then True else if e.fKind = 5 then 1 ≤ e.fArgs.length else if e.fKind = 7 ∨ e.fKind = 11 ∨ e.fKind = 12 then e.fArgs.length = 1 else if e.fKind = 8 ∨ e.fKind = 10 then e.fArgs.length = 2 else if e.fKind = 9 then e.fArgs.length = 3 else e.fArgs.length = 0) ∧
  (e.fKind = 7 ↔ 0 < e.fArms.length)
mutual
noncomputable def exprOk : MExpr → Bool
  | .mk k t n m ty a b => dec (fieldsP (.mk k t n m ty a b)) && (exprsOk a && armsOk b)
noncomputable def exprsOk : List MExpr → Bool
  | [] => true
  | x :: xs => exprOk x && exprsOk xs
noncomputable def armOk : MArm → Bool
  | .mk c v b => validName c && (namesOk v && exprOk b)
noncomputable def armsOk : List MArm → Bool
  | [] => true
  | x :: xs => armOk x && armsOk xs
end
theorem exprOk_eq (x : MExpr) : exprOk x = (dec (fieldsP x) && (exprsOk x.fArgs && armsOk x.fArms)) := by cases x; rw [exprOk]; rfl
theorem armOk_eq (x : MArm) : armOk x = (validName x.fConstructor && (namesOk x.fVars && exprOk x.fBody)) := by cases x; rw [armOk]; rfl
theorem exprsOk_drop {xs : List MExpr} {i : Nat} (hi : i < xs.length) : exprsOk (xs.drop i) = (exprOk xs[i] && exprsOk (xs.drop (i + 1))) := by rw [List.drop_eq_getElem_cons hi, exprsOk]
theorem armsOk_drop {xs : List MArm} {i : Nat} (hi : i < xs.length) : armsOk (xs.drop i) = (armOk xs[i] && armsOk (xs.drop (i + 1))) := by rw [List.drop_eq_getElem_cons hi, armsOk]
theorem exprsOk_any : ∀ {xs : List MExpr}, (xs.any fun t => !exprOk t) = !exprsOk xs
  | [] => rfl
  | t :: ts => by rw [List.any_cons, exprsOk_any (xs := ts), exprsOk]; simp
theorem armsOk_any : ∀ {xs : List MArm}, (xs.any fun t => !armOk t) = !armsOk xs
  | [] => rfl
  | t :: ts => by rw [List.any_cons, armsOk_any (xs := ts), armsOk]; simp
noncomputable def validExpr (e : MExpr) : Bool := dec (e.cnt ≤ 300) && exprOk e
def subE (l : Int) (c : Nat) : Int := if l < 0 then -1 else if c ≤ l then l - c else -1
theorem subE_add {l : Int} {a b : Nat} : subE (subE l a) b = subE l (a + b) := by unfold subE; split <;> split <;> (try split) <;> (try split) <;> omega
theorem subE_neg {l : Int} {a : Nat} (h : l < 0) : subE l a = -1 := if_pos h
theorem subE_zero {l : Int} (h : -1 ≤ l) : subE l 0 = l := by unfold subE; split <;> (try split) <;> omega
theorem subE_le {l : Int} {c : Nat} (h : 0 ≤ l) : -1 ≤ subE l c ∧ subE l c ≤ l := by unfold subE; split <;> (try split) <;> omega
theorem subE_pos {l : Int} {c : Nat} (h : 0 ≤ l) : decide (subE l c ≥ 0) = decide ((c : Int) ≤ l) := by unfold subE; rw [if_neg (by omega)]; split <;> simp <;> omega
theorem not_valid_nil : validName [] = false := dec_false fun h => by have := h.1.1; simp at this
theorem op_len {s : List UInt8} (h : s ∈ ops) : s.length = 1 := by simp [ops] at h; rcases h with h | h | h | h | h <;> rw [h] <;> rfl
theorem op_not_valid {s : List UInt8} (h : s ∈ ops) : validName s = false := dec_false fun x => by
  have h1 := x.2.2 0 (by have := x.1.1; omega)
  simp [ops] at h; rcases h with h | h | h | h | h <;> rw [h] at h1 <;> simp [lowerB, digitB] at h1
theorem zeroT_not_valid {t : MType} (h : zeroT t) : validType t = false := dec_false fun x => by
  have h1 := x.1
  rw [formed_eq, Bool.and_eq_true] at h1
  have h2 := of_dec h1.1
  rw [h.1] at h2
  omega
end Go.Ab
namespace Go.Ab
structure Hold (p : Prop) : Prop where
  out : p
theorem aw_canon {P : Program} {N : Nat} {c : Code} {Q : Exit → St → Prop} {tm : List (Nat × V)} {st st' : Store} (ts : List Nat) (vs : List V) (hv : ts.map (look tm) = vs) (hs : st = st')
    (h : AW P N c Q ⟨zipTm ts vs, st'⟩) : AW P N c Q ⟨tm, st⟩ := by
  subst hs
  refine aw_ghost h ?_
  rw [← hv]
  exact tm_ghost fun t => look_zip _ ts t
end Go.Ab

namespace Go.Ab
noncomputable def addF (k : Int) (n : List UInt8) (bound out : List (List UInt8)) : List (List UInt8) := if k = 3 ∧ n ∉ bound ∧ n ∉ out then out ++ [n] else out
mutual
noncomputable def freeE : MExpr → List (List UInt8) → List (List UInt8) → List (List UInt8)
  | .mk k _ n _ _ a b, bound, out => freeR b bound (freeL a k n 0 bound (addF k n bound out))
noncomputable def freeL : List MExpr → Int → List UInt8 → Nat → List (List UInt8) → List (List UInt8) → List (List UInt8)
  | [], _, _, _, _, out => out
  | x :: xs, k, n, i, bound, out => freeL xs k n (i + 1) bound (freeE x (if k = 8 ∧ i = 1 then bound ++ [n] else bound) out)
noncomputable def freeR : List MArm → List (List UInt8) → List (List UInt8) → List (List UInt8)
  | [], _, out => out
  | x :: xs, bound, out => freeR xs bound (freeM x bound out)
noncomputable def freeM : MArm → List (List UInt8) → List (List UInt8) → List (List UInt8)
  | .mk _ v b, bound, out => freeE b (bound ++ v) out
end
theorem freeE_eq (x : MExpr) (bound out : List (List UInt8)) : freeE x bound out = freeR x.fArms bound (freeL x.fArgs x.fKind x.fName 0 bound (addF x.fKind x.fName bound out)) := by cases x; rw [freeE]; rfl
theorem freeM_eq (x : MArm) (bound out : List (List UInt8)) : freeM x bound out = freeE x.fBody (bound ++ x.fVars) out := by cases x; rw [freeM]; rfl
theorem freeL_drop {xs : List MExpr} {k : Int} {n : List UInt8} {i : Nat} {bound out : List (List UInt8)} (hi : i < xs.length) : freeL (xs.drop i) k n i bound out = freeL (xs.drop (i + 1)) k n (i + 1) bound (freeE xs[i] (if k = 8 ∧ i = 1 then bound ++ [n] else bound) out) := by
  rw [List.drop_eq_getElem_cons hi, freeL]
theorem freeR_drop {xs : List MArm} {i : Nat} {bound out : List (List UInt8)} (hi : i < xs.length) : freeR (xs.drop i) bound out = freeR (xs.drop (i + 1)) bound (freeM xs[i] bound out) := by
  rw [List.drop_eq_getElem_cons hi, freeR]
theorem addF_len (k : Int) (n : List UInt8) (bound out : List (List UInt8)) : (addF k n bound out).length ≤ out.length + 1 := by
  unfold addF; split <;> simp
mutual
theorem freeE_len : ∀ (x : MExpr) (bound out : List (List UInt8)), (freeE x bound out).length ≤ out.length + x.cnt
  | .mk k t n m ty a b, bound, out => by
    have h1 := addF_len k n bound out
    have h2 := freeL_len a k n 0 bound (addF k n bound out)
    have h3 := freeR_len b bound (freeL a k n 0 bound (addF k n bound out))
    rw [freeE, MExpr.cnt]; omega
theorem freeL_len : ∀ (xs : List MExpr) (k : Int) (n : List UInt8) (i : Nat) (bound out : List (List UInt8)), (freeL xs k n i bound out).length ≤ out.length + MExpr.cnts xs
  | [], k, n, i, bound, out => by rw [freeL, MExpr.cnts]; omega
  | x :: xs, k, n, i, bound, out => by
    have h1 := freeE_len x (if k = 8 ∧ i = 1 then bound ++ [n] else bound) out
    have h2 := freeL_len xs k n (i + 1) bound (freeE x (if k = 8 ∧ i = 1 then bound ++ [n] else bound) out)
    rw [freeL, MExpr.cnts]; omega
theorem freeR_len : ∀ (xs : List MArm) (bound out : List (List UInt8)), (freeR xs bound out).length ≤ out.length + MArm.cnts xs
  | [], bound, out => by rw [freeR, MArm.cnts]; omega
  | x :: xs, bound, out => by
    have h1 := freeM_len x bound out
    have h2 := freeR_len xs bound (freeM x bound out)
    rw [freeR, MArm.cnts]; omega
theorem freeM_len : ∀ (x : MArm) (bound out : List (List UInt8)), (freeM x bound out).length ≤ out.length + x.cnt
  | .mk c v b, bound, out => by
    have h1 := freeE_len b (bound ++ v) out
    rw [freeM, MArm.cnt]; omega
end
theorem MExpr.arg_sz {x : MExpr} {i : Nat} (hi : i < x.fArgs.length) : x.fArgs[i].sz + x.fArgs.length ≤ x.sz := by
  have hx : x.fArgs[i].sz ≤ szRows (x.fArgs.map MExpr.enc) := szRows_mem (List.mem_map_of_mem (List.getElem_mem hi))
  have := MExpr.sz_parts x
  omega
theorem MExpr.arm_sz {x : MExpr} {i : Nat} (hi : i < x.fArms.length) : x.fArms[i].sz + x.fArms.length ≤ x.sz := by
  have hx : x.fArms[i].sz ≤ szRows (x.fArms.map MArm.enc) := szRows_mem (List.mem_map_of_mem (List.getElem_mem hi))
  have := MExpr.sz_parts x
  omega
theorem MArm.sz_vars (x : MArm) : x.fVars.length + x.fBody.sz ≤ x.sz := by
  simp only [MArm.sz, MArm.enc_eq, MExpr.sz, szRow, szRow_append, D.sz, List.length_map]
  omega
theorem snocW (xs : List (List UInt8)) (s : List UInt8) : xs.map encS ++ [[D.s s]] = (xs ++ [s]).map encS := by simp [encS]
end Go.Ab
namespace Go.Proofs.Ytceaigchkgifgaa
open Go Go.Ab
set_option maxHeartbeats 2000000 in
theorem implFree_all : ∀ N : Nat, ∀ x : MExpr, SizeOf.sizeOf x < N → x.sz ≤ 4194304 → ∀ (bound out : List (List UInt8)) (l j : Nat) (S : Store), getO S (l, j) = some (.tok 1 (out.map encS)) → out.length + x.cnt ≤ 1073741824 → bound.length + x.sz ≤ 1073741824 →
    ACall Try.prog 45 [.c (.tsl (l, j) (out.map encS)), x.v, .c (.d (.sl (bound.map encS)))] S (fun r S' => r = .c (.tsl (l, j) ((freeE x bound out).map encS)) ∧ S' = setO S (l, j) (.tok 1 ((freeE x bound out).map encS)))
  | 0 => fun x h => by omega
  | N + 1 => by
    have ih := implFree_all N
    intro x hn hsz bound out l j S hk hc hbd
    have hb0 := MExpr.sz_parts x
    have lArgs := MExpr.lt_Args x
    have lArms := MExpr.lt_Arms x
    have hcn := MExpr.cnt_eq x
    have hkS : ∀ y : Ab.Obj, getO (setO S (l, j) y) (l, j) = some y := fun y => getO_setO_eq _ _ _ _ hk
    have hS0 : setO S (l, j) (.tok 1 (out.map encS)) = S := setO_self _ _ hk
    have fin := freeE_eq x bound out
    have hal := addF_len x.fKind x.fName bound out
    obtain ⟨o1, ho1⟩ : ∃ o1, addF x.fKind x.fName bound out = o1 := ⟨_, rfl⟩
    rw [ho1] at fin hal
    refine (show Hold ?T → _ from fun tail => ?main) ?tp
    case' main =>
      refine acall_cw (rs := [.tmp 6]) Try.checked.mixed Try.func45 Try.ntmps45 rfl rfl rfl rfl rfl ?_
      simp -implicitDefEqProofs (disch := omega) only [go_sem, hk]
      repeat' (first
        | (with_reducible refine split2 (fun hb => ?_) (fun hb => ?_) <;> have h := hb <;> (try simp only [wf_preprocess] at h) <;> simp -implicitDefEqProofs (disch := omega) only [go_sem, hb, hk] <;> (repeat (with_reducible refine And.intro ?_ ?_; focus first | omega | rfl | assumption | exact ⟨_, rfl, rfl⟩ | (simp; omega) | (simp; done))))
        | (refine call_w (containsS_ok bound x.fName (by omega)) ?_; simp -implicitDefEqProofs (disch := omega) only [go_sem, hk]; (repeat (with_reducible refine And.intro ?_ ?_; focus first | omega | rfl | assumption | exact ⟨_, rfl, rfl⟩ | (simp; omega) | (simp; done))))
        | (refine call_w (containsS_ok out x.fName (by omega)) ?_; simp -implicitDefEqProofs (disch := omega) only [go_sem, hk]; (repeat (with_reducible refine And.intro ?_ ?_; focus first | omega | rfl | assumption | exact ⟨_, rfl, rfl⟩ | (simp; omega) | (simp; done)))))
      all_goals first
        | (have ha : addF x.fKind x.fName bound out = out ++ [x.fName] := if_pos ⟨by assumption, by assumption, by assumption⟩)
        | (have ha : addF x.fKind x.fName bound out = out := if_neg (fun y => by have := y.1; have := y.2.1; have := y.2.2; contradiction))
      all_goals
        refine aw_canon (st' := [.box (x.enc.map .d)] :: setO S (l, j) (.tok 1 (o1.map encS))) [0, 2, 4, 34, 35, 36] [.c (.tsl (1 + l, j) (o1.map encS)), .c (.d (.sl (bound.map encS))), .c (.ptr (0, 0) 0), .c (.d (.sl (x.fArgs.map MExpr.enc))), .c (.d (.i .i64 x.fArgs.length)), .c (.d (.i .i64 0))] ?_ ?_ ?_
        · first | (rw [← ho1, ha]; rfl) | (rw [← ho1, ha, ← snocW]; rfl)
        · first | (rw [← ho1, ha, hS0]; simp -implicitDefEqProofs (disch := omega) only [go_sem]; done) | (rw [← ho1, ha, ← snocW]; simp -implicitDefEqProofs (disch := omega) only [go_sem]; done)
        · exact tail.out
    refine ⟨?_⟩
    clear ho1
    refine loop_at (ι := Nat × List (List UInt8)) Try.checked.mixed rfl [0, 2, 4, 34, 35, 36] (fun y => [.c (.tsl (1 + l, j) (y.2.map encS)), .c (.d (.sl (bound.map encS))), .c (.ptr (0, 0) 0), .c (.d (.sl (x.fArgs.map MExpr.enc))), .c (.d (.i .i64 x.fArgs.length)), .c (.d (.i .i64 y.1))]) (fun y => [.box (x.enc.map .d)] :: setO S (l, j) (.tok 1 (y.2.map encS)))
      (fun y => y.1 ≤ x.fArgs.length ∧ y.2.length + MExpr.cnts (x.fArgs.drop y.1) + MArm.cnts x.fArms ≤ 1073741824 ∧ freeL (x.fArgs.drop y.1) x.fKind x.fName y.1 bound y.2 = freeL x.fArgs x.fKind x.fName 0 bound o1) (fun y => x.fArgs.length - y.1) (0, o1) rfl rfl ⟨Nat.zero_le _, by simp only [List.drop_zero]; omega, rfl⟩ ?_
    rintro ⟨i, o⟩ ⟨p1, p2, p3⟩
    have refs : ∀ {a b}, tmRefs 1 (zipTm [0, 2, 4, 34, 35, 36] [.c (.tsl (1 + l, j) a), .c (.d (.sl (bound.map encS))), .c (.ptr (0, 0) 0), .c (.d (.sl (x.fArgs.map MExpr.enc))), .c (.d (.i .i64 x.fArgs.length)), .c (.d (.i .i64 b))]) = true := fun {a b} => by simp [tmRefs, zipTm, V.refs, C.refs, refK]; omega
    simp only at p1 p2 p3
    simp -implicitDefEqProofs (disch := omega) only [go_sem]
    with_reducible refine split2 (fun hb => ?_) (fun hb => ?_) <;> have h := hb <;> (try simp only [wf_preprocess] at h) <;> simp -implicitDefEqProofs (disch := omega) only [go_sem, hb] <;> (repeat (with_reducible refine And.intro ?_ ?_; focus first | omega | rfl | assumption | exact ⟨_, rfl, rfl⟩ | (simp; omega) | (simp; done)))
    · have hi : i < x.fArgs.length := by omega
      have hs := List.sizeOf_lt_of_mem (List.getElem_mem hi)
      have hz := MExpr.arg_sz hi
      rw [freeL_drop hi] at p3
      rw [MExpr.cnts_drop hi] at p2
      have hlo := freeE_len x.fArgs[i] (if x.fKind = 8 ∧ i = 1 then bound ++ [x.fName] else bound) o
      (repeat (with_reducible refine And.intro ?_ ?_; focus first | omega | rfl | assumption | exact ⟨_, rfl, rfl⟩ | (simp; omega) | (simp; done)))
      have two : x.fArgs[i].sz + (bound.length + 1) ≤ 1073741824 := by omega
      repeat' (first | with_reducible refine split2 (fun hb => ?_) (fun hb => ?_) <;> have h := hb <;> (try simp only [wf_preprocess] at h) <;> simp -implicitDefEqProofs (disch := omega) only [go_sem, hb] <;> (repeat (with_reducible refine And.intro ?_ ?_; focus first | omega | rfl | assumption | exact ⟨_, rfl, rfl⟩ | (simp; omega) | (simp; done))))
      · -- a let's second argument
        have e1 : x.fKind = 8 ∧ i = 1 := ⟨by omega, by omega⟩
        rw [if_pos e1] at p3 hlo
        refine call_a rfl DS.push (cloneS_ok bound (by omega) _ _) ?_
        simp -implicitDefEqProofs (disch := omega) only [go_sem]
        (repeat (with_reducible refine And.intro ?_ ?_; focus first | omega | rfl | assumption | exact ⟨_, rfl, rfl⟩ | (simp; omega) | (simp; done)))
        rw [snocW]
        refine call_m [true, true, false] rfl (ih x.fArgs[i] (by omega) (by omega) (bound ++ [x.fName]) o (1 + l) j _ (by simp -implicitDefEqProofs (disch := omega) only [go_sem]; exact hkS _) (by omega) (by simp only [List.length_append, List.length_cons, List.length_nil]; omega)) ?_
        simp -implicitDefEqProofs (disch := omega) only [go_sem, setO_twice]
        exact inv_drop 1 (by decide) (i + 1, freeE x.fArgs[i] (bound ++ [x.fName]) o) (by simp only; omega) rfl rfl refs rfl ⟨by simp only; omega, by simp only; omega, p3⟩
      all_goals
        have e1 : ¬ (x.fKind = 8 ∧ i = 1) := fun h => by omega
        rw [if_neg e1] at p3 hlo
        refine call_d rfl (ih x.fArgs[i] (by omega) (by omega) bound o (1 + l) j _ (by simp -implicitDefEqProofs (disch := omega) only [go_sem]; exact hkS _) (by omega) (by omega)) ?_
        simp -implicitDefEqProofs (disch := omega) only [go_sem, setO_twice]
        exact inv_drop 1 (by decide) (i + 1, freeE x.fArgs[i] bound o) (by simp only; omega) rfl rfl refs rfl ⟨by simp only; omega, by simp only; omega, p3⟩
    have hi : i = x.fArgs.length := by omega
    rw [hi, List.drop_length] at p2 p3
    rw [MExpr.cnts] at p2
    rw [freeL] at p3
    rw [← p3] at fin
    clear p3 refs
    refine loop_at (ι := Nat × List (List UInt8)) Try.checked.mixed rfl [0, 2, 63, 64, 65] (fun y => [.c (.tsl (1 + l, j) (y.2.map encS)), .c (.d (.sl (bound.map encS))), .c (.d (.sl (x.fArms.map MArm.enc))), .c (.d (.i .i64 x.fArms.length)), .c (.d (.i .i64 y.1))]) (fun y => [.box (x.enc.map .d)] :: setO S (l, j) (.tok 1 (y.2.map encS)))
      (fun y => y.1 ≤ x.fArms.length ∧ y.2.length + MArm.cnts (x.fArms.drop y.1) ≤ 1073741824 ∧ freeR (x.fArms.drop y.1) bound y.2 = freeE x bound out) (fun y => x.fArms.length - y.1) (0, o) rfl ?_ ⟨Nat.zero_le _, by simp only [List.drop_zero]; omega, fin.symm⟩ ?_
    · simp -implicitDefEqProofs (disch := omega) only [go_sem]
    clear p1 p2 fin hal
    rintro ⟨i, o⟩ ⟨p1, p2, p3⟩
    have refs : ∀ a b, tmRefs 1 (zipTm [0, 2, 63, 64, 65] [.c (.tsl (1 + l, j) a), .c (.d (.sl (bound.map encS))), .c (.d (.sl (x.fArms.map MArm.enc))), .c (.d (.i .i64 x.fArms.length)), .c (.d (.i .i64 b))]) = true := fun a b => by simp [tmRefs, zipTm, V.refs, C.refs, refK]; omega
    simp only at p1 p2 p3
    simp -implicitDefEqProofs (disch := omega) only [go_sem]
    with_reducible refine split2 (fun hb => ?_) (fun hb => ?_) <;> have h := hb <;> (try simp only [wf_preprocess] at h) <;> simp -implicitDefEqProofs (disch := omega) only [go_sem, hb] <;> (repeat (with_reducible refine And.intro ?_ ?_; focus first | omega | rfl | assumption | exact ⟨_, rfl, rfl⟩ | (simp; omega) | (simp; done)))
    · have hi : i < x.fArms.length := by omega
      have hs := List.sizeOf_lt_of_mem (List.getElem_mem hi)
      have hs' := MArm.lt_Body x.fArms[i]
      have hz := MExpr.arm_sz hi
      have hz' := MArm.sz_vars x.fArms[i]
      rw [freeR_drop hi, freeM_eq] at p3
      rw [MArm.cnts_drop hi] at p2
      have hlo := freeE_len x.fArms[i].fBody (bound ++ x.fArms[i].fVars) o
      have hcc := concatS_ok [bound, x.fArms[i].fVars] (by simp) (by simp only [List.flatten_cons, List.flatten_nil, List.append_nil, List.length_append]; omega)
      simp only [List.map_cons, List.map_nil, List.flatten_cons, List.flatten_nil, List.append_nil] at hcc
      (repeat (with_reducible refine And.intro ?_ ?_; focus first | omega | rfl | assumption | exact ⟨_, rfl, rfl⟩ | (simp; omega) | (simp; done)))
      refine call_w hcc ?_
      simp -implicitDefEqProofs (disch := omega) only [go_sem]
      refine call_d rfl (ih x.fArms[i].fBody (by omega) (by omega) (bound ++ x.fArms[i].fVars) o (1 + l) j _ (by simp -implicitDefEqProofs (disch := omega) only [go_sem]; exact hkS _) (by omega) (by simp only [List.length_append]; omega)) ?_
      simp -implicitDefEqProofs (disch := omega) only [go_sem, setO_twice]
      exact inv_drop 1 (by decide) (i + 1, freeE x.fArms[i].fBody (bound ++ x.fArms[i].fVars) o) (by simp only; omega) rfl rfl (refs _ _) rfl ⟨by simp only; omega, by simp only; omega, p3⟩
    · have hi : i = x.fArms.length := by omega
      rw [hi, List.drop_length, freeR] at p3
      rw [← p3]
      exact ⟨rfl, rfl⟩
theorem implFreeVars_ok (x : MExpr) (hsz : x.sz ≤ 4194304) : PCall Try.prog 20 [x.v] (.c (.d (.sl ((freeE x [] []).map encS)))) := fun S => by
  have hc := MExpr.cnt_le x
  have h0 : ∀ S, ACall Try.prog 45 [.c (.fsl []), x.v, .c (.d (.sl []))] S (fun r S' => r = .c (.d (.sl ((freeE x [] []).map encS))) ∧ S' = S) := fun S => by
    refine ACall.tok0 0 (es := []) (esz := 1) rfl (by simp) (implFree_all _ x (Nat.lt_succ_self _) hsz [] [] 0 0 ([.tok 1 []] :: S) rfl (by simp; omega) (by simp; omega)) ?_
    rintro r fr S' ⟨rfl, h2⟩
    injection h2 with h2 h3
    exact ⟨_, rfl, rfl, h3⟩
  refine acall_cw (rs := [.tmp 2]) Try.checked.mixed Try.func20 Try.ntmps20 rfl rfl rfl rfl rfl ?_
  simp -implicitDefEqProofs (disch := omega) only [go_sem]
  (repeat (with_reducible refine And.intro ?_ ?_; focus first | omega | rfl | assumption | exact ⟨_, rfl, rfl⟩ | (simp; omega) | (simp; done)))
  refine call_m [true, true, false] rfl (h0 _) ?_
  simp -implicitDefEqProofs (disch := omega) only [go_sem]
set_option maxHeartbeats 2000000 in
theorem specFree_all : ∀ N : Nat, ∀ x : MExpr, SizeOf.sizeOf x < N → x.sz ≤ 4194304 → ∀ (bound out : List (List UInt8)) (l j : Nat) (S : Store), getO S (l, j) = some (.tok 1 (out.map encS)) → out.length + x.cnt ≤ 1073741824 → bound.length + x.sz ≤ 1073741824 →
    ACall Try.prog 46 [x.v, .c (.d (.sl (bound.map encS))), .c (.tsl (l, j) (out.map encS))] S (fun r S' => r = .c (.tsl (l, j) ((freeE x bound out).map encS)) ∧ S' = setO S (l, j) (.tok 1 ((freeE x bound out).map encS)))
  | 0 => fun x h => by omega
  | N + 1 => by
    have ih := specFree_all N
    intro x hn hsz bound out l j S hk hc hbd
    have hb0 := MExpr.sz_parts x
    have lArgs := MExpr.lt_Args x
    have lArms := MExpr.lt_Arms x
    have hcn := MExpr.cnt_eq x
    have hkS : ∀ y : Ab.Obj, getO (setO S (l, j) y) (l, j) = some y := fun y => getO_setO_eq _ _ _ _ hk
    have hS0 : setO S (l, j) (.tok 1 (out.map encS)) = S := setO_self _ _ hk
    have fin := freeE_eq x bound out
    have hal := addF_len x.fKind x.fName bound out
    obtain ⟨o1, ho1⟩ : ∃ o1, addF x.fKind x.fName bound out = o1 := ⟨_, rfl⟩
    rw [ho1] at fin hal
    refine (show Hold ?T → _ from fun tail => ?main) ?tp
    case' main =>
      refine acall_cw (rs := [.tmp 6]) Try.checked.mixed Try.func46 Try.ntmps46 rfl rfl rfl rfl rfl ?_
      simp -implicitDefEqProofs (disch := omega) only [go_sem, hk]
      repeat' (first
        | (with_reducible refine split2 (fun hb => ?_) (fun hb => ?_) <;> have h := hb <;> (try simp only [wf_preprocess] at h) <;> simp -implicitDefEqProofs (disch := omega) only [go_sem, hb, hk] <;> (repeat (with_reducible refine And.intro ?_ ?_; focus first | omega | rfl | assumption | exact ⟨_, rfl, rfl⟩ | (simp; omega) | (simp; done))))
        | (refine call_w (l1Has_ok bound x.fName (by omega)) ?_; simp -implicitDefEqProofs (disch := omega) only [go_sem, hk]; (repeat (with_reducible refine And.intro ?_ ?_; focus first | omega | rfl | assumption | exact ⟨_, rfl, rfl⟩ | (simp; omega) | (simp; done))))
        | (refine call_w (l1Has_ok out x.fName (by omega)) ?_; simp -implicitDefEqProofs (disch := omega) only [go_sem, hk]; (repeat (with_reducible refine And.intro ?_ ?_; focus first | omega | rfl | assumption | exact ⟨_, rfl, rfl⟩ | (simp; omega) | (simp; done)))))
      all_goals first
        | (have ha : addF x.fKind x.fName bound out = out ++ [x.fName] := if_pos ⟨by assumption, by assumption, by assumption⟩)
        | (have ha : addF x.fKind x.fName bound out = out := if_neg (fun y => by have := y.1; have := y.2.1; have := y.2.2; contradiction))
      all_goals
        refine aw_canon (st' := [.box (x.enc.map .d)] :: setO S (l, j) (.tok 1 (o1.map encS))) [1, 2, 3, 7] [.c (.d (.sl (bound.map encS))), .c (.tsl (1 + l, j) (o1.map encS)), .c (.ptr (0, 0) 0), .c (.d (.i .i64 0))] ?_ ?_ ?_
        · first | (rw [← ho1, ha]; rfl) | (rw [← ho1, ha, ← snocW]; rfl)
        · first | (rw [← ho1, ha, hS0]; simp -implicitDefEqProofs (disch := omega) only [go_sem]; done) | (rw [← ho1, ha, ← snocW]; simp -implicitDefEqProofs (disch := omega) only [go_sem]; done)
        · exact tail.out
    refine ⟨?_⟩
    clear ho1
    refine loop_at (ι := Nat × List (List UInt8)) Try.checked.mixed rfl [1, 2, 3, 7] (fun y => [.c (.d (.sl (bound.map encS))), .c (.tsl (1 + l, j) (y.2.map encS)), .c (.ptr (0, 0) 0), .c (.d (.i .i64 y.1))]) (fun y => [.box (x.enc.map .d)] :: setO S (l, j) (.tok 1 (y.2.map encS)))
      (fun y => y.1 ≤ x.fArgs.length ∧ y.2.length + MExpr.cnts (x.fArgs.drop y.1) + MArm.cnts x.fArms ≤ 1073741824 ∧ freeL (x.fArgs.drop y.1) x.fKind x.fName y.1 bound y.2 = freeL x.fArgs x.fKind x.fName 0 bound o1) (fun y => x.fArgs.length - y.1) (0, o1) rfl rfl ⟨Nat.zero_le _, by simp only [List.drop_zero]; omega, rfl⟩ ?_
    rintro ⟨i, o⟩ ⟨p1, p2, p3⟩
    have refs : ∀ {a b}, tmRefs 1 (zipTm [1, 2, 3, 7] [.c (.d (.sl (bound.map encS))), .c (.tsl (1 + l, j) a), .c (.ptr (0, 0) 0), .c (.d (.i .i64 b))]) = true := fun {a b} => by simp [tmRefs, zipTm, V.refs, C.refs, refK]; omega
    simp only at p1 p2 p3
    simp -implicitDefEqProofs (disch := omega) only [go_sem]
    with_reducible refine split2 (fun hb => ?_) (fun hb => ?_) <;> have h := hb <;> (try simp only [wf_preprocess] at h) <;> simp -implicitDefEqProofs (disch := omega) only [go_sem, hb] <;> (repeat (with_reducible refine And.intro ?_ ?_; focus first | omega | rfl | assumption | exact ⟨_, rfl, rfl⟩ | (simp; omega) | (simp; done)))
    · have hi : i < x.fArgs.length := by omega
      have hs := List.sizeOf_lt_of_mem (List.getElem_mem hi)
      have hz := MExpr.arg_sz hi
      rw [freeL_drop hi] at p3
      rw [MExpr.cnts_drop hi] at p2
      have hlo := freeE_len x.fArgs[i] (if x.fKind = 8 ∧ i = 1 then bound ++ [x.fName] else bound) o
      have two : x.fArgs[i].sz + (bound.length + 1) ≤ 1073741824 := by omega
      repeat' (first | with_reducible refine split2 (fun hb => ?_) (fun hb => ?_) <;> have h := hb <;> (try simp only [wf_preprocess] at h) <;> simp -implicitDefEqProofs (disch := omega) only [go_sem, hb] <;> (repeat (with_reducible refine And.intro ?_ ?_; focus first | omega | rfl | assumption | exact ⟨_, rfl, rfl⟩ | (simp; omega) | (simp; done))))
      · have e1 : x.fKind = 8 ∧ i = 1 := ⟨by omega, by omega⟩
        rw [if_pos e1] at p3 hlo
        refine ⟨encS_len, ⟨_, rfl, rfl⟩, fun y hy => (by cases hy), by omega, ?_⟩
        (repeat (with_reducible refine And.intro ?_ ?_; focus first | omega | rfl | assumption | exact ⟨_, rfl, rfl⟩ | (simp; omega) | (simp; done)))
        rw [snocW]
        refine call_m [true, false, true] rfl (ih x.fArgs[i] (by omega) (by omega) (bound ++ [x.fName]) o (1 + l) j _ (by simp -implicitDefEqProofs (disch := omega) only [go_sem]; exact hkS _) (by omega) (by simp only [List.length_append, List.length_cons, List.length_nil]; omega)) ?_
        simp -implicitDefEqProofs (disch := omega) only [go_sem, setO_twice]
        exact inv_drop 1 (by decide) (i + 1, freeE x.fArgs[i] (bound ++ [x.fName]) o) (by simp only; omega) rfl rfl refs rfl ⟨by simp only; omega, by simp only; omega, p3⟩
      all_goals
        have e1 : ¬ (x.fKind = 8 ∧ i = 1) := fun h => by omega
        rw [if_neg e1] at p3 hlo
        (repeat (with_reducible refine And.intro ?_ ?_; focus first | omega | rfl | assumption | exact ⟨_, rfl, rfl⟩ | (simp; omega) | (simp; done)))
        refine call_d rfl (ih x.fArgs[i] (by omega) (by omega) bound o (1 + l) j _ (by simp -implicitDefEqProofs (disch := omega) only [go_sem]; exact hkS _) (by omega) (by omega)) ?_
        simp -implicitDefEqProofs (disch := omega) only [go_sem, setO_twice]
        exact inv_drop 1 (by decide) (i + 1, freeE x.fArgs[i] bound o) (by simp only; omega) rfl rfl refs rfl ⟨by simp only; omega, by simp only; omega, p3⟩
    have hi : i = x.fArgs.length := by omega
    rw [hi, List.drop_length] at p2 p3
    rw [MExpr.cnts] at p2
    rw [freeL] at p3
    rw [← p3] at fin
    clear p3 refs
    refine loop_at (ι := Nat × List (List UInt8)) Try.checked.mixed rfl [1, 2, 3, 9] (fun y => [.c (.d (.sl (bound.map encS))), .c (.tsl (1 + l, j) (y.2.map encS)), .c (.ptr (0, 0) 0), .c (.d (.i .i64 y.1))]) (fun y => [.box (x.enc.map .d)] :: setO S (l, j) (.tok 1 (y.2.map encS)))
      (fun y => y.1 ≤ x.fArms.length ∧ y.2.length + MArm.cnts (x.fArms.drop y.1) ≤ 1073741824 ∧ freeR (x.fArms.drop y.1) bound y.2 = freeE x bound out) (fun y => x.fArms.length - y.1) (0, o) rfl ?_ ⟨Nat.zero_le _, by simp only [List.drop_zero]; omega, fin.symm⟩ ?_
    · simp -implicitDefEqProofs (disch := omega) only [go_sem]
    clear p1 p2 fin hal
    rintro ⟨i, o⟩ ⟨p1, p2, p3⟩
    have refs : ∀ a b, tmRefs 1 (zipTm [1, 2, 3, 9] [.c (.d (.sl (bound.map encS))), .c (.tsl (1 + l, j) a), .c (.ptr (0, 0) 0), .c (.d (.i .i64 b))]) = true := fun a b => by simp [tmRefs, zipTm, V.refs, C.refs, refK]; omega
    simp only at p1 p2 p3
    simp -implicitDefEqProofs (disch := omega) only [go_sem]
    with_reducible refine split2 (fun hb => ?_) (fun hb => ?_) <;> have h := hb <;> (try simp only [wf_preprocess] at h) <;> simp -implicitDefEqProofs (disch := omega) only [go_sem, hb] <;> (repeat (with_reducible refine And.intro ?_ ?_; focus first | omega | rfl | assumption | exact ⟨_, rfl, rfl⟩ | (simp; omega) | (simp; done)))
    · have hi : i < x.fArms.length := by omega
      have hs := List.sizeOf_lt_of_mem (List.getElem_mem hi)
      have hs' := MArm.lt_Body x.fArms[i]
      have hz := MExpr.arm_sz hi
      have hz' := MArm.sz_vars x.fArms[i]
      rw [freeR_drop hi, freeM_eq] at p3
      rw [MArm.cnts_drop hi] at p2
      have hlo := freeE_len x.fArms[i].fBody (bound ++ x.fArms[i].fVars) o
      refine ⟨encS_len, ⟨_, rfl, rfl⟩, fun y hy => (by cases hy), by omega, ⟨by omega, hi⟩, encS_len, ⟨_, rfl, rfl⟩, by omega, ?_⟩
      rw [← List.map_append]
      refine call_m [true, false, true] rfl (ih x.fArms[i].fBody (by omega) (by omega) (bound ++ x.fArms[i].fVars) o (1 + l) j _ (by simp -implicitDefEqProofs (disch := omega) only [go_sem]; exact hkS _) (by omega) (by simp only [List.length_append]; omega)) ?_
      simp -implicitDefEqProofs (disch := omega) only [go_sem, setO_twice]
      exact inv_drop 1 (by decide) (i + 1, freeE x.fArms[i].fBody (bound ++ x.fArms[i].fVars) o) (by simp only; omega) rfl rfl (refs _ _) rfl ⟨by simp only; omega, by simp only; omega, p3⟩
    · have hi : i = x.fArms.length := by omega
      rw [hi, List.drop_length, freeR] at p3
      rw [← p3]
      exact ⟨rfl, rfl⟩
theorem specFreeVars_ok (x : MExpr) (hsz : x.sz ≤ 4194304) : PCall Try.prog 21 [x.v] (.c (.d (.sl ((freeE x [] []).map encS)))) := fun S => by
  have hc := MExpr.cnt_le x
  have h0 : ∀ S, ACall Try.prog 46 [x.v, .c (.d (.sl [])), .c (.fsl [])] S (fun r S' => r = .c (.d (.sl ((freeE x [] []).map encS))) ∧ S' = S) := fun S => by
    refine ACall.tok0 2 (es := []) (esz := 1) rfl (by simp) (specFree_all _ x (Nat.lt_succ_self _) hsz [] [] 0 0 ([.tok 1 []] :: S) rfl (by simp; omega) (by simp; omega)) ?_
    rintro r fr S' ⟨rfl, h2⟩
    injection h2 with h2 h3
    exact ⟨_, rfl, rfl, h3⟩
  refine acall_cw (rs := [.tmp 2]) Try.checked.mixed Try.func21 Try.ntmps21 rfl rfl rfl rfl rfl ?_
  simp -implicitDefEqProofs (disch := omega) only [go_sem]
  (repeat (with_reducible refine And.intro ?_ ?_; focus first | omega | rfl | assumption | exact ⟨_, rfl, rfl⟩ | (simp; omega) | (simp; done)))
  refine call_m [true, false, true] rfl (h0 _) ?_
  simp -implicitDefEqProofs (disch := omega) only [go_sem]
end Go.Proofs.Ytceaigchkgifgaa

namespace Go.Ab
theorem addF_nodup {k : Int} {n : List UInt8} {bound out : List (List UInt8)} (h : out.Nodup) : (addF k n bound out).Nodup := by
  unfold addF
  split
  · rename_i hc
    rw [List.nodup_append]
    exact ⟨h, by simp, fun a ha b hb => by rw [List.mem_singleton.1 hb]; rintro rfl; exact hc.2.2 ha⟩
  · exact h
mutual
theorem freeE_nodup : ∀ (x : MExpr) (bound out : List (List UInt8)), out.Nodup → (freeE x bound out).Nodup
  | .mk k t n m ty a b, bound, out, h => by
    rw [freeE]
    exact freeR_nodup b bound _ (freeL_nodup a k n 0 bound _ (addF_nodup h))
theorem freeL_nodup : ∀ (xs : List MExpr) (k : Int) (n : List UInt8) (i : Nat) (bound out : List (List UInt8)), out.Nodup → (freeL xs k n i bound out).Nodup
  | [], k, n, i, bound, out, h => by rw [freeL]; exact h
  | x :: xs, k, n, i, bound, out, h => by
    rw [freeL]
    exact freeL_nodup xs k n (i + 1) bound _ (freeE_nodup x _ out h)
theorem freeR_nodup : ∀ (xs : List MArm) (bound out : List (List UInt8)), out.Nodup → (freeR xs bound out).Nodup
  | [], bound, out, h => by rw [freeR]; exact h
  | x :: xs, bound, out, h => by
    rw [freeR]
    exact freeR_nodup xs bound _ (freeM_nodup x bound out h)
theorem freeM_nodup : ∀ (x : MArm) (bound out : List (List UInt8)), out.Nodup → (freeM x bound out).Nodup
  | .mk c v b, bound, out, h => by
    rw [freeM]
    exact freeE_nodup b _ out h
end
variable {s : List UInt8}
theorem addF_bound {k : Int} {n : List UInt8} {bound out : List (List UInt8)} (hb : s ∈ bound) (h : s ∉ out) : s ∉ addF k n bound out := by
  unfold addF
  split
  · rename_i hc
    intro hs
    rcases List.mem_append.1 hs with hs | hs
    · exact h hs
    · rw [List.mem_singleton.1 hs] at hb
      exact hc.2.1 hb
  · exact h
mutual
theorem freeE_bound : ∀ (x : MExpr) (bound out : List (List UInt8)), s ∈ bound → s ∉ out → s ∉ freeE x bound out
  | .mk k t n m ty a b, bound, out, hb, h => by
    rw [freeE]
    exact freeR_bound b bound _ hb (freeL_bound a k n 0 bound _ hb (addF_bound hb h))
theorem freeL_bound : ∀ (xs : List MExpr) (k : Int) (n : List UInt8) (i : Nat) (bound out : List (List UInt8)), s ∈ bound → s ∉ out → s ∉ freeL xs k n i bound out
  | [], k, n, i, bound, out, hb, h => by rw [freeL]; exact h
  | x :: xs, k, n, i, bound, out, hb, h => by
    rw [freeL]
    exact freeL_bound xs k n (i + 1) bound _ hb (freeE_bound x _ out (by split; exact List.mem_append_left _ hb; exact hb) h)
theorem freeR_bound : ∀ (xs : List MArm) (bound out : List (List UInt8)), s ∈ bound → s ∉ out → s ∉ freeR xs bound out
  | [], bound, out, hb, h => by rw [freeR]; exact h
  | x :: xs, bound, out, hb, h => by
    rw [freeR]
    exact freeR_bound xs bound _ hb (freeM_bound x bound out hb h)
theorem freeM_bound : ∀ (x : MArm) (bound out : List (List UInt8)), s ∈ bound → s ∉ out → s ∉ freeM x bound out
  | .mk c v b, bound, out, hb, h => by
    rw [freeM]
    exact freeE_bound b _ out (List.mem_append_left _ hb) h
end
def letE (e : MExpr) : MExpr := .mk 8 [] [120] 0 (.mk 0 [] []) [.mk 1 [] [] 1 (.mk 0 [] []) [] [], e] []
theorem letE_free (e : MExpr) : [120] ∉ freeE (letE e) [] [] := by
  have h := freeE_bound (s := [120]) e ([] ++ [[120]]) [] (by simp) (by simp)
  simpa [letE, freeE, freeR, freeL, addF] using h
theorem letE_cnt (e : MExpr) : ((letE e).cnt : Int) = (e.cnt : Int) + 2 := by
  unfold letE
  simp only [MExpr.cnt, MExpr.cnts, MArm.cnts]
  omega
end Go.Ab
namespace Go.Proofs.Ytceaigchkgifgaa
open Go Go.Ab
theorem specIndexOf_ok (xs : List (List UInt8)) (s : List UInt8) (hl : xs.length ≤ 1073741824) : PCall Try.prog 53 [.c (.d (.sl (xs.map encS))), .c (.d (.s s))] (.c (.d (.i .i64 (indexS xs s)))) := fun S => by
  refine acall_cw (rs := [.tmp 4]) Try.checked.mixed Try.func53 Try.ntmps53 rfl rfl rfl rfl rfl ?_
  simp -implicitDefEqProofs (disch := omega) only [go_sem]
  refine loop_at (ι := Nat) Try.checked.mixed rfl [0, 1, 5] (fun i => [.c (.d (.sl (xs.map encS))), .c (.d (.s s)), .c (.d (.i .i64 i))]) (fun _ => [] :: S) (fun i => i ≤ xs.length ∧ ∀ j (h : j < xs.length), j < i → xs[j] ≠ s) (fun i => xs.length - i) 0 rfl rfl ⟨Nat.zero_le _, fun j _ h => by omega⟩ ?_
  rintro i ⟨p1, p2⟩
  simp -implicitDefEqProofs (disch := omega) only [go_sem, encS]
  with_reducible refine split2 (fun hb => ?_) (fun hb => ?_) <;> have h := hb <;> (try simp only [wf_preprocess] at h) <;> simp -implicitDefEqProofs (disch := omega) only [go_sem, hb, encS] <;> (repeat (with_reducible refine And.intro ?_ ?_; focus first | omega | rfl | assumption | exact ⟨_, rfl, rfl⟩ | (simp; omega) | (simp; done)))
  · have hi : i < xs.length := by omega
    (repeat (with_reducible refine And.intro ?_ ?_; focus first | omega | rfl | assumption | exact ⟨_, rfl, rfl⟩ | (simp; omega) | (simp; done)))
    with_reducible refine split2 (fun hb => ?_) (fun hb => ?_) <;> have h := hb <;> (try simp only [wf_preprocess] at h) <;> simp -implicitDefEqProofs (disch := omega) only [go_sem, hb, encS] <;> (repeat (with_reducible refine And.intro ?_ ?_; focus first | omega | rfl | assumption | exact ⟨_, rfl, rfl⟩ | (simp; omega) | (simp; done)))
    · refine int_eq ?_
      have hm : s ∈ xs := h ▸ List.getElem_mem hi
      unfold indexS
      rw [if_pos hm]
      congr 1
      exact ((List.findIdx_eq hi).2 ⟨dec_true h, fun j hj => dec_false (p2 j (by omega) hj)⟩).symm
    · refine inv_at (i + 1) (by omega) rfl rfl ⟨by omega, fun j hj hji => ?_⟩
      by_cases e : j = i
      · subst e; exact h
      · exact p2 j hj (by omega)
  · refine int_eq ?_
    unfold indexS
    rw [if_neg]
    intro hm
    obtain ⟨j, hj, e⟩ := List.getElem_of_mem hm
    exact p2 j hj (by omega) e
theorem contains_ok (xs : List (List UInt8)) (s : List UInt8) (hl : xs.length ≤ 1073741824) : PCall Try.prog 27 [.c (.d (.sl (xs.map encS))), .c (.d (.s s))] (.c (.d (.b (dec (s ∈ xs))))) := fun S => by
  have hix : decide (indexS xs s ≥ 0) = dec (s ∈ xs) := indexS_pos
  refine acall_cw (rs := [.tmp 4]) Try.checked.mixed Try.func27 Try.ntmps27 rfl rfl rfl rfl rfl ?_
  simp -implicitDefEqProofs (disch := omega) only [go_sem]
  refine call_w (specIndexOf_ok xs s hl) ?_
  simp -implicitDefEqProofs (disch := omega) only [go_sem]
  exact bool_eq hix
end Go.Proofs.Ytceaigchkgifgaa

namespace Go.Ab
mutual
def cntD : D → Nat
  | .sl es => cntRs es + 1
  | .ol _ _ => 0
  | .b _ => 0
  | .i _ _ => 0
  | .s _ => 0
  | .o _ => 0
def cntR : List D → Nat
  | [] => 0
  | d :: ds => cntD d + cntR ds
def cntRs : List (List D) → Nat
  | [] => 0
  | r :: rs => cntR r + cntRs rs
end
mutual
def labD : D → Nat → D
  | .sl es, n => .ol n (labRs es (n + 1))
  | .ol m es, _ => .ol m es
  | .b x, _ => .b x
  | .i k x, _ => .i k x
  | .s l, _ => .s l
  | .o v, _ => .o v
def labR : List D → Nat → List D
  | [], _ => []
  | d :: ds, n => labD d n :: labR ds (n + cntD d)
def labRs : List (List D) → Nat → List (List D)
  | [], _ => []
  | r :: rs, n => labR r n :: labRs rs (n + cntR r)
end
mutual
def plD : D → Bool
  | .sl es => plRs es
  | .ol _ _ => false
  | .b _ => true
  | .i _ _ => true
  | .s _ => true
  | .o _ => false
def plR : List D → Bool
  | [] => true
  | d :: ds => plD d && plR ds
def plRs : List (List D) → Bool
  | [] => true
  | r :: rs => plR r && plRs rs
end
theorem labR_length : ∀ r n, (labR r n).length = r.length
  | [], _ => rfl
  | d :: ds, n => by rw [labR, List.length_cons, labR_length ds, List.length_cons]
theorem labRs_length : ∀ rs n, (labRs rs n).length = rs.length
  | [], _ => rfl
  | r :: rs, n => by rw [labRs, List.length_cons, labRs_length rs, List.length_cons]
section
variable {P : Program} {w : World} {σ σ' : Nat → Nat} {S : Store} {β : Hs} {N : Nat} {s : St}
mutual
theorem er_D : ∀ (d : D) (n : Nat) (v : Value), RepD w σ (labD d n) v → RepD w σ d v
  | .sl es, n, v, h => by
    rw [labD] at h
    have hl := labRs_length es (n + 1)
    have hrec := er_Rs es (n + 1)
    generalize labRs es (n + 1) = q at h hl hrec
    cases h with
    | onil n a cap =>
      have : es = [] := List.eq_nil_of_length_eq_zero (by simpa using hl.symm)
      subst this
      exact .nil a cap
    | ol n b off cap esz q vals c t hcap hlen hb hσ hfit hc hv =>
      obtain ⟨r1, r2⟩ := hrec vals hv
      rw [hl] at hcap hfit hc ⊢
      refine .sl b off cap esz es vals c t (0, 0) hcap (fun e he => ?_) hb (by omega) hc r2
      obtain ⟨e', h1, h2⟩ := r1 e he
      rw [← h2]; exact hlen e' h1
  | .ol m es, n, v, h => h
  | .b x, n, v, h => h
  | .i k x, n, v, h => h
  | .s l, n, v, h => h
  | .o u, n, v, h => h
theorem er_R : ∀ (r : List D) (n : Nat) (vals : Nat → Value), (∀ j d, (labR r n)[j]? = some d → RepD w σ d (vals j)) → ∀ (j : Nat) d, r[j]? = some d → RepD w σ d (vals j)
  | [], n, vals, h, j, d, hd => by simp at hd
  | a :: r, n, vals, h, j, d, hd => by
    cases j with
    | zero =>
      simp at hd; subst hd
      exact er_D a n _ (h 0 _ rfl)
    | succ j => exact er_R r (n + cntD a) (fun i => vals (i + 1)) (fun i d hi => h (i + 1) d (by rw [labR]; exact hi)) j d hd
theorem er_Rs : ∀ (rs : List (List D)) (n : Nat) (vals : Nat → Value), (∀ j d, (labRs rs n).flatten[j]? = some d → RepD w σ d (vals j)) →
    (∀ e ∈ rs, ∃ e' ∈ labRs rs n, e'.length = e.length) ∧ ∀ (j : Nat) d, rs.flatten[j]? = some d → RepD w σ d (vals j)
  | [], n, vals, h => ⟨fun e he => (by cases he), fun j d hd => (by simp at hd)⟩
  | r :: rs, n, vals, h => by
    rw [labRs, List.flatten_cons] at h
    have h1 := er_R r n vals fun j d hd => h j d (by rw [List.getElem?_append_left (List.getElem?_eq_some_iff.1 hd).1]; exact hd)
    obtain ⟨h2, h3⟩ := er_Rs rs (n + cntR r) (fun i => vals (r.length + i)) fun j d hd => h (r.length + j) d (by rw [List.getElem?_append_right (by rw [labR_length]; omega), labR_length, Nat.add_sub_cancel_left]; exact hd)
    refine ⟨fun e he => ?_, fun j d hd => ?_⟩
    · rcases List.mem_cons.1 he with e1 | he
      · subst e1; exact ⟨_, by rw [labRs]; exact List.mem_cons_self .., labR_length _ _⟩
      · obtain ⟨e', q1, q2⟩ := h2 e he
        exact ⟨e', by rw [labRs]; exact List.mem_cons_of_mem _ q1, q2⟩
    · rw [List.flatten_cons] at hd
      by_cases hj : j < r.length
      · rw [List.getElem?_append_left hj] at hd; exact h1 j d hd
      · rw [List.getElem?_append_right (by omega)] at hd
        have := h3 (j - r.length) d hd
        rwa [show r.length + (j - r.length) = j by omega] at this
end
inductive Lesses : List V → List V → Prop
  | nil : Lesses [] []
  | cons {x y : V} {xs ys : List V} : Less x y → Lesses xs ys → Lesses (x :: xs) (y :: ys)
theorem Lesses.length : ∀ {xs ys : List V}, Lesses xs ys → xs.length = ys.length
  | _, _, .nil => rfl
  | _, _, .cons _ h => by rw [List.length_cons, List.length_cons, Lesses.length h]
theorem Lesses.at : ∀ {xs ys : List V}, Lesses xs ys → ∀ (j : Nat) (x y : V), xs[j]? = some x → ys[j]? = some y → Less x y
  | _, _, .nil, j, x, y, h, _ => by simp at h
  | _, _, .cons a h, 0, x, y, h1, h2 => by simp at h1 h2; subst h1; subst h2; exact a
  | _, _, .cons a h, j + 1, x, y, h1, h2 => Lesses.at h j x y (by simpa using h1) (by simpa using h2)
theorem PCall.args {f : FuncId} {args args' : List V} {r : V} (h : PCall P f args' r) (hl : Lesses args args') : PCall P f args r := fun S => (h S).weaken hl.length fun j x y hx hy w σ β v hr => hl.at j x y hx hy w σ S β v hr
def mapL (row : Bool) (j n : Nat) (es : List (List D)) (tm : List (Nat × V)) : List (Nat × V) := tm.map fun x => (x.1, x.2.mapC (C.lab row j n es))
theorem look_mapL {row : Bool} {j n : Nat} {es : List (List D)} {tm : List (Nat × V)} {t : Nat} : look (mapL row j n es tm) t = (look tm t).mapC (C.lab row j n es) := look_map (f := V.mapC (C.lab row j n es)) rfl tm t
def labC (j n : Nat) (tm : List (Nat × V)) (own : List Obj) (Ω : Store) : Option Obj → St
  | some (.mrow _ es) => ⟨mapL true j n es tm, (own.map (Obj.mapC (C.lab true j n es))).set j .dead :: Ω⟩
  | some (.ltok m _ es) => ⟨mapL false j m es tm, (own.map (Obj.mapC (C.lab false j m es))).set j .dead :: Ω⟩
  | _ => ⟨tm, own :: Ω⟩
def labAt (j n : Nat) (s : St) : St :=
  match s.st with
  | own :: Ω => labC j n s.tm own Ω (own[j]?)
  | [] => s
def labUp : Nat → Nat → St → St
  | 0, _, s => s
  | k + 1, n, s => labUp k n (labAt k n s)
def labAll (n : Nat) (s : St) : St :=
  match s.st with
  | own :: _ => labUp own.length n s
  | [] => s
theorem labAt_mk {j n : Nat} {tm : List (Nat × V)} {own : List Obj} {Ω : Store} : labAt j n ⟨tm, own :: Ω⟩ = labC j n tm own Ω (own[j]?) := rfl
theorem labAll_mk {n : Nat} {tm : List (Nat × V)} {own : List Obj} {Ω : Store} : labAll n ⟨tm, own :: Ω⟩ = labUp own.length n ⟨tm, own :: Ω⟩ := rfl
def retL (P : Program) (n : Nat) (rs : List ResultVar) (post : V → Store → Prop) (e : Exit) (s : St) : Prop := retQ P rs post e (labAll n s)
theorem retL_ret {n : Nat} {rs : List ResultVar} {post : V → Store → Prop} : retL P n rs post .ret s = retS P rs post (labAll n s) := rfl
theorem retL_normal {n : Nat} {rs : List ResultVar} {post : V → Store → Prop} : retL P n rs post .normal s = retS P rs post (labAll n s) := rfl
theorem lab_tsl1 {row : Bool} {j n l i : Nat} {es es' : List (List D)} : C.lab row j n es (.tsl (1 + l, i) es') = .tsl (1 + l, i) es' := by rw [Nat.add_comm]; rfl
theorem lab_tsl0 {row : Bool} {j n i : Nat} {es es' : List (List D)} : C.lab row j n es (.tsl (0, i) es') = if i = j ∧ row = false ∧ es'.length = es.length then .d (.ol n es) else .tsl (0, i) es' := rfl
theorem lab_msl1 {row : Bool} {j n l i : Nat} {es : List (List D)} : C.lab row j n es (.msl (1 + l, i)) = .msl (1 + l, i) := by rw [Nat.add_comm]; rfl
theorem lab_msl0 {row : Bool} {j n i : Nat} {es : List (List D)} : C.lab row j n es (.msl (0, i)) = if i = j ∧ row = true then .d (.ol n es) else .msl (0, i) := rfl
theorem lab_d {row : Bool} {j n : Nat} {es : List (List D)} {x : D} : C.lab row j n es (.d x) = .d x := rfl
theorem lab_any {row : Bool} {j n : Nat} {es : List (List D)} : C.lab row j n es .any = .any := rfl
theorem lab_fsl {row : Bool} {j n : Nat} {es es' : List (List D)} : C.lab row j n es (.fsl es') = .fsl es' := rfl
theorem lab_lfl {row : Bool} {j n m : Nat} {es es' : List (List D)} : C.lab row j n es (.lfl m es') = .lfl m es' := rfl
theorem lab_ptr {row : Bool} {j n off : Nat} {es : List (List D)} {k : Key} : C.lab row j n es (.ptr k off) = .ptr k off := rfl
theorem lab_fn {row : Bool} {j n f : Nat} {es : List (List D)} {caps : List (Key × Nat)} : C.lab row j n es (.fn f caps) = .fn f caps := rfl
theorem lab_rptr {row : Bool} {j n : Nat} {es : List (List D)} {cs : List D} : C.lab row j n es (.rptr cs) = .rptr cs := rfl
end
attribute [go_sem ↓] retL_ret retL_normal labAll_mk
attribute [go_sem] labUp labAt_mk labC look_mapL V.mapC Obj.mapC lab_tsl1 lab_tsl0 lab_msl1 lab_msl0 lab_d lab_any lab_fsl lab_lfl lab_ptr lab_fn lab_rptr
end Go.Ab

namespace Go.Ab
section
variable {P : Program} {w w' : World} {σ σ' : Nat → Nat} {S : Store} {β : Hs}
def Sealed (w : World) (σ : Nat → Nat) (lo hi b : Nat) : Prop := ∃ c t fz m, w.heap[b]? = some (.cells c t fz) ∧ σ b = c.size + 1 + m ∧ lo ≤ m ∧ m < hi
theorem Sealed.mono {lo hi lo' hi' b : Nat} (h : Sealed w σ lo hi b) (h1 : lo' ≤ lo) (h2 : hi ≤ hi') : Sealed w σ lo' hi' b := by
  obtain ⟨c, t, fz, m, a1, a2, a3, a4⟩ := h
  exact ⟨c, t, fz, m, a1, a2, by omega, by omega⟩
theorem Sealed.apart {lo hi lo' hi' b : Nat} (h : Sealed w σ lo hi b) (h' : Sealed w σ lo' hi' b) (ho : hi ≤ lo') : False := by
  obtain ⟨c, t, fz, m, a1, a2, a3, a4⟩ := h
  obtain ⟨c', t', fz', m', b1, b2, b3, b4⟩ := h'
  rw [a1] at b1; cases b1
  omega
abbrev Kids := List (List (Option Value))
def kidAt (rows : Kids) (i o : Nat) : Option Value := ((rows[i]?).bind fun r => r[o]?).bind id
def rowsV (rows : Kids) : Array Value := (rows.map fun r => Value.tuple (r.map fun u => u.getD (.bool false)).toArray).toArray
def mkT (v : Value) (rows : Kids) : Value := .tuple #[v, .tuple (rowsV rows)]
theorem hdr_mkT {v : Value} {rows : Kids} : hdr (mkT v rows) = some v := rfl
def IsT (v : Value) : Prop := ∃ a, v = .tuple a
theorem kid_mkT {v : Value} {rows : Kids} (h : ∀ i o u, kidAt rows i o = some u → IsT u) (i o : Nat) : kid (mkT v rows) i o = kidAt rows i o := by
  have h' := h i o
  unfold kid mkT rowsV kidAt at *
  simp only [List.getElem?_toArray, List.getElem?_cons_succ, List.getElem?_cons_zero, List.getElem?_map]
  cases hr : rows[i]? with
  | none => rfl
  | some r =>
    rw [hr] at h'
    simp only [Option.map_some, List.getElem?_toArray, List.getElem?_map]
    cases hu : r[o]? with
    | none => simp [hu]
    | some u =>
      simp only [Option.bind_some, hu, id] at h'
      cases u with
      | none => simp [hu]
      | some u =>
        obtain ⟨a, rfl⟩ := h' u rfl
        simp [hu]
def CellT (w : World) (d : D) (v : Value) (u : Option Value) : Prop :=
  match d with
  | .sl es => ∃ T, u = some T ∧ IsT T ∧ hdr T = some v ∧ ExT w es T
  | d => u = none ∧ SD d v
theorem rows_lab {z : Nat} : ∀ {rs : List (List D)} {n : Nat}, (∀ r ∈ labRs rs n, r.length = z) → ∀ r ∈ rs, r.length = z
  | [], _, _, r, h => by cases h
  | a :: rs, n, ha, r, h => by
    rw [labRs] at ha
    rcases List.mem_cons.1 h with e | h
    · subst e; rw [← labR_length r n]; exact ha _ (by simp)
    · exact rows_lab (n := n + cntR a) (fun r hr => ha r (by simp [hr])) r h
structure RowT (w : World) (σ : Nat → Nat) (r : List D) (n m : Nat) (vals : Nat → Value) (us : List (Option Value)) : Prop where
  len : us.length = r.length
  cell : ∀ (j : Nat) (d : D), r[j]? = some d → ∃ u, us[j]? = some u ∧ CellT w d (vals j) u
  own : ∀ (j : Nat) (u : Value), us[j]? = some (some u) → ∀ b, Owns u b → Sealed w σ n m b
  apart : ∀ (j j' : Nat) (u u' : Value) (b : Nat), j ≠ j' → us[j]? = some (some u) → us[j']? = some (some u') → Owns u b → Owns u' b → False
structure RowsT (w : World) (σ : Nat → Nat) (z : Nat) (rs : List (List D)) (n m : Nat) (vals : Nat → Value) (U : Kids) : Prop where
  cell : ∀ (i o : Nat) (d : D), cellAt rs i o = some d → ∃ u, ((U[i]?).bind fun r => r[o]?) = some u ∧ CellT w d (vals (i * z + o)) u
  kid : ∀ (i o : Nat) (u : Value), kidAt U i o = some u → ∃ es, cellAt rs i o = some (.sl es)
  own : ∀ (i o : Nat) (u : Value), kidAt U i o = some u → ∀ b, Owns u b → Sealed w σ n m b
  apart : ∀ (i o i' o' : Nat) (u u' : Value) (b : Nat), (i, o) ≠ (i', o') → kidAt U i o = some u → kidAt U i' o' = some u' → Owns u b → Owns u' b → False
theorem kidAt_zero {us : List (Option Value)} {U : Kids} {o : Nat} {u : Value} : kidAt (us :: U) 0 o = some u ↔ us[o]? = some (some u) := by
  show (us[o]?).bind id = some u ↔ _
  cases us[o]? with
  | none => simp
  | some x => simp
mutual
theorem lab_D : ∀ (d : D) (n : Nat) (v : Value), plD d = true → RepD w σ (labD d n) v → ∃ u, CellT w d v u ∧ ∀ T, u = some T → ∀ b, Owns T b → Sealed w σ n (n + cntD d) b
  | .sl es, n, v, hp, h => by
    rw [labD] at h
    have hl := labRs_length es (n + 1)
    have hrec := lab_Rs es (n + 1)
    have hrow := fun z => rows_lab (z := z) (rs := es) (n := n + 1)
    generalize labRs es (n + 1) = q at h hl hrec hrow
    have hempty : ∀ a cap, es = [] → v = .slice a 0 cap → ∃ u, CellT w (.sl es) v u ∧ ∀ T, u = some T → ∀ b, Owns T b → Sealed w σ n (n + cntD (.sl es)) b := by
      rintro a cap rfl rfl
      have hk : ∀ i o, kid (mkT (.slice a 0 cap) []) i o = none := fun i o => by rw [kid_mkT (fun i o u h => by simp [kidAt] at h)]; simp [kidAt]
      refine ⟨some (mkT (.slice a 0 cap) []), ⟨_, rfl, ⟨_, rfl⟩, rfl, .nil a cap _ rfl hk⟩, fun T hT b hb => ?_⟩
      cases hT
      exfalso
      cases hb with
      | here h1 h2 => rw [hdr_mkT] at h1; cases h1; omega
      | kid h1 h2 => rw [hk] at h1; cases h1
    cases h with
    | onil n a cap => exact hempty a cap (List.eq_nil_of_length_eq_zero (by simpa using hl.symm)) rfl
    | ol n b off cap z q vals c t hcap hlen hb hσ hfit hc hv =>
      by_cases hne : es = []
      · subst hne
        have hq0 : q.length = 0 := by simpa using hl
        exact hempty _ _ rfl (by rw [hq0])
      rw [hl] at hcap hfit hc ⊢
      obtain ⟨U, hU⟩ := hrec z vals (hrow z hlen) (by simpa [plD] using hp) hv
      have hrl := hrow z hlen
      have hT : ∀ i o u, kidAt U i o = some u → IsT u := fun i o u hu => by
        obtain ⟨es', he⟩ := hU.kid i o u hu
        obtain ⟨u', h1, h2⟩ := hU.cell i o _ he
        obtain ⟨T, h3, h4, _⟩ := h2
        unfold kidAt at hu
        rw [h1, h3] at hu
        cases hu; exact h4
      have hkid : ∀ i o, kid (mkT (.slice (some ⟨b, off, none⟩) es.length cap) U) i o = kidAt U i o := kid_mkT hT
      have hcell : ∀ i o es', cellAt es i o = some (.sl es') → ∃ T, kidAt U i o = some T ∧ hdr T = some (vals (i * z + o)) ∧ ExT w es' T := fun i o es' he => by
        obtain ⟨u', h1, T, h3, h4, h5, h6⟩ := hU.cell i o _ he
        refine ⟨T, ?_, h5, h6⟩
        unfold kidAt
        rw [h1, h3]; rfl
      have hself : ∀ x, Sealed w σ (n + 1) (n + 1 + cntRs es) x → x ≠ b := by
        rintro x ⟨c', t', fz', m, a1, a2, a3, a4⟩ rfl
        rw [hb] at a1; cases a1
        omega
      refine ⟨some (mkT (.slice (some ⟨b, off, none⟩) es.length cap) U), ⟨_, rfl, ⟨_, rfl⟩, rfl, ?_⟩, fun T hT' x hx => ?_⟩
      · refine .mk b off cap z es _ c t (fun i o => vals (i * z + o)) (fun i o => (kidAt U i o).getD undef) rfl hne hcap hrl hb hfit (fun i o d hd => ?_) (fun i o d hd => ?_) (fun i o es' he => ?_) (fun i o es' he => ?_) (fun i o u hu hb' => ?_) (fun i o i' o' u u' x hio hu hu' h1 h2 => ?_) (fun i o u hu => ?_)
        · obtain ⟨hi, ho⟩ := cell_row hd
          rw [hrl _ (List.getElem_mem hi)] at ho
          refine hc _ ?_
          have : (i + 1) * z ≤ es.length * z := Nat.mul_le_mul_right _ hi
          rw [Nat.add_mul, Nat.one_mul] at this
          omega
        · obtain ⟨u, h1, h2⟩ := hU.cell i o d hd
          cases d <;> first | exact .inl ⟨_, rfl⟩ | exact .inr h2.2
        · obtain ⟨T, h1, h2, h3⟩ := hcell i o es' he
          rw [hkid, h1]
          exact ⟨rfl, h2⟩
        · obtain ⟨T, h1, h2, h3⟩ := hcell i o es' he
          rw [h1]; exact h3
        · rw [hkid] at hu
          exact hself b (hU.own i o u hu b hb') rfl
        · rw [hkid] at hu hu'
          exact hU.apart i o i' o' u u' x hio hu hu' h1 h2
        · rw [hkid] at hu
          exact hU.kid i o u hu
      · cases hT'
        cases hx with
        | here h1 h2 => rw [hdr_mkT] at h1; cases h1; exact ⟨c, t, (0, 0), n, hb, hσ, Nat.le_refl _, by rw [cntD]; omega⟩
        | kid h1 h2 =>
          rw [hkid] at h1
          exact (hU.own _ _ _ h1 _ h2).mono (by omega) (by rw [cntD]; omega)
  | .ol m es, n, v, hp, h => by simp [plD] at hp
  | .b x, n, v, hp, h => by rw [labD] at h; cases h; exact ⟨none, ⟨rfl, rfl⟩, fun T h => by cases h⟩
  | .i k x, n, v, hp, h => by rw [labD] at h; cases h; exact ⟨none, ⟨rfl, rfl⟩, fun T h => by cases h⟩
  | .s l, n, v, hp, h => by rw [labD] at h; cases h; exact ⟨none, ⟨rfl, rfl⟩, fun T h => by cases h⟩
  | .o u, n, v, hp, h => by simp [plD] at hp
theorem lab_R : ∀ (r : List D) (n : Nat) (vals : Nat → Value), plR r = true → (∀ (j : Nat) (d : D), (labR r n)[j]? = some d → RepD w σ d (vals j)) → ∃ us, RowT w σ r n (n + cntR r) vals us
  | [], n, vals, hp, h => ⟨[], rfl, fun j d h => by simp at h, fun j u h => by simp at h, fun j j' u u' b _ h => by simp at h⟩
  | d :: r, n, vals, hp, h => by
    rw [plR, Bool.and_eq_true] at hp
    rw [labR] at h
    obtain ⟨u, h1, h2⟩ := lab_D d n (vals 0) hp.1 (h 0 _ rfl)
    obtain ⟨us, hus⟩ := lab_R r (n + cntD d) (fun j => vals (j + 1)) hp.2 fun j x hx => h (j + 1) x hx
    rw [cntR]
    have hown : ∀ (j : Nat) (T : Value), us[j]? = some (some T) → ∀ b, Owns T b → Sealed w σ (n + cntD d) (n + cntD d + cntR r) b := hus.own
    refine ⟨u :: us, by rw [List.length_cons, List.length_cons, hus.len], fun j x hx => ?_, fun j T hT b hb => ?_, fun j j' T T' b hj hT hT' hb hb' => ?_⟩
    · cases j with
      | zero => simp at hx; subst hx; exact ⟨u, rfl, h1⟩
      | succ j => exact hus.cell j x hx
    · cases j with
      | zero => simp at hT; exact (h2 T hT b hb).mono (Nat.le_refl _) (by omega)
      | succ j => exact (hown j T hT b hb).mono (by omega) (by omega)
    · cases j with
      | zero =>
        cases j' with
        | zero => exact hj rfl
        | succ j' => simp at hT; exact (h2 T hT b hb).apart (hown j' T' hT' b hb') (Nat.le_refl _)
      | succ j =>
        cases j' with
        | zero => simp at hT'; exact (h2 T' hT' b hb').apart (hown j T hT b hb) (Nat.le_refl _)
        | succ j' => exact hus.apart j j' T T' b (by omega) hT hT' hb hb'
theorem lab_Rs : ∀ (rs : List (List D)) (n z : Nat) (vals : Nat → Value), (∀ r ∈ rs, r.length = z) → plRs rs = true → (∀ (j : Nat) (d : D), (labRs rs n).flatten[j]? = some d → RepD w σ d (vals j)) → ∃ U, RowsT w σ z rs n (n + cntRs rs) vals U
  | [], n, z, vals, hz, hp, h => ⟨[], fun i o d h => by simp [cellAt] at h, fun i o u h => by simp [kidAt] at h, fun i o u h => by simp [kidAt] at h, fun i o i' o' u u' b _ h => by simp [kidAt] at h⟩
  | r :: rs, n, z, vals, hz, hp, h => by
    rw [plRs, Bool.and_eq_true] at hp
    rw [labRs, List.flatten_cons] at h
    have hrz : r.length = z := hz r (by simp)
    obtain ⟨us, hus⟩ := lab_R r n vals hp.1 fun j d hd => h j d (by rw [List.getElem?_append_left (List.getElem?_eq_some_iff.1 hd).1]; exact hd)
    obtain ⟨U, hU⟩ := lab_Rs rs (n + cntR r) z (fun j => vals (z + j)) (fun r hr => hz r (by simp [hr])) hp.2 fun j d hd => h (z + j) d (by
      rw [List.getElem?_append_right (by rw [labR_length]; omega), labR_length, hrz, Nat.add_sub_cancel_left]; exact hd)
    rw [cntRs]
    have hown : ∀ (i o : Nat) (T : Value), kidAt U i o = some T → ∀ b, Owns T b → Sealed w σ (n + cntR r) (n + cntR r + cntRs rs) b := hU.own
    refine ⟨us :: U, fun i o d hd => ?_, fun i o u hu => ?_, fun i o T hT b hb => ?_, fun i o i' o' T T' b hio hT hT' hb hb' => ?_⟩
    · cases i with
      | zero =>
        obtain ⟨u, h1, h2⟩ := hus.cell o d hd
        exact ⟨u, h1, by rw [Nat.zero_mul, Nat.zero_add]; exact h2⟩
      | succ i =>
        obtain ⟨u, h1, h2⟩ := hU.cell i o d hd
        exact ⟨u, h1, by rw [show (i + 1) * z + o = z + (i * z + o) by rw [Nat.add_mul]; omega]; exact h2⟩
    · cases i with
      | zero =>
        rw [kidAt_zero] at hu
        have ho : o < r.length := by rw [← hus.len]; exact (List.getElem?_eq_some_iff.1 hu).1
        obtain ⟨u', h1, h2⟩ := hus.cell o r[o] (List.getElem?_eq_getElem ho)
        rw [hu] at h1; cases h1
        have hc : cellAt (r :: rs) 0 o = some r[o] := List.getElem?_eq_getElem ho
        rw [hc]
        generalize r[o] = d at h2
        cases d <;> first | exact ⟨_, rfl⟩ | (cases h2.1)
      | succ i => exact hU.kid i o u hu
    · cases i with
      | zero => rw [kidAt_zero] at hT; exact (hus.own o T hT b hb).mono (Nat.le_refl _) (by omega)
      | succ i => exact (hown i o T hT b hb).mono (by omega) (by omega)
    · cases i with
      | zero =>
        rw [kidAt_zero] at hT
        cases i' with
        | zero => rw [kidAt_zero] at hT'; exact hus.apart o o' T T' b (fun e => hio (by rw [e])) hT hT' hb hb'
        | succ i' => exact (hus.own o T hT b hb).apart (hown i' o' T' hT' b hb') (Nat.le_refl _)
      | succ i =>
        cases i' with
        | zero => rw [kidAt_zero] at hT'; exact (hus.own o' T' hT' b hb').apart (hown i o T hT b hb) (Nat.le_refl _)
        | succ i' => exact hU.apart i o i' o' T T' b (fun e => hio (by cases e; rfl)) hT hT' hb hb'
end
end
end Go.Ab

