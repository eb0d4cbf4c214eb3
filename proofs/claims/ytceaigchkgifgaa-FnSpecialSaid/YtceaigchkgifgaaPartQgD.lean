/-
  SEVERAL TEXTS IN ONE (merged by program): contracts and models, each with its own heading.
-/
import Derived.Test.YtceaigchkgifgaaPartQgC
set_option linter.unusedSimpArgs false
set_option linter.unusedVariables false
set_option maxRecDepth 4000
namespace Go.Ab
mutual
def subT (σ : List UInt8 → MType) : MType → MType
  | .mk k n a => if k = 1 then σ n else .mk k n (subL σ a)
def subL (σ : List UInt8 → MType) : List MType → List MType
  | [] => []
  | t :: ts => subT σ t :: subL σ ts
end
theorem subL_len (σ : List UInt8 → MType) : ∀ ts, (subL σ ts).length = ts.length
  | [] => rfl
  | t :: ts => by rw [subL, List.length_cons, subL_len σ ts, List.length_cons]
mutual
theorem subT_sub (σ τ : List UInt8 → MType) : ∀ t, subT τ (subT σ t) = subT (fun n => subT τ (σ n)) t
  | .mk k n a => by
    rw [subT, subT]
    by_cases h : k = 1
    · rw [if_pos h, if_pos h]
    · rw [if_neg h, if_neg h, subT, if_neg h, subL_sub σ τ a]
theorem subL_sub (σ τ : List UInt8 → MType) : ∀ ts, subL τ (subL σ ts) = subL (fun n => subT τ (σ n)) ts
  | [] => rfl
  | t :: ts => by rw [subL, subL, subL, subT_sub σ τ t, subL_sub σ τ ts]
end
def Agree (s : List MBinding) (σ : List UInt8 → MType) : Prop := ∀ v u, lookupB s v = some u → σ v = u
theorem lookup_append (b : MBinding) (v : List UInt8) : ∀ s : List MBinding, lookupB (s ++ [b]) v = match lookupB s v with | some u => some u | none => if b.fVar = v then some b.fType else none
  | [] => by
    show lookupB [b] v = if b.fVar = v then some b.fType else none
    rw [lookupB]
    rfl
  | c :: s => by
    rw [List.cons_append, lookupB, lookupB]
    by_cases h : c.fVar = v
    · rw [if_pos h, if_pos h]
    · rw [if_neg h, if_neg h, lookup_append b v s]
mutual
theorem match_sound : ∀ (p : MType) (s : List MBinding) (t : MType) (s' : List MBinding), matchT s p t = some s' → (∀ v u, lookupB s v = some u → lookupB s' v = some u) ∧ ∀ σ, Agree s' σ → subT σ p = t
  | .mk k n a, s, t, s', h => by
    rw [matchT] at h
    split at h
    · rename_i hk
      cases hl : lookupB s n with
      | some u =>
        rw [hl] at h
        simp only at h
        by_cases hd : dec (u = t) = true
        · rw [if_pos hd] at h
          cases h
          refine ⟨fun v u h => h, fun σ ha => ?_⟩
          rw [subT, if_pos hk, ha n u hl]
          exact of_dec hd
        · rw [if_neg hd] at h; cases h
      | none =>
        rw [hl] at h
        simp only at h
        cases h
        refine ⟨fun v u h => by rw [lookup_append, h], fun σ ha => ?_⟩
        rw [subT, if_pos hk]
        exact ha n t (by rw [lookup_append, hl]; simp)
    · rename_i hk
      split at h
      · rename_i hc
        obtain ⟨h1, h2⟩ := matchL_sound a s t.fArgs s' h hc.2.2
        refine ⟨h1, fun σ ha => ?_⟩
        rw [subT, if_neg hk, h2 σ ha, hc.1, hc.2.1]
        exact MType.eta t
      · cases h
theorem matchL_sound : ∀ (ps : List MType) (s : List MBinding) (ts : List MType) (s' : List MBinding), matchL s ps ts = some s' → ps.length = ts.length → (∀ v u, lookupB s v = some u → lookupB s' v = some u) ∧ ∀ σ, Agree s' σ → subL σ ps = ts
  | [], s, ts, s', h, hl => by
    rw [matchL] at h; cases h
    refine ⟨fun v u h => h, fun σ ha => ?_⟩
    cases ts with
    | nil => rfl
    | cons t ts => simp at hl
  | p :: ps, s, [], s', h, hl => by rw [matchL] at h; cases h
  | p :: ps, s, t :: ts, s', h, hl => by
    rw [matchL] at h
    cases hm : matchT s p t with
    | none => rw [hm] at h; cases h
    | some s1 =>
      rw [hm] at h
      obtain ⟨a1, a2⟩ := match_sound p s t s1 hm
      obtain ⟨b1, b2⟩ := matchL_sound ps s1 ts s' h (by simpa using hl)
      refine ⟨fun v u h => b1 v u (a1 v u h), fun σ ha => ?_⟩
      rw [subL, a2 σ (fun v u h => ha v u (b1 v u h)), b2 σ ha]
end
mutual
theorem match_complete (σ : List UInt8 → MType) : ∀ (p : MType) (s : List MBinding), Agree s σ → ∃ s', matchT s p (subT σ p) = some s' ∧ Agree s' σ
  | .mk k n a, s, ha => by
    rw [subT]
    by_cases hk : k = 1
    · rw [if_pos hk, matchT, if_pos hk]
      cases hl : lookupB s n with
      | some u =>
        have e := ha n u hl
        simp only
        rw [if_pos (dec_true e.symm)]
        exact ⟨s, rfl, ha⟩
      | none =>
        refine ⟨_, rfl, fun v u h => ?_⟩
        rw [lookup_append] at h
        cases hv : lookupB s v with
        | some u' => rw [hv] at h; cases h; exact ha v _ hv
        | none =>
          rw [hv] at h
          simp only at h
          split at h
          · rename_i e; cases h; rw [← e]
          · cases h
    · rw [if_neg hk, matchT, if_neg hk]
      rw [if_pos ⟨rfl, rfl, (subL_len σ a).symm⟩]
      exact matchL_complete σ a s ha
theorem matchL_complete (σ : List UInt8 → MType) : ∀ (ps : List MType) (s : List MBinding), Agree s σ → ∃ s', matchL s ps (subL σ ps) = some s' ∧ Agree s' σ
  | [], s, ha => ⟨s, by rw [subL, matchL], ha⟩
  | p :: ps, s, ha => by
    obtain ⟨s1, h1, a1⟩ := match_complete σ p s ha
    obtain ⟨s2, h2, a2⟩ := matchL_complete σ ps s1 a1
    exact ⟨s2, by rw [subL, matchL, h1]; exact h2, a2⟩
end
theorem mats_iff (p t : MType) : mats p t = true ↔ ∃ σ, subT σ p = t := by
  unfold mats matchAll
  rw [if_pos (by simp)]
  constructor
  · intro h
    cases hm : matchL [] [p] [t] with
    | none => rw [hm] at h; cases h
    | some s =>
      obtain ⟨_, h2⟩ := matchL_sound _ _ _ _ hm (by simp)
      have := h2 (fun v => (lookupB s v).getD t) (fun v u hv => by simp only [hv]; rfl)
      rw [subL, subL] at this
      exact ⟨_, by injection this⟩
  · rintro ⟨σ, rfl⟩
    obtain ⟨s, h, _⟩ := matchL_complete σ [p] [] (fun v u h => by cases h)
    rw [subL, subL] at h
    rw [h]; rfl
theorem mats_trans {a b c : MType} (h1 : mats b a = true) (h2 : mats a c = true) : mats b c = true := by
  obtain ⟨σ, rfl⟩ := (mats_iff _ _).1 h1
  obtain ⟨τ, rfl⟩ := (mats_iff _ _).1 h2
  exact (mats_iff _ _).2 ⟨fun n => subT τ (σ n), (subT_sub σ τ b).symm⟩
end Go.Ab

namespace Go.Ab
theorem list_bytes {es : List (List D)} (h : ∀ y ∈ es, ∃ x, y = [.i .u8 x] ∧ (Lit.int .u8 x).wf = true) : ∃ xs : List Int, es = xs.map encB ∧ ∀ x ∈ xs, 0 ≤ x ∧ x ≤ 255 := by
  induction es with
  | nil => exact ⟨[], rfl, fun x h => by cases h⟩
  | cons y es ih =>
    obtain ⟨x, rfl, hx⟩ := h y List.mem_cons_self
    obtain ⟨xs, rfl, hxs⟩ := ih fun z hz => h z (List.mem_cons_of_mem _ hz)
    refine ⟨x :: xs, rfl, fun z hz => ?_⟩
    rcases List.mem_cons.1 hz with rfl | hz
    · have h1 : IntKind.u8.min = 0 := by decide
      have h2 : IntKind.u8.max = 255 := by decide
      simp only [Lit.wf, Bool.and_eq_true, decide_eq_true_eq, h1, h2] at hx
      exact hx
    · exact hxs z hz
end Go.Ab
namespace Go.Proofs.Ytceaigchkgifgaa
open Go Go.Ab
theorem big_ok (bs : List Int) : PCall Try.prog 6 [.c (.d (.sl (bs.map encB)))] (.c (.d (.b (decide (1048576 < (bs.length : Int)))))) := fun S => by
  refine acall_cw (rs := [.tmp 2]) Try.checked.mixed Try.func6 Try.ntmps6 rfl rfl rfl rfl rfl ?_
  simp -implicitDefEqProofs (disch := omega) only [go_sem]
theorem tail_ok (bs : List Int) : PCall Try.prog 8 [.c (.d (.sl (bs.map encB)))] (.c (.d (.sl (bs.tail.map encB)))) := fun S => by
  refine acall_cw (rs := [.tmp 2]) Try.checked.mixed Try.func8 Try.ntmps8 rfl rfl rfl rfl rfl ?_
  cases bs with
  | nil =>
    have d0 : decide (((0 : Nat) : Int) = 0) = true := rfl
    simp -implicitDefEqProofs (disch := omega) only [go_sem, d0]
    rfl
  | cons b r =>
    have d0 : decide (((r.length + 1 : Nat) : Int) = 0) = false := decide_eq_false (by omega)
    simp -implicitDefEqProofs (disch := omega) only [go_sem, d0]
    have h1 : ∀ y ∈ encB b :: r.map encB, y.length = 1 := by
      intro y hy
      rcases List.mem_cons.1 hy with rfl | hy
      · rfl
      · obtain ⟨z, _, rfl⟩ := List.mem_map.1 hy
        rfl
    refine ⟨⟨by omega, by omega, h1⟩, ?_⟩
    rw [List.take_of_length_le (by simp)]
    rfl
end Go.Proofs.Ytceaigchkgifgaa
namespace Go.Proofs.Ytceaigchkgifgaa.fnSpecial
open Go Go.Ab
theorem law (x0 : List Int) (b0 : ∀ x ∈ x0, 0 ≤ x ∧ x ≤ 255) : ACall Try.prog 3 [.c (.d (.sl (x0.map encB)))] [] (fun r _ => r = .c (.d (.b true))) := by
  refine acall_cwm (rs := [.tmp 2]) Try.checked.mixed Try.func3 Try.ntmps3 rfl rfl rfl rfl rfl ?_
  simp -implicitDefEqProofs (disch := omega) only [go_sem]
  refine call_w (big_ok x0) ?_
  simp -implicitDefEqProofs (disch := omega) only [go_sem]
  with_reducible refine split2 (fun hb => ?_) (fun hb => ?_) <;> have h := hb <;> (try simp only [wf_preprocess] at h) <;> simp -implicitDefEqProofs (disch := omega) only [go_sem, hb] <;> (repeat (with_reducible refine And.intro ?_ ?_; focus first | omega | rfl | assumption | exact ⟨_, rfl, rfl⟩ | (simp; omega) | (simp; done)))
  have hB : Bytes x0 := ⟨by omega, b0⟩
  refine call_w (drawLeast_ok hB) ?_
  simp -implicitDefEqProofs (disch := omega) only [go_sem]
  refine call_w (tail_ok x0) ?_
  simp -implicitDefEqProofs (disch := omega) only [go_sem]
  refine call_w (drawLeast_ok hB.tail) ?_
  simp -implicitDefEqProofs (disch := omega) only [go_sem]
  generalize ha : (twoD x0).2 = a at *
  generalize hb : (twoD x0).1 = b at *
  generalize hd : (twoD x0.tail).2 = d at *
  have sa : a.sz ≤ 4194303 := ha ▸ (twoD_sz x0).2
  have sb : b.sz ≤ 4194303 := hb ▸ (twoD_sz x0).1
  have sd : d.sz ≤ 4194303 := hd ▸ (twoD_sz x0.tail).2
  cases h1 : mats b a <;> cases h2 : mats a b
  · refine call_w (implAtLeast_ok a b sa sb) ?_
    simp -implicitDefEqProofs (disch := omega) only [go_sem, h1]
    refine call_w (specAtLeast_ok a b sa sb) ?_
    simp -implicitDefEqProofs (disch := omega) only [go_sem, h1]
    refine call_w (implMore_ok a b sa sb) ?_
    simp -implicitDefEqProofs (disch := omega) only [go_sem, h1, h2, Bool.and_self, Bool.and_false, Bool.and_true]
    refine call_w (specMore_ok a b sa sb) ?_
    simp -implicitDefEqProofs (disch := omega) only [go_sem, h1, h2, Bool.and_self, Bool.and_false, Bool.and_true]
    refine call_w (implMore_ok a b sa sb) ?_
    simp -implicitDefEqProofs (disch := omega) only [go_sem, h1, h2, Bool.and_self, Bool.and_false, Bool.and_true]
    refine ⟨by rfl, ?_⟩
    simp -implicitDefEqProofs (disch := omega) only [go_sem]
    refine call_w (implAtLeast_ok d a sd sa) ?_
    cases h3 : mats a d
    · simp -implicitDefEqProofs (disch := omega) only [go_sem, h3]
    · simp -implicitDefEqProofs (disch := omega) only [go_sem, h3]
      refine call_w (implAtLeast_ok a b sa sb) ?_
      simp -implicitDefEqProofs (disch := omega) only [go_sem, h1]
  · refine call_w (implAtLeast_ok a b sa sb) ?_
    simp -implicitDefEqProofs (disch := omega) only [go_sem, h1]
    refine call_w (specAtLeast_ok a b sa sb) ?_
    simp -implicitDefEqProofs (disch := omega) only [go_sem, h1]
    refine call_w (implMore_ok a b sa sb) ?_
    simp -implicitDefEqProofs (disch := omega) only [go_sem, h1, h2, Bool.and_self, Bool.and_false, Bool.and_true]
    refine call_w (specMore_ok a b sa sb) ?_
    simp -implicitDefEqProofs (disch := omega) only [go_sem, h1, h2, Bool.and_self, Bool.and_false, Bool.and_true]
    refine call_w (implMore_ok a b sa sb) ?_
    simp -implicitDefEqProofs (disch := omega) only [go_sem, h1, h2, Bool.and_self, Bool.and_false, Bool.and_true]
    refine ⟨by rfl, ?_⟩
    simp -implicitDefEqProofs (disch := omega) only [go_sem]
    refine call_w (implAtLeast_ok d a sd sa) ?_
    cases h3 : mats a d
    · simp -implicitDefEqProofs (disch := omega) only [go_sem, h3]
    · simp -implicitDefEqProofs (disch := omega) only [go_sem, h3]
      refine call_w (implAtLeast_ok a b sa sb) ?_
      simp -implicitDefEqProofs (disch := omega) only [go_sem, h1]
  · refine call_w (implAtLeast_ok a b sa sb) ?_
    simp -implicitDefEqProofs (disch := omega) only [go_sem, h1]
    refine call_w (specAtLeast_ok a b sa sb) ?_
    simp -implicitDefEqProofs (disch := omega) only [go_sem, h1]
    refine call_w (implMore_ok a b sa sb) ?_
    simp -implicitDefEqProofs (disch := omega) only [go_sem, h1, h2, Bool.and_self, Bool.and_false, Bool.and_true]
    refine call_w (specMore_ok a b sa sb) ?_
    simp -implicitDefEqProofs (disch := omega) only [go_sem, h1, h2, Bool.and_self, Bool.and_false, Bool.and_true]
    refine call_w (implMore_ok a b sa sb) ?_
    simp -implicitDefEqProofs (disch := omega) only [go_sem, h1, h2, Bool.and_self, Bool.and_false, Bool.and_true]
    refine call_w (implMore_ok b a sb sa) ?_
    simp -implicitDefEqProofs (disch := omega) only [go_sem, h1, h2, Bool.and_self, Bool.and_false, Bool.and_true]
    refine ⟨by rfl, ?_⟩
    simp -implicitDefEqProofs (disch := omega) only [go_sem]
    refine call_w (implAtLeast_ok d a sd sa) ?_
    cases h3 : mats a d
    · simp -implicitDefEqProofs (disch := omega) only [go_sem, h3]
    · simp -implicitDefEqProofs (disch := omega) only [go_sem, h3]
      refine call_w (implAtLeast_ok a b sa sb) ?_
      simp -implicitDefEqProofs (disch := omega) only [go_sem, h1]
      refine call_w (implAtLeast_ok d b sd sb) ?_
      have h4 := mats_trans h1 h3
      simp -implicitDefEqProofs (disch := omega) only [go_sem, h4]
  · refine call_w (implAtLeast_ok a b sa sb) ?_
    simp -implicitDefEqProofs (disch := omega) only [go_sem, h1]
    refine call_w (specAtLeast_ok a b sa sb) ?_
    simp -implicitDefEqProofs (disch := omega) only [go_sem, h1]
    refine call_w (implMore_ok a b sa sb) ?_
    simp -implicitDefEqProofs (disch := omega) only [go_sem, h1, h2, Bool.and_self, Bool.and_false, Bool.and_true]
    refine call_w (specMore_ok a b sa sb) ?_
    simp -implicitDefEqProofs (disch := omega) only [go_sem, h1, h2, Bool.and_self, Bool.and_false, Bool.and_true]
    refine call_w (implMore_ok a b sa sb) ?_
    simp -implicitDefEqProofs (disch := omega) only [go_sem, h1, h2, Bool.and_self, Bool.and_false, Bool.and_true]
    refine ⟨by rfl, ?_⟩
    simp -implicitDefEqProofs (disch := omega) only [go_sem]
    refine call_w (implAtLeast_ok d a sd sa) ?_
    cases h3 : mats a d
    · simp -implicitDefEqProofs (disch := omega) only [go_sem, h3]
    · simp -implicitDefEqProofs (disch := omega) only [go_sem, h3]
      refine call_w (implAtLeast_ok a b sa sb) ?_
      simp -implicitDefEqProofs (disch := omega) only [go_sem, h1]
      refine call_w (implAtLeast_ok d b sd sb) ?_
      have h4 := mats_trans h1 h3
      simp -implicitDefEqProofs (disch := omega) only [go_sem, h4]
end Go.Proofs.Ytceaigchkgifgaa.fnSpecial

namespace Go.Ab
theorem wt_pos {P : Program} {n : Nat} {t : TypeId} {ds : List D} (h : WT P n t ds) : ∃ m, n = m + 1 := by
  cases n with
  | zero => exact h.elim
  | succ m => exact ⟨m, rfl⟩
theorem wt_int {P : Program} {n : Nat} {t : TypeId} {k : IntKind} {ds : List D} (ht : P.underlying t = some (.int k)) (h : WT P n t ds) : ∃ x, ds = [.i k x] ∧ (Lit.int k x).wf = true := by
  obtain ⟨m, rfl⟩ := wt_pos h
  simp only [WT, ht] at h; exact h
theorem wt_slice {P : Program} {n : Nat} {t e : TypeId} {ds : List D} (ht : P.underlying t = some (.slice e)) (h : WT P n t ds) : ∃ es m, m < n ∧ ds = [.sl es] ∧ ∀ x ∈ es, WT P m e x := by
  obtain ⟨m, rfl⟩ := wt_pos h
  simp only [WT, ht] at h
  obtain ⟨es, h1, _, h2⟩ := h
  exact ⟨es, m, by omega, h1, fun x hx => (h2 x hx).2⟩
theorem wtf_fit {P : Program} {W : TypeId → List D → Prop} (hW : ∀ t ds, W t ds → FitL ds) : ∀ (fs : List Field) (ds : List D), WTF P W fs ds → FitL ds
  | [], ds, h => by
    have h : ds = [] := h
    rw [h]; exact fitL_nil
  | f :: fs, ds, h => by
    obtain ⟨a, b, rfl, _, h1, h2⟩ := h
    exact fitL_append.2 ⟨hW _ _ h1, wtf_fit hW fs b h2⟩
theorem wt_fit {P : Program} : ∀ (n : Nat) (t : TypeId) (ds : List D), WT P n t ds → FitL ds
  | 0, t, ds, h => h.elim
  | n + 1, t, ds, h => by
    simp only [WT] at h
    split at h
    · obtain ⟨b, rfl⟩ := h; exact fitL_cons.2 ⟨.b _, fitL_nil⟩
    · obtain ⟨b, rfl, _⟩ := h; exact fitL_cons.2 ⟨.i _ _, fitL_nil⟩
    · obtain ⟨l, rfl, hl⟩ := h; exact fitL_cons.2 ⟨.s _ hl, fitL_nil⟩
    · obtain ⟨es, rfl, hl, hh⟩ := h
      exact fitL_cons.2 ⟨.sl _ hl fun e he d hd => wt_fit n _ e (hh e he).2 d hd, fitL_nil⟩
    · exact wtf_fit (wt_fit n) _ _ h
    · exact h.elim
end Go.Ab
namespace Go.Proofs.Ytceaigchkgifgaa
open Go Go.Ab
end Go.Proofs.Ytceaigchkgifgaa

