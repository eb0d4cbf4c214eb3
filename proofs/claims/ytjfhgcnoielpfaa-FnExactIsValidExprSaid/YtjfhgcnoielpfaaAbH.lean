/-
  ABSTRACT VALUES FOR A WALK, PART 8: every quiet operation in one theorem.
-/
import Derived.Test.YtjfhgcnoielpfaaAbG
set_option linter.unusedSimpArgs false
set_option linter.unusedVariables false
namespace Go.Ab

section
variable {P : Program} {w : World} {σ : Nat → Nat} {S : Store} {β : Hs} {tm : List (Nat × V)} {a : Act}

theorem amap {α γ : Type} (f : α → γ) (xs : Array α) : xs.map f = (xs.toList.map f).toArray := by apply Array.ext'; simp

theorem does_exec {m : Sem Value} {r : R} {e : Sem Next} (he : e = (do pure (.value (← m)))) (h : Does P m w σ S β r) (hr : r.1) :
    ∃ v w' σ', e.run P w = .ok (.value v) w' ∧ Grow w σ w' σ' ∧ RepV w' σ' S β r.2 v := by
  obtain ⟨v, w', σ', hrun, hg, hv⟩ := h hr
  exact ⟨v, w', σ', by rw [he]; simp [hrun], hg, hv⟩

theorem rep_opt (hT : RepT w σ S β tm a) (x : Option Operand) : RepO w σ S β (x.map (ev tm)) (x.map a.eval) := by
  cases x with
  | none => trivial
  | some x => exact rep_ev hT x

theorem nval_sound (o : Oper) (hS : RepS w σ S β) (hT : RepT w σ S β tm a) (h : (nval P S tm o.op).1) :
    ∃ v w' σ', (execOp a.eval o).run P w = .ok (.value v) w' ∧ Grow w σ w' σ' ∧ RepV w' σ' S β (nval P S tm o.op).2 v := by
  have hev := fun x => rep_ev hT x
  obtain ⟨dst, op, ty, pos, after, guard⟩ := o
  simp only at h ⊢
  unfold nval at h ⊢
  split at h <;> try (simp only [] at h ⊢)
  · exact ⟨_, w, σ, rfl, .refl hS.live, hev _⟩
  · exact ⟨_, w, σ, rfl, .refl hS.live, hev _⟩
  · rename_i c x y
    unfold pickV at h ⊢
    split at h
    · rename_i b hb
      have hc := hev c
      rw [hb] at hc
      obtain ⟨hc1, _⟩ := hc
      cases hc' : a.eval c <;> rw [hc'] at hc1 <;> cases hc1
      refine ⟨if b then a.eval x else a.eval y, w, σ, ?_, .refl hS.live, ?_⟩
      · simp [execOp, hc', asBool]
      · cases b
        · exact hev y
        · exact hev x
    · exact h.elim
  · exact does_exec rfl (does_load hS (hev _)) h
  · exact does_exec rfl (does_fieldAddr hS (hev _)) h
  · exact does_exec rfl (does_field hS (hev _)) h
  · exact does_exec rfl (does_indexAddr hS (hev _) (hev _)) h
  · exact does_exec rfl (does_index hS (hev _) (hev _)) h
  · exact does_exec rfl (does_bin hS (hev _) (hev _)) h
  · exact does_exec rfl (does_un hS (hev _)) h
  · exact does_exec rfl (does_conv hS (hev _)) h
  · exact does_exec rfl (does_extract hS (hev _)) h
  · rename_i fn first caps
    have hm := does_makeFunc (P := P) (fn := fn) (first := first.toList.map (ev tm)) (caps := caps.toList.map (ev tm)) (fv := first.toList.map a.eval) (cv := caps.toList.map a.eval) hS (by simp) (by simp)
      (fun j x hx => by
        rw [List.getElem?_map] at hx ⊢
        cases hc : caps.toList[j]? with
        | none => rw [hc] at hx; cases hx
        | some y => rw [hc] at hx; cases hx; exact ⟨_, rfl, hev y⟩)
    refine does_exec ?_ hm h
    simp [execOp]
    rw [amap, amap]
  · rename_i x
    unfold nilCheckV at h ⊢
    split at h
    · rename_i k off hx
      split at h
      · rename_i cs hk
        have hc := hev x
        rw [hx] at hc
        obtain ⟨⟨o, ho, h2⟩, h3⟩ := hc
        rw [hk] at ho; cases ho
        obtain ⟨b, hb, hv⟩ := h2 cs rfl
        refine ⟨_, w, σ, ?_, .refl hS.live, ⟨_, hk, fun cs' e => ⟨b, hb, rfl⟩⟩, rfl⟩
        simp [execOp, hv]
      · exact h.elim
    · rename_i cs hx
      have hc := hev x
      rw [hx] at hc
      obtain ⟨⟨ad, hv, hp⟩, h3⟩ := hc
      refine ⟨_, w, σ, ?_, .refl hS.live, ⟨ad, rfl, hp⟩, rfl⟩
      simp [execOp, hv]
    · exact h.elim
  · rename_i t x lo hi mx
    exact does_exec rfl (does_slice hS (hev _) (rep_opt hT lo) (rep_opt hT hi) (rep_opt hT mx)) h
  · rename_i t parts
    have hm := does_build (P := P) (t := t) (parts := parts.toList.map fun x => (x.1, ev tm x.2)) (pv := parts.toList.map fun x => (x.1, a.eval x.2)) hS (by simp)
      (fun j x hx => by
        rw [List.getElem?_map] at hx ⊢
        cases hc : parts.toList[j]? with
        | none => rw [hc] at hx; cases hx
        | some y => rw [hc] at hx; cases hx; exact ⟨_, rfl, hev y.2⟩)
    refine does_exec ?_ hm h
    simp [execOp]
    rw [amap]
  · rename_i t n parts
    have hm := does_buildSlice (P := P) (t := t) (n := n) (parts := parts.toList.map fun x => (x.1, ev tm x.2)) (pv := parts.toList.map fun x => (x.1, a.eval x.2)) hS (by simp)
      (fun j x hx => by
        rw [List.getElem?_map] at hx ⊢
        cases hc : parts.toList[j]? with
        | none => rw [hc] at hx; cases hx
        | some y => rw [hc] at hx; cases hx; exact ⟨_, rfl, hev y.2⟩)
    refine does_exec ?_ hm h
    simp [execOp]
    rw [amap]
  · exact does_exec rfl (does_lookup hS (hev _) (hev _)) h
  · rename_i args argTypes
    split at h
    · rename_i x t hx ht
      obtain rfl : args = #[x] := by rw [← Array.toArray_toList (xs := args), hx]
      obtain rfl : argTypes = #[t] := by rw [← Array.toArray_toList (xs := argTypes), ht]
      obtain ⟨v, w', σ', hrun, hg, hv⟩ := does_len (P := P) (t := t) (ty := ty) hS (hev x) h
      refine ⟨v, w', σ', ?_, hg, hv⟩
      simp [execOp, resolve, invoke, builtin, hrun]
    · exact h.elim
  · rename_i args argTypes
    split at h
    · rename_i x y hx
      obtain rfl : args = #[x, y] := by rw [← Array.toArray_toList (xs := args), hx]
      obtain ⟨v, w', σ', hrun, hg, hv⟩ := does_max (P := P) (ts := argTypes) (ty := ty) hS (hev x) (hev y) h
      refine ⟨v, w', σ', ?_, hg, hv⟩
      simp [execOp, resolve, invoke, builtin, hrun]
    · exact h.elim
  · rename_i args argTypes
    split at h
    · rename_i x y hx
      obtain rfl : args = #[x, y] := by rw [← Array.toArray_toList (xs := args), hx]
      obtain ⟨v, w', σ', hrun, hg, hv⟩ := does_min (P := P) (ts := argTypes) (ty := ty) hS (hev x) (hev y) h
      refine ⟨v, w', σ', ?_, hg, hv⟩
      simp [execOp, resolve, invoke, builtin, hrun]
    · exact h.elim
  · exact h.elim
end
end Go.Ab
