/-
  ABSTRACT VALUES FOR A WALK, PART 13: append and calls as operations; every operation; a region in the order of the text; the rules for code.
-/
import Derived.Test.YtjfhgcnoielpfaaAbL
set_option linter.unusedSimpArgs false
set_option linter.unusedVariables false
namespace Go.Ab

section
variable {P : Program} {w w' : World} {σ σ' : Nat → Nat} {S : Store} {β β' : Hs} {N : Nat} {s : St} {a : Act}

theorem srcV_src {u : TypeId} {x : V} {ys : List (List D)} {v : Value} {size : Nat} (h : srcV P u x = some ys) (hx : RepV w σ S β x v) (hsz : ∀ y ∈ ys, y.length = size) : apT P u ∧ SrcAll P w σ size ys v := by
  unfold srcV at h
  split at h
  · rename_i e x hu
    exact ⟨.inl ⟨e, hu⟩, srcAll_slice (rep_sliceC h hx.1) hsz⟩
  · rename_i l hu
    cases h
    obtain ⟨hx1, _⟩ := hx
    cases hx1
    refine ⟨.inr hu, ?_⟩
    cases l with
    | nil =>
      intro w' e
      obtain ⟨h1, h2, ar, h3, h4, h5⟩ := src_string (P := P) (w := w') (σ := σ) []
      have hb : (⟨[].toArray⟩ : ByteArray) = ⟨#[]⟩ := rfl
      refine ⟨h1, fun y hy => by simp at hy, #[], ?_, by simp, fun j d hj => by simp at hj⟩
      simp [Builtin.firstCells]
    | cons b l =>
      have : size = 1 := by have := hsz [D.i .u8 b.toNat] (by simp); simpa using this.symm
      subst this
      exact srcAll_string (b :: l)
  · cases h

theorem append_sound {o : Oper} {K : St → Prop} {Q : Exit → Act → World → Prop} {t u : TypeId} {x y : Operand} {c : Call} (ho : o.op = .call c) (hc : c.callee = .builtin .append) (hca : c.args.toList = [x, y])
    (hct : c.argTypes.toList = [t, u]) (hd : ∀ d, o.dst = some d → d < N) (hR : Rep N s a w σ β) (h : appendW P t u (ev s.tm x) (ev s.tm y) s o.dst K) : o.wp P a w (Then N s.st β σ w K) Q := by
  have hx := rep_ev hR.T x
  have hy := rep_ev hR.T y
  have hrun : ∀ r w', (Builtin.append_ #[t, u] o.type #[a.eval x, a.eval y]).run P w = .ok r w' → (execOp a.eval o).run P w = .ok (.value r) w' := by
    intro r w' hr
    clear h
    obtain ⟨dst, op, ty, pos, after, guard⟩ := o
    simp only at ho; subst ho
    obtain ⟨cal, args, aty⟩ := c
    simp only at hc hca hct; subst hc
    obtain rfl : args = #[x, y] := by rw [← Array.toArray_toList (xs := args), hca]
    obtain rfl : aty = #[t, u] := by rw [← Array.toArray_toList (xs := aty), hct]
    simp only at hr
    simp [execOp, resolve, invoke, builtin, hr]
  unfold appendW at h
  split at h
  · rename_i e ys ht hsrc
    obtain ⟨h1, h2, h3, h4⟩ := h
    obtain ⟨hu, hsa⟩ := srcV_src hsrc hy h1
    split at h4
    · rename_i k es hex
      rw [hex] at hx
      split at h4
      · rename_i esz es' hk
        obtain ⟨rfl, rfl, h5, h6⟩ := h4
        obtain ⟨⟨hd1, o1, ho1, hlink⟩, hone⟩ := hx
        rw [hk] at ho1; cases ho1
        obtain ⟨_, hl2⟩ := hlink _ _ rfl
        have hβ := hl2 rfl
        obtain ⟨hh, hb, hobj⟩ := hR.S.obj k _ hk
        rw [hβ] at hb; cases hb
        have hobj0 : RepObj w σ s.st β (.tok (P.cellsOf e) es') (a.eval x) := hobj
        obtain ⟨r, w', σ', hr, hro, hsz, hos, hout, hn, hl, hfar, hbk, hzero, h1c⟩ := append_run (P := P) (ty := o.type) hR.S.live ht hu h3 rfl h2 hobj0 hsa h5
        have hlen : (es' ++ ys).length = es'.length + ys.length := List.length_append
        obtain ⟨hS', hkp, hst⟩ := hR.S.set hk hβ hsz hos hout hn hl hfar
          (.inr ⟨_, _, rfl, by omega, fun e => by rw [hzero (by omega)]⟩) (hro _ _) hbk
        refine then_change (x := .c (.tsl k (es' ++ ys))) (v := r) hd hR hS' hkp hst ⟨⟨(hro s.st β).1, _, getO_setO_eq _ _ _ _ hk, fun a b e => ?_⟩, h1c⟩ (.inl rfl) (hrun _ _ hr) h6
        cases e
        exact ⟨Nat.le_refl _, fun _ => getO_setO_eq _ _ _ _ hβ⟩
      · exact h4.elim
    · rename_i es hex
      rw [hex] at hx
      obtain ⟨h5, h6, h7⟩ := h4
      obtain ⟨⟨hd1, ad, n, hv⟩, hone⟩ := hx
      have hobj0 : RepObj w σ s.st β (.tok (P.cellsOf e) es) (a.eval x) := by
        refine ⟨hd1, h5, ?_⟩
        rw [hv] at hd1 ⊢
        have hn : n = es.length := by cases hd1 <;> rfl
        exact ⟨ad, n, by rw [hn], by omega, .inl hn⟩
      have hbk0 : blk (.tok (P.cellsOf e) es) (a.eval x) = none := by
        rw [hv] at hd1 ⊢
        have hn : n = es.length := by cases hd1 <;> rfl
        subst hn
        cases ad <;> simp [blk]
      obtain ⟨r, w', σ', hr, hro, hsz, hos, hout, hn, hl, hfar, hbk, hzero, h1c⟩ := append_run (P := P) (ty := o.type) hR.S.live ht hu h3 rfl h2 hobj0 hsa h6
      have hg : Grow w σ w' σ' := ⟨hsz, hos, hout, fun b hb => hfar b hb (by rw [hbk0]; simp), hl⟩
      obtain ⟨tm, st⟩ := s
      cases st with
      | nil => exact h7.elim
      | cons own Ω =>
        obtain ⟨bo, bΩ, rfl, hlen⟩ := frames hR
        obtain ⟨hS', hkp, hst⟩ := hR.S.push (o := .tok (P.cellsOf e) (es ++ ys)) (h := r) hg hlen (hro _ _) (fun b hb => by
          rcases hbk b hb with h | h
          · rw [hbk0] at h; cases h
          · exact h)
        refine then_change (x := .c (.tsl (0, own.length) (es ++ ys))) (v := r) hd hR hS' hkp hst ⟨⟨(hro [] []).1, _, getO_push_new _ _ _, fun a b e => ?_⟩, h1c⟩ (.inl rfl) (hrun _ _ hr) h7
        cases e
        exact ⟨Nat.le_refl _, fun _ => by rw [← hlen, getO_push_new]⟩
    · exact h4.elim
  · exact h.elim

theorem repVs_map {l : List Operand} (hR : Rep N s a w σ β) : RepVs w σ s.st β (l.map (ev s.tm)) (l.map a.eval) :=
  ⟨by simp, fun j x hx => by
    rw [List.getElem?_map] at hx ⊢
    cases hl : l[j]? with
    | none => rw [hl] at hx; cases hx
    | some y => rw [hl] at hx; cases hx; exact ⟨_, rfl, rep_ev hR.T y⟩⟩

theorem RepVs.append {xs ys : List V} {vs us : List Value} (h : RepVs w σ S β xs vs) (k : RepVs w σ S β ys us) : RepVs w σ S β (xs ++ ys) (vs ++ us) := by
  refine ⟨by simp [h.1, k.1], fun j x hx => ?_⟩
  by_cases hj : j < xs.length
  · rw [List.getElem?_append_left hj] at hx
    rw [List.getElem?_append_left (by rw [← h.1]; exact hj)]
    exact h.2 j x hx
  · rw [List.getElem?_append_right (by omega)] at hx
    rw [List.getElem?_append_right (by rw [← h.1]; omega), ← h.1]
    exact k.2 _ x hx

theorem call_sound {o : Oper} {K : St → Prop} {Q : Exit → Act → World → Prop} {c : Call} (ho : o.op = .call c) (hd : ∀ d, o.dst = some d → d < N) (hR : Rep N s a w σ β) (h : callW P c s o.dst K) :
    o.wp P a w (Then N s.st β σ w K) Q := by
  unfold callW at h
  split at h
  · rename_i x hcx
    split at h
    · rename_i f caps hex
      have hx := rep_ev hR.T x
      rw [hex] at hx
      obtain ⟨⟨vs, hv, hvl, hcaps⟩, _⟩ := hx
      have hargs : RepVs w σ s.st β (c.args.toList.map (ev s.tm) ++ caps.map fun y => V.c (.ptr y.1 y.2)) (c.args.toList.map a.eval ++ vs.toList) := by
        refine (repVs_map hR).append ⟨by simp [hvl], fun j z hz => ?_⟩
        rw [List.getElem?_map] at hz
        cases hcj : caps[j]? with
        | none => rw [hcj] at hz; cases hz
        | some y =>
          rw [hcj] at hz; cases hz
          obtain ⟨k, off⟩ := y
          obtain ⟨u, hu, h1c, o1, ho1, h2⟩ := hcaps j k off hcj
          exact ⟨u, by simpa using hu, ⟨o1, ho1, h2⟩, h1c⟩
      have harr : (c.args.toList.map a.eval ++ vs.toList).toArray = c.args.map a.eval ++ vs := by
        apply Array.ext'; simp
      rcases h with ⟨post, ⟨⟨fn, hf, hnm, hbd⟩, hcall⟩, hK⟩ | ⟨r, ⟨fn, e, hf, hnm, hbd, hfn, hfe, hrun⟩, hK⟩
      · have hcl := hcall w σ β _ hR.S hargs
        have hrun : (execOp a.eval o).run P w = .ok (.enter f (c.args.toList.map a.eval ++ vs.toList).toArray) w := by
          clear hK hcl hcall hargs
          obtain ⟨dst, op, ty, pos, after, guard⟩ := o
          simp only at ho; subst ho
          obtain ⟨cal, args, aty⟩ := c
          simp only at hcx; subst hcx
          have hbn : fn.body.isNone = false := by cases hb : fn.body <;> simp_all
          simp only at harr
          simp only [execOp, Sem.run_bind, resolve, hv, Deferred.ofValue, Sem.run_pure, Result.andThen_ok, invoke, callFunc, run_program, hf, hnm, hbn, harr]
          simp
        unfold Oper.wp
        rw [hrun]
        refine Calls.mono hcl fun e w' he => ?_
        obtain ⟨v, r, S', σ', β', rfl, hS', hkp, hst, hr, hpost⟩ := he
        show Then N s.st β σ w K (a.put o.dst v) w'
        exact ⟨_, σ', β', rep_put hd hR.size hR.defers hS' (hR.T.mono hst.near hkp) hr, by rw [put_st]; exact hst, by rw [put_st]; exact hkp, hK r S' hpost⟩
      · obtain ⟨v, hrv, hrep⟩ := hrun w σ s.st β _ hR.S hargs
        refine then_value hd hR (Grow.refl hR.S.live) hrep ?_ hK
        have h1 := run_callFunc_extern (P := P) hf hnm hbd hfn hfe (c.args.toList.map a.eval ++ vs.toList).toArray w
        rw [hrv, harr] at h1
        clear hK hargs hrv
        obtain ⟨dst, op, ty, pos, after, guard⟩ := o
        simp only at ho; subst ho
        obtain ⟨cal, args, aty⟩ := c
        simp only at hcx; subst hcx
        simp only [execOp, Sem.run_bind, resolve, hv, Deferred.ofValue, Sem.run_pure, Result.andThen_ok, invoke]
        simpa using h1
    · exact h.elim
  · rename_i hcb
    split at h
    · rename_i x y t u hca hct
      exact append_sound ho hcb hca hct hd hR h
    · exact h.elim
  · rename_i hcb
    split at h
    · rename_i x t hca hct
      obtain ⟨h1, h2⟩ := h
      obtain ⟨v, w', σ', hrun, hg, hv⟩ := does_len (P := P) (t := t) (ty := o.type) hR.S (rep_ev hR.T x) h1
      refine then_value hd hR hg hv ?_ h2
      obtain ⟨dst, op, ty, pos, after, guard⟩ := o
      simp only at ho; subst ho
      obtain ⟨cal, args, aty⟩ := c
      simp only at hcb hca hct; subst hcb
      obtain rfl : args = #[x] := by rw [← Array.toArray_toList (xs := args), hca]
      obtain rfl : aty = #[t] := by rw [← Array.toArray_toList (xs := aty), hct]
      simp only at hrun
      simp [execOp, resolve, invoke, builtin, hrun]
    · exact h.elim
  · rename_i hcb
    split at h
    · rename_i x y hca
      obtain ⟨h1, h2⟩ := h
      obtain ⟨v, w', σ', hrun, hg, hv⟩ := does_max (P := P) (ts := c.argTypes) (ty := o.type) hR.S (rep_ev hR.T x) (rep_ev hR.T y) h1
      refine then_value hd hR hg hv ?_ h2
      obtain ⟨dst, op, ty, pos, after, guard⟩ := o
      simp only at ho; subst ho
      obtain ⟨cal, args, aty⟩ := c
      simp only at hcb hca; subst hcb
      obtain rfl : args = #[x, y] := by rw [← Array.toArray_toList (xs := args), hca]
      simp only at hrun
      simp [execOp, resolve, invoke, builtin, hrun]
    · exact h.elim
  · rename_i hcb
    split at h
    · rename_i x y hca
      obtain ⟨h1, h2⟩ := h
      obtain ⟨v, w', σ', hrun, hg, hv⟩ := does_min (P := P) (ts := c.argTypes) (ty := o.type) hR.S (rep_ev hR.T x) (rep_ev hR.T y) h1
      refine then_value hd hR hg hv ?_ h2
      obtain ⟨dst, op, ty, pos, after, guard⟩ := o
      simp only at ho; subst ho
      obtain ⟨cal, args, aty⟩ := c
      simp only at hcb hca; subst hcb
      obtain rfl : args = #[x, y] := by rw [← Array.toArray_toList (xs := args), hca]
      simp only at hrun
      simp [execOp, resolve, invoke, builtin, hrun]
    · exact h.elim
  · exact h.elim
end
end Go.Ab
