/-
  ABSTRACT VALUES FOR A WALK, PART 14: every operation; a region in the order of the text; the rules for code.
-/
import Derived.Test.YtjfhgcnoielpfaaAbM
import Derived.LoopN
set_option linter.unusedSimpArgs false
set_option linter.unusedVariables false
namespace Go.Ab

section
variable {P : Program} {w w' : World} {σ σ' : Nat → Nat} {S : Store} {β β' : Hs} {N : Nat} {s : St} {a : Act}

theorem exec_sound {o : Oper} {K : St → Prop} {Q : Exit → Act → World → Prop} (hd : ∀ d, o.dst = some d → d < N) (hR : Rep N s a w σ β) (h : execW P o s K) : o.wp P a w (Then N s.st β σ w K) Q := by
  unfold execW at h
  split at h
  · rename_i t ho
    unfold allocW at h
    split at h
    · rename_i zs hz
      obtain ⟨z, hzr, hzc⟩ := run_zero (w := w) (σ := σ) (S := s.st) (β := β) hz
      refine newObj_box (v := z) (t := t) hd hR hzc (fun ad w' hnv => ?_) h
      obtain ⟨dst, op, ty, pos, after, guard⟩ := o
      simp only at ho; subst ho
      simp [execOp, Instr.alloc, hzr, hnv]
    · exact h.elim
  · rename_i t x ho
    unfold boxW at h
    split at h
    · rename_i cs hcs
      refine newObj_box (v := a.eval x) (t := t) hd hR (rep_cellsV hcs (rep_ev hR.T x)) (fun ad w' hnv => ?_) h
      obtain ⟨dst, op, ty, pos, after, guard⟩ := o
      simp only at ho; subst ho
      simp [execOp, Instr.box, hnv]
    · exact h.elim
  · rename_i t x y ho
    exact store_sound ho hd hR h
  · rename_i t x y ho
    exact make_sound ho hd hR h
  · rename_i t ho
    exact mapNew_sound ho hd hR h
  · rename_i t x y z ho
    exact mapPut_sound ho hd hR h
  · rename_i c ho
    exact call_sound ho hd hR h
  · obtain ⟨h1, h2⟩ := h
    obtain ⟨v, w', σ', hrun, hg, hv⟩ := nval_sound o hR.S hR.T h1
    exact then_value hd hR hg hv hrun h2

/-! ### a region in the order of the text -/

def dstOf (R : Array Oper) (j : Nat) : Option Nat := (R[j]?).bind (·.dst)

def guardW (P : Program) (R : Array Oper) (o : Oper) (s : St) (K : St → Prop) : Prop :=
  match o.guard with
  | none => execW P o s K
  | some (j, want) =>
    match (dstOf R j).map (look s.tm) with
    | some (.c (.d (.b x))) => (x = want → execW P o s K) ∧ (x = !want → K (s.put o.dst (.tup [])))
    | some (.tup []) => K (s.put o.dst (.tup []))
    | _ => False

def rops (P : Program) (R : Array Oper) : List Oper → St → (St → Prop) → Prop
  | [], s, K => K s
  | o :: os, s, K => guardW P R o s fun s' => rops P R os s' K

/-- What a step of a region leaves. -/
theorem Then.mono {K K' : St → Prop} {a' : Act} {w' : World} (hK : ∀ s, K s → K' s) (h : Then N S β σ w K a' w') : Then N S β σ w K' a' w' := by
  obtain ⟨s', σ', β', h1, h2, h3, h4⟩ := h
  exact ⟨s', σ', β', h1, h2, h3, hK _ h4⟩

theorem yielded_bool {R : Array Oper} {j : Nat} {x : Bool} (hR : Rep N s a w σ β) (h : (dstOf R j).map (look s.tm) = some (.c (.d (.b x)))) : yielded R a.tmps j = some x := by
  unfold yielded
  unfold dstOf at h
  cases hd : (R[j]?).bind (·.dst) with
  | none => rw [hd] at h; cases h
  | some d =>
    rw [hd] at h
    simp only [Option.map_some, Option.some.injEq] at h
    have ht := hR.T d
    rw [h] at ht
    obtain ⟨ht, _⟩ := ht
    simp only [Option.bind_some]
    have hlt : d < a.tmps.size := by
      rcases Nat.lt_or_ge d a.tmps.size with h | h
      · exact h
      · simp [Array.getD, Nat.not_lt.2 h, undef] at ht
        cases ht
    have hg : a.tmps.getD d undef = a.tmps[d] := by simp [Array.getD, hlt]
    rw [hg] at ht
    rw [Array.getElem?_eq_getElem hlt]
    generalize a.tmps[d] = v at ht
    cases ht
    rfl

theorem yielded_undef {R : Array Oper} {j : Nat} (hR : Rep N s a w σ β) (h : (dstOf R j).map (look s.tm) = some (.tup [])) : yielded R a.tmps j = none := by
  unfold yielded
  unfold dstOf at h
  cases hd : (R[j]?).bind (·.dst) with
  | none => rw [hd] at h; cases h
  | some d =>
    rw [hd] at h
    simp only [Option.map_some, Option.some.injEq] at h
    have ht := hR.T d
    rw [h] at ht
    obtain ⟨ar, hv, _⟩ := ht
    simp only [Option.bind_some]
    by_cases hlt : d < a.tmps.size
    · have hg : a.tmps.getD d undef = a.tmps[d] := by simp [Array.getD, hlt]
      rw [hg] at hv
      rw [Array.getElem?_eq_getElem hlt, hv]
    · rw [Array.getElem?_eq_none (Nat.le_of_not_lt hlt)]

theorem then_skip {o : Oper} {K : St → Prop} (hd : ∀ d, o.dst = some d → d < N) (hR : Rep N s a w σ β) (hK : K (s.put o.dst (.tup []))) : Then N s.st β σ w K (a.put o.dst undef) w := by
  have hr : Rep N (St.put ⟨s.tm, s.st⟩ o.dst (.tup [])) (a.put o.dst undef) w σ β := rep_put hd hR.size hR.defers hR.S hR.T undef_rep
  have he : (s.put o.dst (.tup [])).st = s.st := put_st o.dst s.tm s.st _
  exact ⟨_, σ, β, hr, by rw [show (St.put ⟨s.tm, s.st⟩ o.dst (.tup [])).st = s.st from he]; exact Step.of_grow (Grow.refl hR.S.live), by rw [show (St.put ⟨s.tm, s.st⟩ o.dst (.tup [])).st = s.st from he]; exact Keep.refl _ _, hK⟩

theorem guard_sound {R : Array Oper} {o : Oper} {K : St → Prop} {Q : Exit → Act → World → Prop} (hd : ∀ d, o.dst = some d → d < N) (hR : Rep N s a w σ β) (h : guardW P R o s K) :
    if Region.wanted o (yielded R a.tmps) then o.wp P a w (Then N s.st β σ w K) Q else Then N s.st β σ w K (a.put o.dst undef) w := by
  unfold guardW at h
  split at h
  · rename_i hg
    rw [if_pos (by simp [Region.wanted, hg])]
    exact exec_sound hd hR h
  · rename_i j want hg
    split at h
    · rename_i x hx
      have hy := yielded_bool hR hx
      by_cases e : x = want
      · rw [if_pos (by simp [Region.wanted, hg, hy, e])]
        exact exec_sound hd hR (h.1 e)
      · rw [if_neg (by simp [Region.wanted, hg, hy, e])]
        exact then_skip hd hR (h.2 (by cases x <;> cases want <;> simp_all))
    · rename_i hx
      have hy := yielded_undef hR hx
      rw [if_neg (by simp [Region.wanted, hg, hy])]
      exact then_skip hd hR h
    · exact h.elim

theorem rops_sound {R : Array Oper} {K : St → Prop} {S0 : Store} {β0 : Hs} {σ0 : Nat → Nat} {w0 : World} {Q : Exit → Act → World → Prop} (hQ : ∀ a w, Then N S0 β0 σ0 w0 K a w → Q .normal a w) :
    ∀ (n k : Nat), k + n = R.size → (∀ o ∈ R.toList, ∀ d, o.dst = some d → d < N) → ∀ (s : St) (a : Act) (w : World) (σ : Nat → Nat) (β : Hs), Rep N s a w σ β → Step S0 β0 σ0 w0 s.st β σ w → Keep S0 β0 s.st β →
      rops P R (R.toList.drop k) s K → wpOps P R Q (List.range' k n) a w
  | 0, k, hk, _, s, a, w, σ, β, hR, hst, hkp, h => by
    have : R.toList.drop k = [] := by apply List.drop_eq_nil_of_le; simp; omega
    rw [this] at h
    exact hQ a w ⟨s, σ, β, hR, hst, hkp, h⟩
  | n + 1, k, hk, hd, s, a, w, σ, β, hR, hst, hkp, h => by
    have hlt : k < R.toList.length := by simp; omega
    rw [List.drop_eq_getElem_cons hlt] at h
    have hg := guard_sound (Q := Q) (fun d e => hd _ (List.getElem_mem hlt) d e) hR h
    rw [List.range'_succ]
    have hRk : R[k]? = some R.toList[k] := by
      rw [Array.getElem?_eq_getElem (by omega)]; simp
    simp only [wpOps, hRk]
    have next : ∀ a' w', Then N s.st β σ w (fun s' => rops P R (R.toList.drop (k + 1)) s' K) a' w' → wpOps P R Q (List.range' (k + 1) n) a' w' := by
      rintro a' w' ⟨s', σ', β', hR', hst', hkp', hK'⟩
      exact rops_sound hQ n (k + 1) (by omega) hd s' a' w' σ' β' hR' (hst.trans hst') (hkp.trans hkp') hK'
    split
    · rename_i hw
      rw [if_pos hw] at hg
      exact .inl (Oper.wp_mono next hg)
    · rename_i hw
      rw [if_neg hw] at hg
      exact next _ _ hg

/-! ### code -/

def tail1 {α : Type} (l : List α) : List α := l.drop 1

/-- The code, begun in an abstract state, ends in one of which Q holds. -/
def AW (P : Program) (N : Nat) (c : Code) (Q : Exit → St → Prop) (s : St) : Prop :=
  ∀ (a : Act) (w : World) (σ : Nat → Nat) (β : Hs), Rep N s a w σ β →
    c.wp P (fun e a' w' => ∃ s' σ' β', Rep N s' a' w' σ' β' ∧ Step s.st β σ w s'.st β' σ' w' ∧ Keep (tail1 s.st) (tail1 β) (tail1 s'.st) (tail1 β') ∧ Q e s') a w

theorem AW.mono {c : Code} {Q Q' : Exit → St → Prop} (h : AW P N c Q s) (hq : ∀ e s, Q e s → Q' e s) : AW P N c Q' s := fun a w σ β hR =>
  wp_mono (h a w σ β hR) fun e a' w' ⟨s', σ', β', h1, h2, h3, h4⟩ => ⟨s', σ', β', h1, h2, h3, hq _ _ h4⟩

def thenK (K : St → Prop) (Q : Exit → St → Prop) : Exit → St → Prop
  | .normal, s => K s
  | e, s => Q e s

def inBlk (id : Nat) (Q : Exit → St → Prop) : Exit → St → Prop
  | .exit id', s => if id' = id then Q .normal s else Q (.exit id') s
  | e, s => Q e s

theorem aw_seq {x y : Code} {Q : Exit → St → Prop} (h : AW P N x (thenK (AW P N y Q) Q) s) : AW P N (.seq x y) Q s := by
  intro a w σ β hR
  refine wp_seq (wp_mono (h a w σ β hR) ?_)
  rintro e a' w' ⟨s', σ', β', h1, h2, h3, h4⟩
  cases e with
  | normal =>
    show y.wp P _ a' w'
    refine wp_mono (h4 a' w' σ' β' h1) ?_
    rintro e a'' w'' ⟨s'', σ'', β'', k1, k2, k3, k4⟩
    exact ⟨s'', σ'', β'', k1, h2.trans k2, h3.trans k3, k4⟩
  | _ => exact ⟨s', σ', β', h1, h2, h3, h4⟩

theorem aw_seq_k {x y : Code} {Q : Exit → St → Prop} (h : ∀ K : St → Prop, (∀ s, AW P N y Q s → K s) → AW P N x (thenK K Q) s) : AW P N (.seq x y) Q s := aw_seq (h _ fun _ h => h)

theorem aw_nil {c : Code} {e : Exit} {Q : Exit → St → Prop} (hc : ∀ {Q' : Exit → Act → World → Prop} {a : Act} {w : World}, Q' e a w → c.wp P Q' a w) (h : Q e s) : AW P N c Q s :=
  fun a w σ β hR => hc ⟨s, σ, β, hR, Step.of_grow (Grow.refl hR.S.live), Keep.refl _ _, h⟩

theorem aw_skip {Q : Exit → St → Prop} (h : Q .normal s) : AW P N .skip Q s := aw_nil wp_skip h
theorem aw_exit {id : Nat} {Q : Exit → St → Prop} (h : Q (.exit id) s) : AW P N (.exit id) Q s := aw_nil wp_exit h
theorem aw_ret {Q : Exit → St → Prop} (h : Q .ret s) : AW P N .ret Q s := aw_nil wp_ret h

theorem aw_cond {c : Operand} {x y : Code} {b : Bool} {Q : Exit → St → Prop} (hc : ev s.tm c = .c (.d (.b b))) (ht : b = true → AW P N x Q s) (hf : b = false → AW P N y Q s) : AW P N (.cond c x y) Q s := by
  intro a w σ β hR
  have hv := rep_ev hR.T c
  rw [hc] at hv
  obtain ⟨hv, _⟩ := hv
  generalize he : a.eval c = v at hv
  cases hv
  refine Go.wp_cond he ?_
  cases b with
  | true => exact ht rfl a w σ β hR
  | false => exact hf rfl a w σ β hR

theorem aw_block {id : Nat} {c : Code} {Q : Exit → St → Prop} (h : AW P N c (inBlk id Q) s) : AW P N (.block id c) Q s := by
  intro a w σ β hR
  refine wp_block (wp_mono (h a w σ β hR) ?_)
  rintro e a' w' ⟨s', σ', β', h1, h2, h3, h4⟩
  cases e with
  | exit id' =>
    show if id' = id then _ else _
    simp only [inBlk] at h4
    split
    · rename_i e; rw [if_pos e] at h4; exact ⟨s', σ', β', h1, h2, h3, h4⟩
    · rename_i e; rw [if_neg e] at h4; exact ⟨s', σ', β', h1, h2, h3, h4⟩
  | _ => exact ⟨s', σ', β', h1, h2, h3, h4⟩

theorem Keep.tail {S S' : Store} {β β' : Hs} (h : Keep S β S' β') : Keep (tail1 S) (tail1 β) (tail1 S') (tail1 β') := h.drop 1

theorem aw_region {id : Nat} {R : Array Oper} {Q : Exit → St → Prop} (hd : R.toList.all (fun o => match o.dst with | some d => decide (d < N) | none => true) = true) (h : rops P R R.toList s (Q .normal)) : AW P N (.region id R false) Q s := by
  intro a w σ β hR
  refine wp_region ?_
  rw [List.range_eq_range']
  refine rops_sound (S0 := s.st) (β0 := β) (σ0 := σ) (w0 := w) (K := Q .normal) (fun a' w' ht => ?_) R.size 0 (by omega) (fun o ho d e => ?_) s a w σ β hR (Step.of_grow (Grow.refl hR.S.live)) (Keep.refl _ _) h
  · obtain ⟨s', σ', β', h1, h2, h3, h4⟩ := ht
    exact ⟨s', σ', β', h1, h2, h3.tail, h4⟩
  · have := List.all_eq_true.1 hd o ho
    rw [e] at this
    simpa using this

/-- A loop: an invariant with a ghost, and a measure of the ghost that every round lowers. -/
theorem aw_loop {ι : Type} {c : Code} {Q : Exit → St → Prop} (I : ι → St → Prop) (μ : ι → Nat) (i0 : ι) (h0 : I i0 s)
    (round : ∀ i s, I i s → AW P N c (thenK (fun s' => ∃ j, μ j < μ i ∧ I j s') Q) s) : AW P N (.loop c) Q s := by
  intro a w σ β hR
  have key : ∀ (n : Nat) (i : ι) (s' : St) (a' : Act) (w' : World) (σ' : Nat → Nat) (β' : Hs), μ i < n → I i s' → Rep N s' a' w' σ' β' → Step s.st β σ w s'.st β' σ' w' → Keep (tail1 s.st) (tail1 β) (tail1 s'.st) (tail1 β') →
      Code.rounds P c (fun e a' w' => ∃ s' σ' β', Rep N s' a' w' σ' β' ∧ Step s.st β σ w s'.st β' σ' w' ∧ Keep (tail1 s.st) (tail1 β) (tail1 s'.st) (tail1 β') ∧ Q e s') n a' w' := by
    intro n
    induction n with
    | zero => intro i s' a' w' σ' β' h; omega
    | succ n ih =>
      intro i s' a' w' σ' β' hn hI hR' hst hkp
      refine wp_mono (round i s' hI a' w' σ' β' hR') ?_
      rintro e a'' w'' ⟨s'', σ'', β'', k1, k2, k3, k4⟩
      cases e with
      | normal =>
        obtain ⟨j, hj, hIj⟩ := k4
        exact ih j s'' a'' w'' σ'' β'' (by omega) hIj k1 (hst.trans k2) (hkp.trans k3)
      | _ => exact ⟨s'', σ'', β'', k1, hst.trans k2, hkp.trans k3, k4⟩
  exact wp_loop_rounds (μ i0 + 1) (key (μ i0 + 1) i0 s a w σ β (by omega) h0 hR (Step.of_grow (Grow.refl hR.S.live)) (Keep.refl _ _))

end
end Go.Ab
