/-
  ABSTRACT VALUES FOR A WALK, PART 18: the rule for a drawn region.
-/
import Derived.Test.YtjfhgcnoielpfaaAbQ
import Derived.StillTail
set_option linter.unusedSimpArgs false
set_option linter.unusedVariables false
namespace Go.Ab

section
variable {P : Program} {E : Bool} {N : Nat} {R : Array Oper}

/-- What holds in the middle of a drawn region: 'listed' tells which operations have run. -/
structure Mid (N : Nat) (E : Bool) (R : Array Oper) (st : Nat → St) (vs : Nat → V) (β0 : Hs) (σ0 : Nat → Nat) (w0 : World) (listed : Array Bool) (a : Act) (w : World) : Prop where
  size : listed.size = R.size
  closed : ∀ i o e, R[i]? = some o → listed.getD i false = true → e ∈ o.after → Region.binds .any e = true → listed.getD e.on false = true
  rep : ∃ m, m ≤ R.size ∧ (∀ i o, R[i]? = some o → isDx E o.op = true → (listed.getD i false = true ↔ i < m)) ∧ ∃ σ β, a.tmps.size = N ∧ a.defers = [] ∧ RepS w σ (st m).st β ∧
    (∀ t, RepV w σ (st m).st β (lookE R vs (fun i => listed.getD i false) (st 0).tm R.size t) (a.tmps.getD t undef)) ∧ Step (st 0).st β0 σ0 w0 (st m).st β σ w ∧ Keep (st 0).st β0 (st m).st β

theorem looks_operand {o : Oper} {x : Operand} {t : Nat} (hx : x ∈ o.op.operands) (e : x = .tmp t) : t ∈ o.looksAt R := by
  subst e
  exact List.mem_append_left _ (List.mem_filterMap.2 ⟨.tmp t, by simpa using hx, rfl⟩)

theorem looks_guard {o : Oper} {g d : Nat} {want : Bool} (hg : o.guard = some (g, want)) (hd : dstOf R g = some d) : d ∈ o.looksAt R := by
  refine List.mem_append_right _ ?_
  rw [hg]
  show d ∈ ((R[g]?).bind (·.dst)).toList
  unfold dstOf at hd
  rw [hd]; simp

theorem draw_ok_pair (h : drawOk E R N = true) {i j : Nat} {x y : Oper} (hij : i < j) (hx : R[i]? = some x) (hy : R[j]? = some y) (hc : clash E R x y = true) : ((masks R.toList []).getD j 0).testBit i = true := by
  have hj : j < R.size := (Array.getElem?_eq_some_iff.1 hy).1
  have h1 := List.all_eq_true.1 h j (List.mem_range.2 hj)
  rw [Bool.and_eq_true] at h1
  have h2 := List.all_eq_true.1 h1.2 i (List.mem_range.2 hij)
  rw [hx, hy] at h2
  simp only [hc, Bool.not_true, Bool.or_false] at h2
  exact h2

theorem draw_ok_edge (h : drawOk E R N = true) {i : Nat} {o : Oper} {e : Edge} (ho : R[i]? = some o) (he : e ∈ o.after) (hb : Region.binds .any e = true) : e.on < i := by
  have hj : i < R.size := (Array.getElem?_eq_some_iff.1 ho).1
  have h1 := List.all_eq_true.1 h i (List.mem_range.2 hj)
  rw [Bool.and_eq_true, ho] at h1
  have h2 := h1.1
  simp only [Bool.and_eq_true] at h2
  have h3 := List.all_eq_true.1 h2.1 e (by simpa using he)
  simpa [hb] using h3

theorem draw_ok_dst (h : drawOk E R N = true) {i : Nat} {o : Oper} (ho : R[i]? = some o) : ∀ d, o.dst = some d → d < N := by
  intro d hd
  have hj : i < R.size := (Array.getElem?_eq_some_iff.1 ho).1
  have h1 := List.all_eq_true.1 h i (List.mem_range.2 hj)
  rw [Bool.and_eq_true, ho] at h1
  have h2 := h1.1
  simp only [Bool.and_eq_true, hd] at h2
  simpa using h2.2

theorem clash_symm {x y : Oper} : clash E R x y = clash E R y x := by
  have h : x.apart R y = y.apart R x := by
    rw [Bool.eq_iff_iff]
    have key : ∀ x y : Oper, x.apart R y = true → y.apart R x = true := fun x y h => by
      obtain ⟨h1, h2, h3⟩ := Oper.apart_spec h
      unfold Oper.apart
      cases hx : x.dst <;> cases hy : y.dst <;> simp
      · rename_i d; exact h3 d hy
      · rename_i d; exact h1 d hx
      · rename_i d d'
        exact ⟨⟨h3 d' hy, fun e => h2 d hx (by rw [hy, e])⟩, h1 d hx⟩
    exact ⟨key x y, key y x⟩
  unfold clash
  rw [h, Bool.and_comm (isDx E x.op)]
  cases isSx E x.op <;> cases isSx E y.op <;> simp

theorem mid_step {st : Nat → St} {vs : Nat → V} {β0 : Hs} {σ0 : Nat → Nat} {w0 : World} {Q : Exit → Act → World → Prop} (hok : drawOk E R N = true)
    (hT : ∀ i, i < R.size → ∃ o, R[i]? = some o ∧ TStep P E R o (st i) (vs i) (st (i + 1))) {listed : Array Bool} {a : Act} {w : World} (hM : Mid N E R st vs β0 σ0 w0 listed a w) {i : Nat} (hi : i ∈ Region.ready .any R listed) :
    wpOp P R Q i (fun a' w' => Mid N E R st vs β0 σ0 w0 (listed.setIfInBounds i true) a' w') a w := by
  obtain ⟨hun, o, ho, hedges⟩ := mem_ready.1 hi
  have hlt : i < R.size := (Array.getElem?_eq_some_iff.1 ho).1
  obtain ⟨o', ho', ht⟩ := hT i hlt
  rw [ho] at ho'; cases ho'
  have hunf : listed.getD i false = false := by
    have hs : i < listed.size := by rw [hM.size]; exact hlt
    simp [hs] at hun ⊢; exact hun
  obtain ⟨m, hm, hmD, σ, β, hsz, hdf, hS, hrT, hst, hkp⟩ := hM.rep
  have hdn := draw_ok_dst hok ho
  -- what comes before in the text and clashes has run; what comes after has not
  have hdone : ∀ j x, R[j]? = some x → j ≠ i → clash E R x o = true → (listed.getD j false = true ↔ j < i) := by
    intro j x hx hne hc
    constructor
    · intro hE
      rcases Nat.lt_or_ge j i with h | h
      · exact h
      · exfalso
        have hij : i < j := by omega
        have hbit := draw_ok_pair hok hij ho hx (by rw [clash_symm]; exact hc)
        have := mask_done (fun k => listed.getD k false = true) hM.closed (fun i o e h1 h2 h3 => draw_ok_edge hok h1 h2 h3) j x hx (fun e he hb => hM.closed j x e hx hE he hb) i hbit
        rw [hunf] at this; cases this
    · intro hji
      have hbit := draw_ok_pair hok hji hx ho hc
      exact mask_done (fun k => listed.getD k false = true) hM.closed (fun i o e h1 h2 h3 => draw_ok_edge hok h1 h2 h3) i o ho (fun e he hb => hedges e he hb) j hbit
  -- what it looks at is as in the text
  have hlook : ∀ t ∈ o.looksAt R, lookE R vs (fun i => listed.getD i false) (st 0).tm R.size t = look (st i).tm t := by
    intro t htl
    rw [text_look hT t i (by omega)]
    have := lookE_agree (R := R) (vs := vs) (E := fun i => listed.getD i false) (base := (st 0).tm) (t := t) (i := i) R.size (fun j hj hd => by
      by_cases e : j = i
      · subst e; rw [hunf]; simp
      · obtain ⟨x, hx⟩ : ∃ x, R[j]? = some x := ⟨_, Array.getElem?_eq_getElem hj⟩
        refine hdone j x hx e ?_
        have hxd : x.dst = some t := by simpa [dstOf, hx] using hd
        have : x.apart R o = false := by
          cases hap : x.apart R o with
          | false => rfl
          | true => exact absurd htl ((Oper.apart_spec hap).1 t hxd)
        simp [clash, this])
    rw [this, show min R.size i = i from by omega]
  -- the temporaries as a list
  obtain ⟨tmE, htmE⟩ : ∃ tmE : List (Nat × V), ∀ t, look tmE t = lookE R vs (fun i => listed.getD i false) (st 0).tm R.size t := by
    have : ∀ n, ∃ tmE : List (Nat × V), ∀ t, look tmE t = lookE R vs (fun i => listed.getD i false) (st 0).tm n t := by
      intro n
      induction n with
      | zero => exact ⟨(st 0).tm, fun t => rfl⟩
      | succ n ih =>
        obtain ⟨tm, h⟩ := ih
        by_cases hE : listed.getD n false = true
        · cases hd : dstOf R n with
          | none => exact ⟨tm, fun t => by rw [lookE, if_neg (fun x => by rw [hd] at x; cases x.2)]; exact h t⟩
          | some d =>
            refine ⟨(n |> vs |> fun v => (d, v)) :: tm, fun t => ?_⟩
            rw [lookE, look, hd, h t]
            by_cases e : d = t
            · rw [if_pos e, if_pos ⟨hE, by rw [e]⟩]
            · rw [if_neg e, if_neg (fun x => e (Option.some.inj x.2))]
        · exact ⟨tm, fun t => by rw [lookE, if_neg (fun x => hE x.1)]; exact h t⟩
    exact this R.size
  have hR : Rep N ⟨tmE, (st m).st⟩ a w σ β := ⟨hsz, hdf, hS, fun t => by show RepV w σ (st m).st β (look tmE t) _; rw [htmE]; exact hrT t⟩
  have hev : ∀ x ∈ o.op.operands, ev (st i).tm x = ev tmE x := by
    intro x hx
    cases x with
    | tmp t => show look _ t = look _ t; rw [htmE, hlook t (looks_operand hx rfl)]
    | _ => rfl
  have hgd : gd R o tmE = gd R o (st i).tm := by
    unfold gd
    cases hg : o.guard with
    | none => rfl
    | some gw =>
      obtain ⟨g, want⟩ := gw
      simp only
      cases hd : dstOf R g with
      | none => rfl
      | some d =>
        simp only [Option.map_some]
        rw [htmE, hlook d (looks_guard hg hd)]
  -- closing the new listing
  have hclosed' : ∀ j x e, R[j]? = some x → (listed.setIfInBounds i true).getD j false = true → e ∈ x.after → Region.binds .any e = true → (listed.setIfInBounds i true).getD e.on false = true := by
    intro j x e hx hE he hb
    by_cases hji : j = i
    · subst hji
      rw [ho] at hx; cases hx
      exact getD_set_true (hedges e he hb)
    · rw [getD_set_ne false (Ne.symm hji)] at hE
      exact getD_set_true (hM.closed j x e hx hE he hb)
  have hset : (listed.setIfInBounds i true).getD i false = true := by
    have hs : i < listed.size := by rw [hM.size]; exact hlt
    simp [hs]
  -- the temporaries behind the step
  have hlk : ∀ (S' : Store) (t : Nat), lookE R vs (fun i_1 => (listed.setIfInBounds i true).getD i_1 false) (st 0).tm R.size t = look (St.put ⟨tmE, S'⟩ o.dst (vs i)).tm t := by
    intro S' t
    by_cases hd : o.dst = some t
    · have hdi : dstOf R i = some t := by simp [dstOf, ho, hd]
      rw [lookE_last (E := fun i_1 => (listed.setIfInBounds i true).getD i_1 false) hset hdi R.size hlt (fun j hj hij hdj => by
        obtain ⟨x, hx⟩ : ∃ x, R[j]? = some x := ⟨_, Array.getElem?_eq_getElem hj⟩
        have hxd : x.dst = some t := by simpa [dstOf, hx] using hdj
        have hap : x.apart R o = false := by
          cases hap : x.apart R o with
          | false => rfl
          | true => exact absurd hd ((Oper.apart_spec hap).2.1 t hxd)
        have := hdone j x hx (by omega) (by simp [clash, hap])
        rw [getD_set_ne false (by omega)]
        cases hE : listed.getD j false with
        | false => rfl
        | true => exact absurd (this.1 hE) (by omega))]
      rw [hd]
      simp [St.put, look]
    · have hdi : dstOf R i ≠ some t := by simp only [dstOf, ho, Option.bind_some]; exact hd
      rw [lookE_congr (E' := fun i => listed.getD i false) R.size (fun j hj hdj => by
        have hji : j ≠ i := fun e => hdi (e ▸ hdj)
        exact getD_set_ne false (Ne.symm hji)), ← htmE t]
      cases hdd : o.dst with
      | none => rfl
      | some d =>
        have hne : d ≠ t := fun e => hd (by rw [hdd, e])
        simp [St.put, look, hne]
  have fin : ∀ (m' : Nat) (a' : Act) (w' : World) (σ' : Nat → Nat) (β' : Hs), m' ≤ R.size → (∀ j x, R[j]? = some x → isDx E x.op = true → ((listed.setIfInBounds i true).getD j false = true ↔ j < m')) →
      Rep N (St.put ⟨tmE, (st m').st⟩ o.dst (vs i)) a' w' σ' β' → Step (st m).st β σ w (st m').st β' σ' w' → Keep (st m).st β (st m').st β' → Mid N E R st vs β0 σ0 w0 (listed.setIfInBounds i true) a' w' := by
    intro m' a' w' σ' β' hm' hD' hR' hst' hkp'
    have hS' := hR'.S
    have hT' := hR'.T
    rw [put_st] at hS' hT'
    exact ⟨by simpa using hM.size, hclosed', m', hm', hD', σ', β', hR'.size, hR'.defers, hS', fun t => by rw [hlk (st m').st t]; exact hT' t, hst.trans hst', hkp.trans hkp'⟩
  have keepD : isDx E o.op = false → ∀ j x, R[j]? = some x → isDx E x.op = true → ((listed.setIfInBounds i true).getD j false = true ↔ j < m) := by
    intro hD j x hx hDx
    have hji : j ≠ i := fun e => by rw [e, ho] at hx; cases hx; rw [hD] at hDx; cases hDx
    rw [getD_set_ne false (Ne.symm hji)]
    exact hmD j x hx hDx
  -- an operation that leaves the objects alone
  have quiet : ∀ (w' : World) (σ' : Nat → Nat) (v : Value), isDx E o.op = false → Grow w σ w' σ' → RepV w' σ' (st m).st β (vs i) v → Mid N E R st vs β0 σ0 w0 (listed.setIfInBounds i true) (a.put o.dst v) w' := by
    intro w' σ' v hD hg hv
    exact fin m _ w' σ' β hm (keepD hD) (rep_put hdn hsz hdf (hS.grow hg) (hR.T.mono hg.near (Keep.refl _ _)) hv) (Step.of_grow hg) (Keep.refl _ _)
  -- where the objects stand
  have hDs : isDx E o.op = true → ∀ j x, R[j]? = some x → isDx E x.op = true → (listed.getD j false = true ↔ j < i) := by
    intro hD j x hx hDx
    by_cases e : j = i
    · subst e; rw [hunf]; simp
    · exact hdone j x hx e (by simp [clash, hD, hDx])
  have hsame : isDx E o.op = true → (st m).st = (st i).st := by
    intro hD
    have hno : ∀ j x, R[j]? = some x → (i ≤ j ∧ j < m ∨ m ≤ j ∧ j < i) → isDx E x.op = false := by
      intro j x hx hj
      cases hDx : isDx E x.op with
      | false => rfl
      | true =>
        have h1 := hDs hD j x hx hDx
        have h2 := hmD j x hx hDx
        rcases hj with hj | hj
        · have := h1.1 (h2.2 hj.2); omega
        · have := h2.1 (h1.2 hj.2); omega
    rcases Nat.le_total i m with h | h
    · have := st_same hT (i := i) (m - i) (by omega) (fun j x h1 h2 h3 => hno j x h3 (.inl ⟨h1, by omega⟩))
      rwa [show i + (m - i) = m from by omega] at this
    · have := st_same hT (i := m) (i - m) (by omega) (fun j x h1 h2 h3 => hno j x h3 (.inr ⟨h1, by omega⟩))
      rw [show m + (i - m) = i from by omega] at this
      exact this.symm
  have afterD : isDx E o.op = true → ∀ j x, R[j]? = some x → isDx E x.op = true → ((listed.setIfInBounds i true).getD j false = true ↔ j < i + 1) := by
    intro hD j x hx hDx
    by_cases e : j = i
    · subst e; rw [hset]; simp
    · rw [getD_set_ne false (Ne.symm e), hDs hD j x hx hDx]; omega
  unfold wpOp
  rw [ho]
  simp only
  have hRR : Rep N ⟨tmE, (st m).st⟩ a w σ β := hR
  rcases ht with ⟨hg, hv, hs'⟩ | ⟨hg, hD, hv, hs'⟩ | ⟨hg, hD, hx, hs'⟩
  · -- left out
    have hw : Region.wanted o (yielded R a.tmps) = false := by
      rw [← hgd] at hg
      unfold gd at hg
      split at hg
      · cases hg
      · rename_i j want hgu
        split at hg
        · rename_i x hx
          have hy := yielded_bool (s := ⟨tmE, (st m).st⟩) hRR hx
          have hne : x ≠ want := by
            intro e
            rw [e] at hg
            simp at hg
          simp [Region.wanted, hgu, hy, hne]
        · rename_i hx
          have hy := yielded_undef (s := ⟨tmE, (st m).st⟩) hRR hx
          simp [Region.wanted, hgu, hy]
        · cases hg
    rw [if_neg (by rw [hw]; simp)]
    have hvu : RepV w σ (st m).st β (vs i) undef := by rw [hv]; exact undef_rep
    by_cases hD : isDx E o.op = true
    · have hsm := hsame hD
      have hs1 : (st (i + 1)).st = (st m).st := by rw [hsm, hs']; cases o.dst <;> rfl
      refine fin (i + 1) _ w σ β hlt (afterD hD) (by rw [hs1]; exact rep_put hdn hsz hdf hS hR.T hvu) (by rw [hs1]; exact Step.of_grow (Grow.refl hS.live)) (by rw [hs1]; exact Keep.refl _ _)
    · exact quiet w σ undef (by simpa using hD) (Grow.refl hS.live) hvu
  all_goals
    have hw : Region.wanted o (yielded R a.tmps) = true := by
      rw [← hgd] at hg
      unfold gd at hg
      split at hg
      · rename_i hgu; simp [Region.wanted, hgu]
      · rename_i j want hgu
        split at hg
        · rename_i x hx
          have hy := yielded_bool (s := ⟨tmE, (st m).st⟩) hRR hx
          simp at hg
          simp [Region.wanted, hgu, hy, hg]
        · cases hg
        · cases hg
    rw [if_pos hw]
    left
  · -- a quiet one
    rcases hv with ⟨c, hc, hcn⟩ | ⟨hcond, hval⟩
    · have hcn' := callN_tm (tm' := tmE) (fun x hx => hev x (by rw [hc]; exact hx)) hcn
      unfold callN at hcn'
      split at hcn'
      · rename_i x hcx
        split at hcn'
        · rename_i f caps hex
          have hcall : callW P c ⟨tmE, (st m).st⟩ o.dst (fun t => t = St.put ⟨tmE, (st m).st⟩ o.dst (vs i)) := by
            unfold callW
            rw [hcx]
            simp only [hex]
            exact .inl ⟨_, hcn' (st m).st, fun r S' hp => by rw [hp.1, hp.2]⟩
          refine Oper.wp_mono ?_ (call_sound (Q := Q) hc hdn hRR hcall)
          rintro a' w' ⟨s'', σ', β', hR', hst', hkp', hK⟩
          subst hK
          rw [put_st] at hst' hkp'
          exact fin m a' w' σ' β' hm (keepD hD) hR' hst' hkp'
        · exact hcn'.elim
      · exact hcn'.elim
    · have hnost : ∀ j x, R[j]? = some x → (i ≤ j ∧ j < m ∨ m ≤ j ∧ j < i) → isSx E x.op = false := by
        intro j x hx hj
        cases hs : isSx E x.op with
        | false => rfl
        | true =>
          have hDx : isDx E x.op = true := isSx_isDx hs
          have hji : j ≠ i := fun e => by rw [e, ho] at hx; cases hx; rw [hD] at hDx; cases hDx
          have h1 := hdone j x hx hji (by simp [clash, hs])
          have h2 := hmD j x hx hDx
          rcases hj with hj | hj
          · have := h1.1 (h2.2 hj.2); omega
          · have := h2.1 (h1.2 hj.2); omega
      have e1 := nval_tm (P := P) (S := (st i).st) (tm := (st i).tm) (tm' := tmE) (op := o.op) hev
      rw [e1] at hcond hval
      have e2 := nval_fix (P := P) (S := (st i).st) (S' := (st m).st) (tm := tmE) (op := o.op) hcond (by
        intro x hx k hk ob hob hbr
        rcases Nat.le_total i m with h | h
        · have hds := st_ds hT (i := i) (m - i) (by omega) (fun j x h1 h2 h3 => hnost j x h3 (.inl ⟨h1, by omega⟩))
          rw [show i + (m - i) = m from by omega] at hds
          rcases hds k ob hob with h' | ⟨⟨z, es, e⟩, _⟩
          · exact h'
          · rw [e] at hbr; exact hbr.elim
        · have hds := st_ds hT (i := m) (i - m) (by omega) (fun j x h1 h2 h3 => hnost j x h3 (.inr ⟨h1, by omega⟩))
          rw [show m + (i - m) = i from by omega] at hds
          have hrx := rep_ev (a := a) hR.T x
          have hin : ∃ o', getO (st m).st k = some o' := by
            rcases hk with ⟨off, e⟩ | ⟨i', off, e⟩ | e | e <;> rw [show ev (⟨tmE, (st m).st⟩ : St).tm x = ev tmE x from rfl, e] at hrx <;> obtain ⟨⟨o', ho', _⟩, _⟩ := hrx <;> exact ⟨o', ho'⟩
          obtain ⟨o', ho'⟩ := hin
          rcases hds k o' ho' with h' | ⟨_, z, es, h'⟩
          · rw [hob] at h'; cases h'; exact ho'
          · rw [hob] at h'; cases h'
            exact hbr.elim)
      rw [← e2] at hcond hval
      obtain ⟨v, w', σ', hrun, hgr, hrv⟩ := nval_sound (P := P) o hS hR.T hcond
      unfold Oper.wp
      rw [hrun]
      exact quiet w' σ' v hD hgr (by rw [hval]; exact hrv)
  · have hsm := hsame hD
    have hx' : execW P o ⟨(st i).tm, (st i).st⟩ (fun t => t = St.put ⟨(st i).tm, (st (i + 1)).st⟩ o.dst (vs i)) := by
      rw [hs'] at hx
      exact hx
    have hx2 := execX_tm hD hev hx'
    rw [← hsm] at hx2
    refine Oper.wp_mono ?_ (exec_sound (Q := Q) hdn hRR hx2)
    rintro a' w' ⟨s'', σ', β', hR', hst', hkp', hK⟩
    subst hK
    rw [put_st] at hst' hkp'
    exact fin (i + 1) a' w' σ' β' hlt (afterD hD) hR' hst' hkp'

theorem mid_all {st : Nat → St} {vs : Nat → V} {β0 : Hs} {σ0 : Nat → Nat} {w0 : World} {Q : Exit → Act → World → Prop} (hok : drawOk E R N = true)
    (hT : ∀ i, i < R.size → ∃ o, R[i]? = some o ∧ TStep P E R o (st i) (vs i) (st (i + 1))) (hQ : ∀ listed a w, Mid N E R st vs β0 σ0 w0 listed a w → (∀ i, i < R.size → listed.getD i false = true) → Q .normal a w) :
    ∀ (fuel : Nat) (listed : Array Bool) (a : Act) (w : World), (List.range R.size).countP (fun i => !listed.getD i false) ≤ fuel → Mid N E R st vs β0 σ0 w0 listed a w → wpAny P .any R Q fuel listed a w := by
  have hend : ∀ listed a w, Mid N E R st vs β0 σ0 w0 listed a w → Region.ready .any R listed = [] → Q .normal a w := by
    intro listed a w hM hr
    refine hQ listed a w hM ?_
    intro i
    induction i using Nat.strongRecOn with
    | _ i ih =>
      intro hi
      cases hE : listed.getD i false with
      | true => rfl
      | false =>
        exfalso
        have ho : R[i]? = some R[i] := Array.getElem?_eq_getElem hi
        have : i ∈ Region.ready .any R listed := by
          rw [mem_ready]
          have hs : i < listed.size := by rw [hM.size]; exact hi
          refine ⟨by simp [hs] at hE ⊢; exact hE, _, ho, fun e he hb => ?_⟩
          have hon := draw_ok_edge hok ho he hb
          exact ih e.on hon (by omega)
        rw [hr] at this
        simp at this
  intro fuel
  induction fuel with
  | zero =>
    intro listed a w hc hM
    have hnone : Region.ready .any R listed = [] := by
      cases hr : Region.ready .any R listed with
      | nil => rfl
      | cons i l =>
        exfalso
        have hi : i ∈ Region.ready .any R listed := by rw [hr]; simp
        obtain ⟨hun, o, ho, _⟩ := mem_ready.1 hi
        have hlt := (Array.getElem?_eq_some_iff.1 ho).1
        have hs : i < listed.size := by rw [hM.size]; exact hlt
        have hz : (List.range R.size).countP (fun i => !listed.getD i false) = 0 := by omega
        rw [List.countP_eq_zero] at hz
        have := hz i (List.mem_range.2 hlt)
        simp [hs] at hun this
        rw [hun] at this; cases this
    exact ⟨hnone, hend listed a w hM hnone⟩
  | succ fuel ih =>
    intro listed a w hc hM
    refine ⟨hend listed a w hM, fun i hi => ?_⟩
    refine wpOp_mono (fun a' w' hM' => ih _ a' w' ?_ hM') (mid_step hok hT hM hi)
    obtain ⟨hun, o, ho, _⟩ := mem_ready.1 hi
    have hlt := (Array.getElem?_eq_some_iff.1 ho).1
    have hs : i < listed.size := by rw [hM.size]; exact hlt
    have := cnt_lt (fun j => !listed.getD j false) (fun j => !(listed.setIfInBounds i true).getD j false) (List.range R.size) i (fun x hx => by
      by_cases e : x = i
      · subst e; simp [hs] at hx
      · rw [getD_set_ne false (Ne.symm e)] at hx; exact hx) (List.mem_range.2 hlt) (by simp [hs] at hun ⊢; exact hun) (by simp [hs])
    omega

/-- A region whose order is drawn: what holds in the order of the text. -/
theorem aw_draw {id : Nat} {Q : Exit → St → Prop} {s : St} (hmix : P.follows .mixedOrders = true) (hok : drawOk E R N = true) (h : dops P E R R.toList s (Q .normal)) : AW P N (.region id R true) Q s := by
  intro a w σ β hR
  obtain ⟨st, vs, h0, hK, hT⟩ := dops_run R.size 0 (by omega) s h
  have hT' := fun i hi => hT i (Nat.zero_le i) hi
  refine wp_region_any hmix ?_
  have hgd : Grow w σ { w with drawn := w.drawn + 1 } σ := ⟨Nat.le_refl _, rfl, rfl, fun _ _ => ⟨rfl, rfl⟩, hR.S.live⟩
  refine mid_all (N := N) (β0 := β) (σ0 := σ) (w0 := w) hok hT' (fun listed a' w' hM hall => ?_) R.size _ a _ ?_ ?_
  · obtain ⟨m, hm, hmD, σ', β', hsz, hdf, hS, hT2, hst, hkp⟩ := hM.rep
    have hsm : (st R.size).st = (st m).st := by
      have := st_same hT' (i := m) (R.size - m) (by omega) (fun j x h1 h2 h3 => by
        cases hDx : isDx E x.op with
        | false => rfl
        | true => have := (hmD j x h3 hDx).1 (hall j (Array.getElem?_eq_some_iff.1 h3).1); omega)
      rwa [show m + (R.size - m) = R.size from by omega] at this
    rw [h0] at hst hkp
    refine ⟨st R.size, σ', β', ⟨hsz, hdf, by rw [hsm]; exact hS, fun t => ?_⟩, by rw [hsm]; exact hst, by rw [hsm]; exact hkp.tail, hK⟩
    rw [text_look hT' t R.size (Nat.le_refl _), hsm]
    have := hT2 t
    rw [lookE_congr (E' := fun _ => true) R.size (fun j hj _ => hall j hj)] at this
    exact this
  · calc (List.range R.size).countP _ ≤ (List.range R.size).length := List.countP_le_length
      _ = R.size := List.length_range
  · refine ⟨by simp, fun i o e ho hE _ _ => ?_, 0, Nat.zero_le _, fun i o ho _ => ?_, σ, β, hR.size, hR.defers, by rw [h0]; exact hR.S.grow hgd, fun t => ?_, by rw [h0]; exact Step.of_grow hgd, Keep.refl _ _⟩
    · rw [getD_replicate_false] at hE; cases hE
    · rw [getD_replicate_false]; simp
    · have : lookE R vs (fun i => (Array.replicate R.size false).getD i false) (st 0).tm R.size t = look (st 0).tm t := by
        have := lookE_agree (R := R) (vs := vs) (E := fun i => (Array.replicate R.size false).getD i false) (base := (st 0).tm) (t := t) (i := 0) R.size (fun j _ _ => by rw [getD_replicate_false]; simp)
        rw [this, Nat.min_zero]; rfl
      rw [this, h0]
      exact (hR.T t).mono hgd.near (Keep.refl _ _)

end
end Go.Ab
