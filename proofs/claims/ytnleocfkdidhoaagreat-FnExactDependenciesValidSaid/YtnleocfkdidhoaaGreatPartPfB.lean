/-
  SEVERAL TEXTS IN ONE (merged by program): contracts and models, each with its own heading.
-/
import Derived.Test.YtnleocfkdidhoaaGreatPartPfA
import Derived.StillTail
import Derived.Carry
import Derived.WideKeyArgs
import Derived.ProofKit
import Derived.OpenShut
import Derived.WalkKit
import Derived.Test.YtnleocfkdidhoaaGreatChecked
import Derived.Eval
import Derived.KernelRfl
set_option linter.unusedSimpArgs false
set_option linter.unusedVariables false
set_option maxRecDepth 4000
namespace Go.Ab
section
variable {P : Program} {E : Md} {N : Nat} {R : Array Oper}
/-- What holds in the middle of a drawn region: 'listed' tells which operations have run. -/
structure Mid (N : Nat) (E : Md) (R : Array Oper) (st : Nat → St) (vs : Nat → V) (β0 : Hs) (σ0 : Nat → Nat) (w0 : World) (listed : Array Bool) (a : Act) (w : World) : Prop where
  size : listed.size = R.size
  closed : ∀ i o e, R[i]? = some o → listed.getD i false = true → e ∈ o.after → Region.binds .any e = true → listed.getD e.on false = true
  rep : ∃ m, m ≤ R.size ∧ (∀ i o, R[i]? = some o → isDx E o.op = true → (listed.getD i false = true ↔ i < m)) ∧ ∃ σ β, a.tmps.size = N ∧ a.defers = [] ∧ RepS w σ (st m).st β ∧
    (∀ t, RepV w σ (st m).st β (lookE R vs (fun i => listed.getD i false) (st 0).tm R.size t) (a.tmps.getD t undef)) ∧ Step (st 0).st β0 σ0 w0 (st m).st β σ w ∧ Keep (st 0).st β0 (st m).st β
theorem looks_operand {o : Oper} {x : Operand} {t : Nat} (hx : x ∈ o.op.operands) (e : x = .tmp t) : t ∈ o.looksAt R := by
  subst e
  exact List.mem_append_left _ (List.mem_filterMap.2 ⟨.tmp t, by simpa using hx, rfl⟩)
theorem looks_guard {o : Oper} {g d : Nat} {want : Bool} (hg : o.guard = some (g, want)) (hd : dstOf R g = some d) : d ∈ o.looksAt R := by
  refine List.mem_append_right _ ?_
  rw [hg]
  show d ∈ ((R[g]?).bind (·.dst)).toList
  unfold dstOf at hd
  rw [hd]; simp
theorem draw_ok_pair (h : drawOk E R N = true) {i j : Nat} {x y : Oper} (hij : i < j) (hx : R[i]? = some x) (hy : R[j]? = some y) (hc : clash E R x y = true) : ((masks R.toList []).getD j 0).testBit i = true := by
  have hj : j < R.size := (Array.getElem?_eq_some_iff.1 hy).1
  have h1 := List.all_eq_true.1 h j (List.mem_range.2 hj)
  rw [Bool.and_eq_true] at h1
  have h2 := List.all_eq_true.1 h1.2 i (List.mem_range.2 hij)
  rw [hx, hy] at h2
  simp only [hc, Bool.not_true, Bool.or_false] at h2
  exact h2
theorem draw_ok_edge (h : drawOk E R N = true) {i : Nat} {o : Oper} {e : Edge} (ho : R[i]? = some o) (he : e ∈ o.after) (hb : Region.binds .any e = true) : e.on < i := by
  have hj : i < R.size := (Array.getElem?_eq_some_iff.1 ho).1
  have h1 := List.all_eq_true.1 h i (List.mem_range.2 hj)
  rw [Bool.and_eq_true, ho] at h1
  have h2 := h1.1
  simp only [Bool.and_eq_true] at h2
  have h3 := List.all_eq_true.1 h2.1 e (by simpa using he)
  simpa [hb] using h3
theorem draw_ok_dst (h : drawOk E R N = true) {i : Nat} {o : Oper} (ho : R[i]? = some o) : ∀ d, o.dst = some d → d < N := by
  intro d hd
  have hj : i < R.size := (Array.getElem?_eq_some_iff.1 ho).1
  have h1 := List.all_eq_true.1 h i (List.mem_range.2 hj)
  rw [Bool.and_eq_true, ho] at h1
  have h2 := h1.1
  simp only [Bool.and_eq_true, hd] at h2
  simpa using h2.2
theorem apart_symm {x y : Oper} : x.apart R y = y.apart R x := by
  rw [Bool.eq_iff_iff]
  have key : ∀ x y : Oper, x.apart R y = true → y.apart R x = true := fun x y h => by
    obtain ⟨h1, h2, h3⟩ := Oper.apart_spec h
    unfold Oper.apart
    cases hx : x.dst <;> cases hy : y.dst <;> simp
    · rename_i d; exact h3 d hy
    · rename_i d; exact h1 d hx
    · rename_i d d'
      exact ⟨⟨h3 d' hy, fun e => h2 d hx (by rw [hy, e])⟩, h1 d hx⟩
  exact ⟨key x y, key y x⟩
theorem clash0_symm {x y : Oper} : clash0 E R x y = clash0 E R y x := by
  unfold clash0
  rw [apart_symm, Bool.and_comm (isDx E x.op)]
/-- An operand of the operation refers to this object. -/
def refs (tm : List (Nat × V)) (o : Oper) (k : Key) : Prop := ∃ x ∈ o.op.operands, (∃ off, ev tm x = .c (.ptr k off)) ∨ (∃ i off, ev tm x = .c (.eptr k i off)) ∨ ev tm x = .c (.msl k) ∨ ev tm x = .c (.mp k)
/-- What the drawn order may not upset. -/
structure DOk (E : Md) (R : Array Oper) (N : Nat) (st : Nat → St) : Prop where
  edge : ∀ (i : Nat) (o : Oper) (e : Edge), R[i]? = some o → e ∈ o.after → Region.binds .any e = true → e.on < i
  dst : ∀ (i : Nat) (o : Oper), R[i]? = some o → ∀ d, o.dst = some d → d < N
  pair : ∀ (i j : Nat) (x y : Oper), i < j → R[i]? = some x → R[j]? = some y → clash0 E R x y = true → ((masks R.toList []).getD j 0).testBit i = true
  store : ∀ (i j : Nat) (x o : Oper), i ≠ j → R[i]? = some x → R[j]? = some o → isSx E x.op = true → isDx E o.op = false → isCallV o.op = false →
    bitIn R i j = true ∨ ∀ k, refs (st j).tm o k → getO (st (i + 1)).st k = getO (st i).st k
theorem dok_of {st : Nat → St} (h : drawOk E R N = true) : DOk E R N st where
  edge := fun i o e h1 h2 h3 => draw_ok_edge h h1 h2 h3
  dst := fun i o h1 => draw_ok_dst h h1
  pair := fun i j x y hij hx hy hc => draw_ok_pair h hij hx hy (by
    unfold clash0 at hc
    unfold clash
    rw [hc]; rfl)
  store := fun i j x o hij hx ho hs hD hc => .inl (by
    unfold bitIn
    by_cases e : i < j
    · rw [if_pos e]
      exact draw_ok_pair h e hx ho (by unfold clash; rw [hs]; simp)
    · rw [if_neg e]
      exact draw_ok_pair h (show j < i by omega) ho hx (by unfold clash; rw [hs]; simp))
theorem mid_step {st : Nat → St} {vs : Nat → V} {β0 : Hs} {σ0 : Nat → Nat} {w0 : World} {Q : Exit → Act → World → Prop} (hok : DOk E R N st)
    (hT : ∀ i, i < R.size → ∃ o, R[i]? = some o ∧ TStep P E R o (st i) (vs i) (st (i + 1))) {listed : Array Bool} {a : Act} {w : World} (hM : Mid N E R st vs β0 σ0 w0 listed a w) {i : Nat} (hi : i ∈ Region.ready .any R listed) :
    wpOp P R Q i (fun a' w' => Mid N E R st vs β0 σ0 w0 (listed.setIfInBounds i true) a' w') a w := by
  obtain ⟨hun, o, ho, hedges⟩ := mem_ready.1 hi
  have hlt : i < R.size := (Array.getElem?_eq_some_iff.1 ho).1
  obtain ⟨o', ho', ht⟩ := hT i hlt
  rw [ho] at ho'; cases ho'
  have hunf : listed.getD i false = false := by
    have hs : i < listed.size := by rw [hM.size]; exact hlt
    simp [hs] at hun ⊢; exact hun
  obtain ⟨m, hm, hmD, σ, β, hsz, hdf, hS, hrT, hst, hkp⟩ := hM.rep
  have hdn := hok.dst i o ho
  -- what is in order with it and comes before in the text has run; what comes after has not
  have hbit : ∀ j x, R[j]? = some x → j ≠ i → bitIn R j i = true → (listed.getD j false = true ↔ j < i) := by
    intro j x hx hne hc
    unfold bitIn at hc
    constructor
    · intro hE
      rcases Nat.lt_or_ge j i with h | h
      · exact h
      · exfalso
        rw [if_neg (by omega)] at hc
        have := mask_done (fun k => listed.getD k false = true) hM.closed hok.edge j x hx (fun e he hb => hM.closed j x e hx hE he hb) i hc
        rw [hunf] at this; cases this
    · intro hji
      rw [if_pos hji] at hc
      exact mask_done (fun k => listed.getD k false = true) hM.closed hok.edge i o ho (fun e he hb => hedges e he hb) j hc
  have hdone : ∀ j x, R[j]? = some x → j ≠ i → clash0 E R x o = true → (listed.getD j false = true ↔ j < i) := by
    intro j x hx hne hc
    refine hbit j x hx hne ?_
    unfold bitIn
    by_cases e : j < i
    · rw [if_pos e]; exact hok.pair j i x o e hx ho hc
    · rw [if_neg e]; exact hok.pair i j o x (by omega) ho hx (by rw [clash0_symm]; exact hc)
  -- what it looks at is as in the text
  have hlook : ∀ t ∈ o.looksAt R, lookE R vs (fun i => listed.getD i false) (st 0).tm R.size t = look (st i).tm t := by
    intro t htl
    rw [text_look hT t i (by omega)]
    have := lookE_agree (R := R) (vs := vs) (E := fun i => listed.getD i false) (base := (st 0).tm) (t := t) (i := i) R.size (fun j hj hd => by
      by_cases e : j = i
      · subst e; rw [hunf]; simp
      · obtain ⟨x, hx⟩ : ∃ x, R[j]? = some x := ⟨_, Array.getElem?_eq_getElem hj⟩
        refine hdone j x hx e ?_
        have hxd : x.dst = some t := by simpa [dstOf, hx] using hd
        have : x.apart R o = false := by
          cases hap : x.apart R o with
          | false => rfl
          | true => exact absurd htl ((Oper.apart_spec hap).1 t hxd)
        simp [clash0, this])
    rw [this, show min R.size i = i from by omega]
  -- the temporaries as a list
  obtain ⟨tmE, htmE⟩ : ∃ tmE : List (Nat × V), ∀ t, look tmE t = lookE R vs (fun i => listed.getD i false) (st 0).tm R.size t := by
    have : ∀ n, ∃ tmE : List (Nat × V), ∀ t, look tmE t = lookE R vs (fun i => listed.getD i false) (st 0).tm n t := by
      intro n
      induction n with
      | zero => exact ⟨(st 0).tm, fun t => rfl⟩
      | succ n ih =>
        obtain ⟨tm, h⟩ := ih
        by_cases hE : listed.getD n false = true
        · cases hd : dstOf R n with
          | none => exact ⟨tm, fun t => by rw [lookE, if_neg (fun x => by rw [hd] at x; cases x.2)]; exact h t⟩
          | some d =>
            refine ⟨(n |> vs |> fun v => (d, v)) :: tm, fun t => ?_⟩
            rw [lookE, look, hd, h t]
            by_cases e : d = t
            · rw [if_pos e, if_pos ⟨hE, by rw [e]⟩]
            · rw [if_neg e, if_neg (fun x => e (Option.some.inj x.2))]
        · exact ⟨tm, fun t => by rw [lookE, if_neg (fun x => hE x.1)]; exact h t⟩
    exact this R.size
  have hR : Rep N ⟨tmE, (st m).st⟩ a w σ β := ⟨hsz, hdf, hS, fun t => by show RepV w σ (st m).st β (look tmE t) _; rw [htmE]; exact hrT t⟩
  have hev : ∀ x ∈ o.op.operands, ev (st i).tm x = ev tmE x := by
    intro x hx
    cases x with
    | tmp t => show look _ t = look _ t; rw [htmE, hlook t (looks_operand hx rfl)]
    | _ => rfl
  have hgd : gd R o tmE = gd R o (st i).tm := by
    unfold gd
    cases hg : o.guard with
    | none => rfl
    | some gw =>
      obtain ⟨g, want⟩ := gw
      simp only
      cases hd : dstOf R g with
      | none => rfl
      | some d =>
        simp only [Option.map_some]
        rw [htmE, hlook d (looks_guard hg hd)]
  -- closing the new listing
  have hclosed' : ∀ j x e, R[j]? = some x → (listed.setIfInBounds i true).getD j false = true → e ∈ x.after → Region.binds .any e = true → (listed.setIfInBounds i true).getD e.on false = true := by
    intro j x e hx hE he hb
    by_cases hji : j = i
    · subst hji
      rw [ho] at hx; cases hx
      exact getD_set_true (hedges e he hb)
    · rw [getD_set_ne false (Ne.symm hji)] at hE
      exact getD_set_true (hM.closed j x e hx hE he hb)
  have hset : (listed.setIfInBounds i true).getD i false = true := by
    have hs : i < listed.size := by rw [hM.size]; exact hlt
    simp [hs]
  -- the temporaries behind the step
  have hlk : ∀ (S' : Store) (t : Nat), lookE R vs (fun i_1 => (listed.setIfInBounds i true).getD i_1 false) (st 0).tm R.size t = look (St.put ⟨tmE, S'⟩ o.dst (vs i)).tm t := by
    intro S' t
    by_cases hd : o.dst = some t
    · have hdi : dstOf R i = some t := by simp [dstOf, ho, hd]
      rw [lookE_last (E := fun i_1 => (listed.setIfInBounds i true).getD i_1 false) hset hdi R.size hlt (fun j hj hij hdj => by
        obtain ⟨x, hx⟩ : ∃ x, R[j]? = some x := ⟨_, Array.getElem?_eq_getElem hj⟩
        have hxd : x.dst = some t := by simpa [dstOf, hx] using hdj
        have hap : x.apart R o = false := by
          cases hap : x.apart R o with
          | false => rfl
          | true => exact absurd hd ((Oper.apart_spec hap).2.1 t hxd)
        have := hdone j x hx (by omega) (by simp [clash0, hap])
        rw [getD_set_ne false (by omega)]
        cases hE : listed.getD j false with
        | false => rfl
        | true => exact absurd (this.1 hE) (by omega))]
      rw [hd]
      simp [St.put, look]
    · have hdi : dstOf R i ≠ some t := by simp only [dstOf, ho, Option.bind_some]; exact hd
      rw [lookE_congr (E' := fun i => listed.getD i false) R.size (fun j hj hdj => by
        have hji : j ≠ i := fun e => hdi (e ▸ hdj)
        exact getD_set_ne false (Ne.symm hji)), ← htmE t]
      cases hdd : o.dst with
      | none => rfl
      | some d =>
        have hne : d ≠ t := fun e => hd (by rw [hdd, e])
        simp [St.put, look, hne]
  have fin : ∀ (m' : Nat) (a' : Act) (w' : World) (σ' : Nat → Nat) (β' : Hs), m' ≤ R.size → (∀ j x, R[j]? = some x → isDx E x.op = true → ((listed.setIfInBounds i true).getD j false = true ↔ j < m')) →
      Rep N (St.put ⟨tmE, (st m').st⟩ o.dst (vs i)) a' w' σ' β' → Step (st m).st β σ w (st m').st β' σ' w' → Keep (st m).st β (st m').st β' → Mid N E R st vs β0 σ0 w0 (listed.setIfInBounds i true) a' w' := by
    intro m' a' w' σ' β' hm' hD' hR' hst' hkp'
    have hS' := hR'.S
    have hT' := hR'.T
    rw [put_st] at hS' hT'
    exact ⟨by simpa using hM.size, hclosed', m', hm', hD', σ', β', hR'.size, hR'.defers, hS', fun t => by rw [hlk (st m').st t]; exact hT' t, hst.trans hst', hkp.trans hkp'⟩
  have keepD : isDx E o.op = false → ∀ j x, R[j]? = some x → isDx E x.op = true → ((listed.setIfInBounds i true).getD j false = true ↔ j < m) := by
    intro hD j x hx hDx
    have hji : j ≠ i := fun e => by rw [e, ho] at hx; cases hx; rw [hD] at hDx; cases hDx
    rw [getD_set_ne false (Ne.symm hji)]
    exact hmD j x hx hDx
  -- an operation that leaves the objects alone
  have quiet : ∀ (w' : World) (σ' : Nat → Nat) (v : Value), isDx E o.op = false → Grow w σ w' σ' → RepV w' σ' (st m).st β (vs i) v → Mid N E R st vs β0 σ0 w0 (listed.setIfInBounds i true) (a.put o.dst v) w' := by
    intro w' σ' v hD hg hv
    exact fin m _ w' σ' β hm (keepD hD) (rep_put hdn hsz hdf (hS.grow hg) (hR.T.mono hg.near (Keep.refl _ _)) hv) (Step.of_grow hg) (Keep.refl _ _)
  -- where the objects stand
  have hDs : isDx E o.op = true → ∀ j x, R[j]? = some x → isDx E x.op = true → (listed.getD j false = true ↔ j < i) := by
    intro hD j x hx hDx
    by_cases e : j = i
    · subst e; rw [hunf]; simp
    · exact hdone j x hx e (by simp [clash0, hD, hDx])
  have hsame : isDx E o.op = true → (st m).st = (st i).st := by
    intro hD
    have hno : ∀ j x, R[j]? = some x → (i ≤ j ∧ j < m ∨ m ≤ j ∧ j < i) → isDx E x.op = false := by
      intro j x hx hj
      cases hDx : isDx E x.op with
      | false => rfl
      | true =>
        have h1 := hDs hD j x hx hDx
        have h2 := hmD j x hx hDx
        rcases hj with hj | hj
        · have := h1.1 (h2.2 hj.2); omega
        · have := h2.1 (h1.2 hj.2); omega
    rcases Nat.le_total i m with h | h
    · have := st_same hT (i := i) (m - i) (by omega) (fun j x h1 h2 h3 => hno j x h3 (.inl ⟨h1, by omega⟩))
      rwa [show i + (m - i) = m from by omega] at this
    · have := st_same hT (i := m) (i - m) (by omega) (fun j x h1 h2 h3 => hno j x h3 (.inr ⟨h1, by omega⟩))
      rw [show m + (i - m) = i from by omega] at this
      exact this.symm
  have afterD : isDx E o.op = true → ∀ j x, R[j]? = some x → isDx E x.op = true → ((listed.setIfInBounds i true).getD j false = true ↔ j < i + 1) := by
    intro hD j x hx hDx
    by_cases e : j = i
    · subst e; rw [hset]; simp
    · rw [getD_set_ne false (Ne.symm e), hDs hD j x hx hDx]; omega
  unfold wpOp
  rw [ho]
  simp only
  have hRR : Rep N ⟨tmE, (st m).st⟩ a w σ β := hR
  rcases ht with ⟨hg, hv, hs'⟩ | ⟨hg, hD, hv, hs'⟩ | ⟨hg, hD, hx, hs', _⟩
  · -- left out
    have hw : Region.wanted o (yielded R a.tmps) = false := by
      rw [← hgd] at hg
      unfold gd at hg
      split at hg
      · cases hg
      · rename_i j want hgu
        split at hg
        · rename_i x hx
          have hy := yielded_bool (s := ⟨tmE, (st m).st⟩) hRR hx
          have hne : x ≠ want := by
            intro e
            rw [e] at hg
            simp at hg
          simp [Region.wanted, hgu, hy, hne]
        · rename_i hx
          have hy := yielded_undef (s := ⟨tmE, (st m).st⟩) hRR hx
          simp [Region.wanted, hgu, hy]
        · cases hg
    rw [if_neg (by rw [hw]; simp)]
    have hvu : RepV w σ (st m).st β (vs i) undef := by rw [hv]; exact undef_rep
    by_cases hD : isDx E o.op = true
    · have hsm := hsame hD
      have hs1 : (st (i + 1)).st = (st m).st := by rw [hsm, hs']; cases o.dst <;> rfl
      refine fin (i + 1) _ w σ β hlt (afterD hD) (by rw [hs1]; exact rep_put hdn hsz hdf hS hR.T hvu) (by rw [hs1]; exact Step.of_grow (Grow.refl hS.live)) (by rw [hs1]; exact Keep.refl _ _)
    · exact quiet w σ undef (by simpa using hD) (Grow.refl hS.live) hvu
  all_goals
    have hw : Region.wanted o (yielded R a.tmps) = true := by
      rw [← hgd] at hg
      unfold gd at hg
      split at hg
      · rename_i hgu; simp [Region.wanted, hgu]
      · rename_i j want hgu
        split at hg
        · rename_i x hx
          have hy := yielded_bool (s := ⟨tmE, (st m).st⟩) hRR hx
          simp at hg
          simp [Region.wanted, hgu, hy, hg]
        · cases hg
        · cases hg
    rw [if_pos hw]
    left
  · -- a quiet one
    rcases hv with ⟨c, hc, hcn⟩ | ⟨hcond, hval⟩
    · have hcn' := callN_tm (tm' := tmE) (fun x hx => hev x (by rw [hc]; exact hx)) hcn
      unfold callN at hcn'
      split at hcn'
      · rename_i x hcx
        split at hcn'
        · rename_i f caps hex
          have hcall : callW P c ⟨tmE, (st m).st⟩ o.dst (fun t => t = St.put ⟨tmE, (st m).st⟩ o.dst (vs i)) := by
            unfold callW
            rw [hcx]
            simp only [hex]
            exact .inl ⟨_, hcn' (st m).st, fun r S' hp => by rw [hp.1, hp.2]⟩
          refine Oper.wp_mono ?_ (call_sound (Q := Q) hc hdn hRR hcall)
          rintro a' w' ⟨s'', σ', β', hR', hst', hkp', hK⟩
          subst hK
          rw [put_st] at hst' hkp'
          exact fin m a' w' σ' β' hm (keepD hD) hR' hst' hkp'
        · exact hcn'.elim
      · exact hcn'.elim
    · have hcv : isCallV o.op = false := by
        cases hc : isCallV o.op with
        | false => rfl
        | true =>
          exfalso
          unfold isCallV at hc
          split at hc
          · rename_i x b c hop
            rw [hop] at hcond
            exact no_false hcond
          · cases hc
      have hnost : ∀ k, refs (st i).tm o k → ∀ j x, R[j]? = some x → (i ≤ j ∧ j < m ∨ m ≤ j ∧ j < i) → isSx E x.op = false ∨ getO (st (j + 1)).st k = getO (st j).st k := by
        intro k hk j x hx hj
        cases hs : isSx E x.op with
        | false => exact .inl rfl
        | true =>
          have hDx : isDx E x.op = true := isSx_isDx hs
          have hji : j ≠ i := fun e => by rw [e, ho] at hx; cases hx; rw [hD] at hDx; cases hDx
          rcases hok.store j i x o hji hx ho hs hD hcv with hb | hb
          · have h1 := hbit j x hx hji hb
            have h2 := hmD j x hx hDx
            rcases hj with hj | hj
            · have := h1.1 (h2.2 hj.2); omega
            · have := h2.1 (h1.2 hj.2); omega
          · exact .inr (hb k hk)
      have e1 := nval_tm (P := P) (S := (st i).st) (tm := (st i).tm) (tm' := tmE) (op := o.op) hev
      rw [e1] at hcond hval
      have e2 := nval_fix (P := P) (S := (st i).st) (S' := (st m).st) (tm := tmE) (op := o.op) hcond (by
        intro x hx k hk ob hob hbr
        have hrf : refs (st i).tm o k := ⟨x, hx, by rw [hev x hx]; exact hk⟩
        rcases Nat.le_total i m with h | h
        · have hds := st_ks hT (i := i) (k := k) (m - i) (by omega) (fun j x h1 h2 h3 => hnost k hrf j x h3 (.inl ⟨h1, by omega⟩))
          rw [show i + (m - i) = m from by omega] at hds
          rcases hds ob hob with h' | ⟨⟨z, es, e⟩, _⟩
          · exact h'
          · rw [e] at hbr; exact hbr.elim
        · have hds := st_ks hT (i := m) (k := k) (i - m) (by omega) (fun j x h1 h2 h3 => hnost k hrf j x h3 (.inr ⟨h1, by omega⟩))
          rw [show m + (i - m) = i from by omega] at hds
          have hrx := rep_ev (a := a) hR.T x
          have hin : ∃ o', getO (st m).st k = some o' := by
            rcases hk with ⟨off, e⟩ | ⟨i', off, e⟩ | e | e <;> rw [show ev (⟨tmE, (st m).st⟩ : St).tm x = ev tmE x from rfl, e] at hrx <;> obtain ⟨⟨o', ho', _⟩, _⟩ := hrx <;> exact ⟨o', ho'⟩
          obtain ⟨o', ho'⟩ := hin
          rcases hds o' ho' with h' | ⟨_, z, es, h'⟩
          · rw [hob] at h'; cases h'; exact ho'
          · rw [hob] at h'; cases h'
            exact hbr.elim)
      rw [← e2] at hcond hval
      obtain ⟨v, w', σ', hrun, hgr, hrv⟩ := nval_sound (P := P) o hS hR.T hcond
      unfold Oper.wp
      rw [hrun]
      exact quiet w' σ' v hD hgr (by rw [hval]; exact hrv)
  · have hsm := hsame hD
    have hx' : execW P o ⟨(st i).tm, (st i).st⟩ (fun t => t = St.put ⟨(st i).tm, (st (i + 1)).st⟩ o.dst (vs i)) := by
      rw [hs'] at hx
      exact hx
    have hx2 := execX_tm hD hev hx'
    rw [← hsm] at hx2
    refine Oper.wp_mono ?_ (exec_sound (Q := Q) hdn hRR hx2)
    rintro a' w' ⟨s'', σ', β', hR', hst', hkp', hK⟩
    subst hK
    rw [put_st] at hst' hkp'
    exact fin (i + 1) a' w' σ' β' hlt (afterD hD) hR' hst' hkp'
theorem mid_all {st : Nat → St} {vs : Nat → V} {β0 : Hs} {σ0 : Nat → Nat} {w0 : World} {Q : Exit → Act → World → Prop} (hok : DOk E R N st)
    (hT : ∀ i, i < R.size → ∃ o, R[i]? = some o ∧ TStep P E R o (st i) (vs i) (st (i + 1))) (hQ : ∀ listed a w, Mid N E R st vs β0 σ0 w0 listed a w → (∀ i, i < R.size → listed.getD i false = true) → Q .normal a w) :
    ∀ (fuel : Nat) (listed : Array Bool) (a : Act) (w : World), (List.range R.size).countP (fun i => !listed.getD i false) ≤ fuel → Mid N E R st vs β0 σ0 w0 listed a w → wpAny P .any R Q fuel listed a w := by
  have hend : ∀ listed a w, Mid N E R st vs β0 σ0 w0 listed a w → Region.ready .any R listed = [] → Q .normal a w := by
    intro listed a w hM hr
    refine hQ listed a w hM ?_
    intro i
    induction i using Nat.strongRecOn with
    | _ i ih =>
      intro hi
      cases hE : listed.getD i false with
      | true => rfl
      | false =>
        exfalso
        have ho : R[i]? = some R[i] := Array.getElem?_eq_getElem hi
        have : i ∈ Region.ready .any R listed := by
          rw [mem_ready]
          have hs : i < listed.size := by rw [hM.size]; exact hi
          refine ⟨by simp [hs] at hE ⊢; exact hE, _, ho, fun e he hb => ?_⟩
          have hon := hok.edge i _ e ho he hb
          exact ih e.on hon (by omega)
        rw [hr] at this
        simp at this
  intro fuel
  induction fuel with
  | zero =>
    intro listed a w hc hM
    have hnone : Region.ready .any R listed = [] := by
      cases hr : Region.ready .any R listed with
      | nil => rfl
      | cons i l =>
        exfalso
        have hi : i ∈ Region.ready .any R listed := by rw [hr]; simp
        obtain ⟨hun, o, ho, _⟩ := mem_ready.1 hi
        have hlt := (Array.getElem?_eq_some_iff.1 ho).1
        have hs : i < listed.size := by rw [hM.size]; exact hlt
        have hz : (List.range R.size).countP (fun i => !listed.getD i false) = 0 := by omega
        rw [List.countP_eq_zero] at hz
        have := hz i (List.mem_range.2 hlt)
        simp [hs] at hun this
        rw [hun] at this; cases this
    exact ⟨hnone, hend listed a w hM hnone⟩
  | succ fuel ih =>
    intro listed a w hc hM
    refine ⟨hend listed a w hM, fun i hi => ?_⟩
    refine wpOp_mono (fun a' w' hM' => ih _ a' w' ?_ hM') (mid_step hok hT hM hi)
    obtain ⟨hun, o, ho, _⟩ := mem_ready.1 hi
    have hlt := (Array.getElem?_eq_some_iff.1 ho).1
    have hs : i < listed.size := by rw [hM.size]; exact hlt
    have := cnt_lt (fun j => !listed.getD j false) (fun j => !(listed.setIfInBounds i true).getD j false) (List.range R.size) i (fun x hx => by
      by_cases e : x = i
      · subst e; simp [hs] at hx
      · rw [getD_set_ne false (Ne.symm e)] at hx; exact hx) (List.mem_range.2 hlt) (by simp [hs] at hun ⊢; exact hun) (by simp [hs])
    omega
/-- A region whose order is drawn: what holds in the order of the text. -/
theorem aw_draw0 {id : Nat} {Q : Exit → St → Prop} {s : St} (hmix : P.follows .mixedOrders = true) {st : Nat → St} {vs : Nat → V} (h0 : st 0 = s) (hK : Q .normal (st R.size))
    (hT' : ∀ i, i < R.size → ∃ o, R[i]? = some o ∧ TStep P E R o (st i) (vs i) (st (i + 1))) (hok : DOk E R N st) : AW P N (.region id R true) Q s := by
  intro a w σ β hR
  refine wp_region_any hmix ?_
  have hgd : Grow w σ { w with drawn := w.drawn + 1 } σ := ⟨Nat.le_refl _, rfl, rfl, fun _ _ => ⟨rfl, rfl⟩, hR.S.live⟩
  refine mid_all (N := N) (β0 := β) (σ0 := σ) (w0 := w) hok hT' (fun listed a' w' hM hall => ?_) R.size _ a _ ?_ ?_
  · obtain ⟨m, hm, hmD, σ', β', hsz, hdf, hS, hT2, hst, hkp⟩ := hM.rep
    have hsm : (st R.size).st = (st m).st := by
      have := st_same hT' (i := m) (R.size - m) (by omega) (fun j x h1 h2 h3 => by
        cases hDx : isDx E x.op with
        | false => rfl
        | true => have := (hmD j x h3 hDx).1 (hall j (Array.getElem?_eq_some_iff.1 h3).1); omega)
      rwa [show m + (R.size - m) = R.size from by omega] at this
    rw [h0] at hst hkp
    refine ⟨st R.size, σ', β', ⟨hsz, hdf, by rw [hsm]; exact hS, fun t => ?_⟩, by rw [hsm]; exact hst, by rw [hsm]; exact hkp.tail, hK⟩
    rw [text_look hT' t R.size (Nat.le_refl _), hsm]
    have := hT2 t
    rw [lookE_congr (E' := fun _ => true) R.size (fun j hj _ => hall j hj)] at this
    exact this
  · calc (List.range R.size).countP _ ≤ (List.range R.size).length := List.countP_le_length
      _ = R.size := List.length_range
  · refine ⟨by simp, fun i o e ho hE _ _ => ?_, 0, Nat.zero_le _, fun i o ho _ => ?_, σ, β, hR.size, hR.defers, by rw [h0]; exact hR.S.grow hgd, fun t => ?_, by rw [h0]; exact Step.of_grow hgd, Keep.refl _ _⟩
    · rw [getD_replicate_false] at hE; cases hE
    · rw [getD_replicate_false]; simp
    · have : lookE R vs (fun i => (Array.replicate R.size false).getD i false) (st 0).tm R.size t = look (st 0).tm t := by
        have := lookE_agree (R := R) (vs := vs) (E := fun i => (Array.replicate R.size false).getD i false) (base := (st 0).tm) (t := t) (i := 0) R.size (fun j _ _ => by rw [getD_replicate_false]; simp)
        rw [this, Nat.min_zero]; rfl
      rw [this, h0]
      exact (hR.T t).mono hgd.near (Keep.refl _ _)
theorem aw_draw {id : Nat} {Q : Exit → St → Prop} {s : St} (hmix : P.follows .mixedOrders = true) (hok : drawOk E R N = true) (h : dops P E R R.toList s (Q .normal)) : AW P N (.region id R true) Q s := by
  obtain ⟨st, vs, h0, hK, hT⟩ := dops_run R.size 0 (by omega) s h
  exact aw_draw0 hmix h0 hK (fun i hi => hT i (Nat.zero_le i) hi) (dok_of hok)
end
end Go.Ab

namespace Go.Ab
section
variable {P : Program} {w w' : World} {σ σ' : Nat → Nat} {S S' : Store} {β β' : Hs} {N : Nat} {s : St} {a : Act}
/-- Without a step of the machine: another abstract state that fits too. -/
theorem aw_ghost {c : Code} {Q : Exit → St → Prop} {s s' : St} (h : AW P N c Q s')
    (hg : ∀ (a : Act) (w : World) (σ : Nat → Nat) (β : Hs), Rep N s a w σ β → ∃ σ' β', Rep N s' a w σ' β' ∧ Step s.st β σ w s'.st β' σ' w ∧ Keep (tail1 s.st) (tail1 β) (tail1 s'.st) (tail1 β')) : AW P N c Q s := by
  intro a w σ β hR
  obtain ⟨σ', β', hR', hst, hk⟩ := hg a w σ β hR
  refine wp_mono (h a w σ' β' hR') ?_
  rintro e a' w' ⟨s'', σ'', β'', k1, k2, k3, k4⟩
  exact ⟨s'', σ'', β'', k1, hst.trans k2, hk.trans k3, k4⟩
/-- Without a step of the machine: another abstract state fits too. -/
def Ghost (N : Nat) (s s' : St) : Prop := ∀ (a : Act) (w : World) (σ : Nat → Nat) (β : Hs), Rep N s a w σ β → ∃ σ' β', Rep N s' a w σ' β' ∧ Step s.st β σ w s'.st β' σ' w ∧ Keep (tail1 s.st) (tail1 β) (tail1 s'.st) (tail1 β')
theorem Ghost.refl (N : Nat) (s : St) : Ghost N s s := fun a w σ β hR => ⟨σ, β, hR, Step.of_grow (Grow.refl hR.S.live), Keep.refl _ _⟩
theorem Ghost.trans {s s' s'' : St} (h : Ghost N s s') (k : Ghost N s' s'') : Ghost N s s'' := fun a w σ β hR => by
  obtain ⟨σ1, β1, r1, st1, k1⟩ := h a w σ β hR
  obtain ⟨σ2, β2, r2, st2, k2⟩ := k a w σ1 β1 r1
  exact ⟨σ2, β2, r2, st1.trans st2, k1.trans k2⟩
theorem tm_ghost {tm tm' : List (Nat × V)} (hl : ∀ t, look tm' t = look tm t ∨ look tm' t = .any) : Ghost N ⟨tm, S⟩ ⟨tm', S⟩ :=
  fun a w σ β hR => ⟨σ, β, ⟨hR.size, hR.defers, hR.S, fun t => by
    rcases hl t with e | e
    · show RepV w σ S β (look tm' t) _; rw [e]; exact hR.T t
    · show RepV w σ S β (look tm' t) _; rw [e]; trivial⟩, Step.of_grow (Grow.refl hR.S.live), Keep.refl _ _⟩
theorem aw_tm {c : Code} {Q : Exit → St → Prop} {tm tm' : List (Nat × V)} (h : AW P N c Q ⟨tm', S⟩) (hl : ∀ t, look tm' t = look tm t ∨ look tm' t = .any) : AW P N c Q ⟨tm, S⟩ :=
  aw_ghost h fun a w σ β hR => ⟨σ, β, ⟨hR.size, hR.defers, hR.S, fun t => by
    rcases hl t with e | e
    · show RepV w σ S β (look tm' t) _; rw [e]; exact hR.T t
    · show RepV w σ S β (look tm' t) _; rw [e]; trivial⟩, Step.of_grow (Grow.refl hR.S.live), Keep.refl _ _⟩
/-! ### read as plain data -/
def C.bor : C → C
  | .tsl _ es => .d (.sl es)
  | .fsl es => .d (.sl es)
  | c => c
def V.bor : V → V
  | .c x => .c x.bor
  | .agg cs => .agg (cs.map C.bor)
  | v => v
theorem rep_borC {c : C} {v : Value} (h : RepC w σ S β c v) : RepC w σ S β c.bor v := by
  cases c with
  | tsl k es => exact h.1
  | fsl es => exact h.1
  | _ => exact h
theorem rep_borV {x : V} {v : Value} (h : RepV w σ S β x v) : RepV w σ S β x.bor v := by
  cases x with
  | c x => exact ⟨rep_borC h.1, h.2⟩
  | agg cs =>
    obtain ⟨ar, ha, hl, hc⟩ := h
    refine ⟨ar, ha, by simpa using hl, fun j x hx => ?_⟩
    rw [List.getElem?_map] at hx
    cases hcj : cs[j]? with
    | none => rw [hcj] at hx; cases hx
    | some y =>
      rw [hcj] at hx; cases hx
      obtain ⟨v, hv, hr, ho⟩ := hc j y hcj
      exact ⟨v, hv, rep_borC hr, ho⟩
  | _ => exact h
/-- An argument may be told as less than it is. -/
theorem ACall.weaken {f : FuncId} {args args' : List V} {post : V → Store → Prop} (h : ACall P f args' S post) (hl : args.length = args'.length)
    (hw : ∀ (j : Nat) (x y : V), args[j]? = some x → args'[j]? = some y → ∀ w σ β v, RepV w σ S β x v → RepV w σ S β y v) : ACall P f args S post := by
  refine ⟨h.1, fun w σ β vs hS hv => h.2 w σ β vs hS ⟨by rw [← hl]; exact hv.1, fun j y hy => ?_⟩⟩
  have hj := (List.getElem?_eq_some_iff.1 hy).1
  have hx : args[j]? = some (args[j]'(by omega)) := List.getElem?_eq_getElem (by omega)
  obtain ⟨v, h1, h2⟩ := hv.2 j _ hx
  exact ⟨v, h1, hw j _ y hx hy w σ β v h2⟩
theorem ACall.bor {f : FuncId} {args : List V} {post : V → Store → Prop} (h : ACall P f (args.map V.bor) S post) : ACall P f args S post :=
  h.weaken (by simp) fun j x y hx hy w σ β v hr => by
    rw [List.getElem?_map, hx] at hy
    cases hy
    exact rep_borV hr
theorem ACall.mono {f : FuncId} {args : List V} {post post' : V → Store → Prop} (h : ACall P f args S post) (hp : ∀ r S', post r S' → post' r S') : ACall P f args S post' :=
  ⟨h.1, fun w σ β vs hS hv => (h.2 w σ β vs hS hv).mono fun e w' ⟨v, r, S', σ', β', h1, h2, h3, h4, h5, h6⟩ => ⟨v, r, S', σ', β', h1, h2, h3, h4, h5, hp _ _ h6⟩⟩
/-- A call that only computes, as an operation. -/
theorem callW_pure {f : FuncId} {args : List V} {s : St} {dst : Option Nat} {K : St → Prop} {r : V} (h : PCall P f (args.map V.bor) r) (hK : K (St.put s dst r)) : CallW P f args s dst K :=
  .inl ⟨_, (h s.st).bor, fun r' S' hp => by rw [hp.1, hp.2]; exact hK⟩
/-! ### a slice taken over for appending -/
theorem aw_tok {c : Code} {Q : Exit → St → Prop} {tm : List (Nat × V)} {own : List Obj} {Ω : Store} (t esz : Nat) (es : List (List D)) (hv : look tm t = .c (.fsl es)) (hes : ∀ e ∈ es, e.length = esz)
    (h : AW P N c Q ⟨(t, .c (.tsl (0, own.length) es)) :: tm, (own ++ [.tok esz es]) :: Ω⟩) : AW P N c Q ⟨tm, own :: Ω⟩ := by
  refine aw_ghost h fun a w σ β hR => ?_
  obtain ⟨bo, bΩ, rfl, hlen⟩ := frames hR
  have ht := hR.T t
  rw [hv] at ht
  obtain ⟨⟨hd, ad, n, hval⟩, hone⟩ := ht
  have hn : n = es.length := by rw [hval] at hd; cases hd <;> rfl
  have hg : Grow w σ w σ := Grow.refl hR.S.live
  obtain ⟨hS', hk, hst⟩ := hR.S.push (o := .tok esz es) (h := a.tmps.getD t undef) hg hlen ⟨hd, hes, ad, n, by rw [hval, hn], by omega, .inl hn⟩ (fun b hb => by
    rw [hval, hn] at hb
    cases ad <;> simp [blk] at hb)
  refine ⟨σ, _, ⟨hR.size, hR.defers, hS', fun u => ?_⟩, hst, Keep.refl _ _⟩
  show RepV w σ _ _ (if t = u then _ else look tm u) _
  by_cases e : t = u
  · subst e
    rw [if_pos rfl]
    refine ⟨⟨hd, _, getO_push_new _ _ _, fun a b e => ?_⟩, hone⟩
    cases e
    exact ⟨Nat.le_refl _, fun _ => by rw [← hlen, getO_push_new]⟩
  · rw [if_neg e]
    exact (hR.T u).mono (Near.refl _ _) hk
/-! ### objects dropped -/
def refK (n : Nat) (k : Key) : Bool := decide (0 < k.1) || decide (k.2 < n)
def C.refs (n : Nat) : C → Bool
  | .tsl k _ => refK n k
  | .ptr k _ => refK n k
  | .eptr k _ _ => refK n k
  | .msl k => refK n k
  | .mp k => refK n k
  | .fn _ caps => caps.all fun x => refK n x.1
  | _ => true
def V.refs (n : Nat) : V → Bool
  | .c x => x.refs n
  | .agg cs => cs.all (C.refs n)
  | .tup xs => xs.all fun y => y.2.all (C.refs n)
  | .any => true
def Obj.refs (n : Nat) : Obj → Bool
  | .box cs => cs.all (C.refs n)
  | _ => true
theorem getO_take {α : Type} {own : List α} {Ω : List (List α)} {n : Nat} {k : Key} (h : refK n k = true) : getO (own.take n :: Ω) k = getO (own :: Ω) k := by
  obtain ⟨l, j⟩ := k
  cases l with
  | zero =>
    simp [refK] at h
    rw [getO_zero, getO_zero, List.getElem?_take_of_lt h]
  | succ l => rw [getO_succ, getO_succ]
theorem getO_take_some {α : Type} {own : List α} {Ω : List (List α)} {n : Nat} {k : Key} {o : α} (h : getO (own.take n :: Ω) k = some o) : getO (own :: Ω) k = some o ∧ refK n k = true := by
  obtain ⟨l, j⟩ := k
  cases l with
  | zero =>
    rw [getO_zero] at h ⊢
    have hj := (List.getElem?_eq_some_iff.1 h).1
    simp at hj
    rw [List.getElem?_take_of_lt (by omega)] at h
    exact ⟨h, by simp [refK]; omega⟩
  | succ l => rw [getO_succ] at h ⊢; exact ⟨h, by simp [refK]⟩
theorem rep_takeC {own : List Obj} {Ω : Store} {bo : List Value} {bΩ : Hs} {n : Nat} {c : C} {v : Value} (hr : c.refs n = true) (h : RepC w σ (own :: Ω) (bo :: bΩ) c v) : RepC w σ (own.take n :: Ω) (bo.take n :: bΩ) c v := by
  cases c with
  | d x => exact h
  | any => exact h
  | fsl es => exact h
  | rptr cs => exact h
  | tsl k es =>
    obtain ⟨h1, o, ho, h2⟩ := h
    exact ⟨h1, o, (getO_take hr).trans ho, fun a b e => by rw [getO_take hr]; exact h2 a b e⟩
  | ptr k off =>
    obtain ⟨o, ho, h2⟩ := h
    exact ⟨o, (getO_take hr).trans ho, fun a e => by rw [getO_take hr]; exact h2 a e⟩
  | eptr k i off =>
    obtain ⟨o, ho, h2⟩ := h
    exact ⟨o, (getO_take hr).trans ho, fun a b e => by rw [getO_take hr]; exact h2 a b e⟩
  | msl k =>
    obtain ⟨o, ho, h2⟩ := h
    exact ⟨o, (getO_take hr).trans ho, fun a b e => by rw [getO_take hr]; exact h2 a b e⟩
  | mp k =>
    obtain ⟨o, ho, h2⟩ := h
    exact ⟨o, (getO_take hr).trans ho, fun a e => by rw [getO_take hr]; exact h2 a e⟩
  | fn f caps =>
    obtain ⟨vs, hv, hl, h2⟩ := h
    refine ⟨vs, hv, hl, fun j k off e => ?_⟩
    obtain ⟨u, hu, h1c, o, ho, h3⟩ := h2 j k off e
    have hk : refK n k = true := List.all_eq_true.1 hr (k, off) (List.mem_of_getElem? e)
    exact ⟨u, hu, h1c, o, (getO_take hk).trans ho, fun cs e => by rw [getO_take hk]; exact h3 cs e⟩
theorem rep_takeCs {own : List Obj} {Ω : Store} {bo : List Value} {bΩ : Hs} {n : Nat} {cs : List C} {vs : List Value} (hr : cs.all (C.refs n) = true) (h : RepCs w σ (own :: Ω) (bo :: bΩ) cs vs) : RepCs w σ (own.take n :: Ω) (bo.take n :: bΩ) cs vs :=
  ⟨h.1, fun j x hx => let ⟨v, hv, hc, ho⟩ := h.2 j x hx; ⟨v, hv, rep_takeC (List.all_eq_true.1 hr x (List.mem_of_getElem? hx)) hc, ho⟩⟩
theorem rep_takeV {own : List Obj} {Ω : Store} {bo : List Value} {bΩ : Hs} {n : Nat} {x : V} {v : Value} (hr : x.refs n = true) (h : RepV w σ (own :: Ω) (bo :: bΩ) x v) : RepV w σ (own.take n :: Ω) (bo.take n :: bΩ) x v := by
  cases x with
  | c x => exact ⟨rep_takeC hr h.1, h.2⟩
  | agg cs => obtain ⟨ar, ha, hc⟩ := h; exact ⟨ar, ha, rep_takeCs hr hc⟩
  | tup xs =>
    obtain ⟨ar, ha, hl, h2⟩ := h
    refine ⟨ar, ha, hl, fun j y hy => ?_⟩
    obtain ⟨u, hu, h3⟩ := h2 j y hy
    have hy' : y.2.all (C.refs n) = true := List.all_eq_true.1 hr y (List.mem_of_getElem? hy)
    refine ⟨u, hu, ?_⟩
    obtain ⟨b, cs⟩ := y
    cases b with
    | true => obtain ⟨a', e, hcs⟩ := h3; exact ⟨a', e, rep_takeCs hy' hcs⟩
    | false =>
      obtain ⟨x, e, hx, ho⟩ := h3
      subst e
      simp at hy'
      exact ⟨x, rfl, rep_takeC hy' hx, ho⟩
  | any => trivial
def tmRefs (n : Nat) (tm : List (Nat × V)) : Bool := tm.all fun x => x.2.refs n
theorem look_refs {n : Nat} : ∀ (tm : List (Nat × V)) (t : Nat), tmRefs n tm = true → (look tm t).refs n = true
  | [], _, _ => rfl
  | (x, v) :: tm, t, h => by
    simp only [tmRefs, List.all_cons, Bool.and_eq_true] at h
    rw [look]
    split
    · exact h.1
    · exact look_refs tm t h.2
/-- The call's own objects from the n-th on are forgotten; nothing that is kept refers to them. -/
theorem drop_ghost {tm : List (Nat × V)} {own : List Obj} {Ω : Store} (n : Nat) (h1 : tmRefs n tm = true) (h2 : (own.take n).all (Obj.refs n) = true) : Ghost N ⟨tm, own :: Ω⟩ ⟨tm, own.take n :: Ω⟩ := by
  intro a w σ β hR
  obtain ⟨bo, bΩ, rfl, hlen⟩ := frames hR
  have hown : ∀ b, Own (own.take n :: Ω) (bo.take n :: bΩ) b → Own (own :: Ω) (bo :: bΩ) b := by
    rintro b ⟨k, o, hv, e1, e2, e3⟩
    exact ⟨k, o, hv, (getO_take_some e1).1, (getO_take_some e2).1, e3⟩
  refine ⟨σ, bo.take n :: bΩ, ⟨hR.size, hR.defers, ⟨fun k o ho => ?_, fun k k' o o' h1 h2 b e1 e2 e3 e4 e5 e6 => ?_, ⟨by have := hR.S.shape.1; simpa using this, fun l fr hl => ?_⟩, hR.S.live⟩, fun t => rep_takeV (look_refs tm t h1) (hR.T t)⟩,
    ⟨Nat.le_refl _, rfl, rfl, fun _ _ _ => ⟨rfl, rfl⟩, Near.refl _ _, fun b hb => .inl (hown b hb)⟩, Keep.refl _ _⟩
  · obtain ⟨ho', hk⟩ := getO_take_some ho
    obtain ⟨hv, hh, hr⟩ := hR.S.obj k o ho'
    refine ⟨hv, (getO_take hk).trans hh, ?_⟩
    obtain ⟨l, j⟩ := k
    cases l with
    | zero =>
      cases o with
      | dead => trivial
      | box cs =>
        obtain ⟨b, cc, t, e, hb, hs, hc⟩ := hr
        rw [getO_zero] at ho
        have hcs : cs.all (C.refs n) = true := List.all_eq_true.1 h2 (.box cs) (List.mem_of_getElem? ho)
        exact ⟨b, cc, t, e, hb, hs, rep_takeCs hcs hc⟩
      | tok => exact hr
      | mrow => exact hr
      | mp => exact hr
    | succ l => exact hr
  · exact hR.S.apart k k' o o' h1 h2 b (getO_take_some e1).1 (getO_take_some e2).1 e3 (getO_take_some e4).1 (getO_take_some e5).1 e6
  · cases l with
    | zero =>
      simp at hl; subst hl
      exact ⟨_, rfl, by simp [hlen]⟩
    | succ l => exact hR.S.shape.2 (l + 1) fr hl
/-! ### a row made fast -/
def C.frz (j : Nat) (es : List (List D)) : C → C
  | .msl (0, i) => if i = j then .d (.sl es) else .msl (0, i)
  | c => c
def V.frz (j : Nat) (es : List (List D)) : V → V
  | .c x => .c (x.frz j es)
  | .agg cs => .agg (cs.map (C.frz j es))
  | .tup xs => .tup (xs.map fun y => (y.1, y.2.map (C.frz j es)))
  | .any => .any
def Obj.frz (j : Nat) (es : List (List D)) : Obj → Obj
  | .box cs => .box (cs.map (C.frz j es))
  | o => o
theorem look_map {f : V → V} (hf : f .any = .any) : ∀ (tm : List (Nat × V)) (t : Nat), look (tm.map fun x => (x.1, f x.2)) t = f (look tm t)
  | [], _ => hf.symm
  | (x, v) :: tm, t => by
    show (if x = t then f v else look (tm.map fun x => (x.1, f x.2)) t) = f (if x = t then v else look tm t)
    split
    · rfl
    · exact look_map hf tm t
theorem getElem?_frz {own : List Obj} {j : Nat} {es : List (List D)} {i : Nat} : ((own.map (Obj.frz j es)).set j .dead)[i]? = if i = j then (if j < own.length then some .dead else none) else (own[i]?).map (Obj.frz j es) := by
  rw [List.getElem?_set]
  by_cases e : j = i
  · subst e; simp
  · rw [if_neg e, if_neg (Ne.symm e), List.getElem?_map]
theorem frz_rep {tm : List (Nat × V)} {own : List Obj} {Ω : Store} (j : Nat) (esz : Nat) (es : List (List D)) (hj : own[j]? = some (.mrow esz es)) (hR : Rep N ⟨tm, own :: Ω⟩ a w σ β) :
    ∃ σ' β', Rep N ⟨tm.map fun x => (x.1, x.2.frz j es), (own.map (Obj.frz j es)).set j .dead :: Ω⟩ a w σ' β' ∧ Step (own :: Ω) β σ w ((own.map (Obj.frz j es)).set j .dead :: Ω) β' σ' w ∧
      Keep (tail1 (own :: Ω)) (tail1 β) (tail1 ((own.map (Obj.frz j es)).set j .dead :: Ω)) (tail1 β') := by
  obtain ⟨bo, bΩ, rfl, hlen⟩ := frames hR
  obtain ⟨hh, hb, hr⟩ := hR.S.obj (0, j) _ (by rw [getO_zero]; exact hj)
  obtain ⟨b, cc, ty, cap, rfl, hcap, hbc, hσ, hle, hsz, hcells⟩ := hr
  rw [getO_zero] at hb
  let σ' : Nat → Nat := fun x => if x = b then es.length * esz else σ x
  have hn : Near w σ w σ' := by
    intro b1 c1 t1 fz1 e1
    refine ⟨?_, c1, e1, rfl, fun _ _ => rfl⟩
    by_cases e : b1 = b
    · simp only [σ', if_pos e]; rw [e, hσ]; exact Nat.zero_le _
    · simp only [σ', if_neg e]; exact Nat.le_refl _
  have hdata : RepD w σ' (.sl es) (.slice (some ⟨b, 0, none⟩) es.length cap) := by
    have hfl := flat_len es esz hle
    refine .sl b 0 cap esz es (fun i => (cc[i]?).getD undef) cc ty (0, 0) hcap hle hbc (by simp [σ']) (fun i hi => ?_) (fun i d hd => ?_)
    · obtain ⟨v, hv, _⟩ := hcells i _ (List.getElem?_eq_getElem (by omega))
      simp [hv]
    · obtain ⟨v, hv, hr⟩ := hcells i d hd
      simp only [hv, Option.getD_some]
      exact hr.mono hn
  have hlt := lt_of_some hbc
  let own' := (own.map (Obj.frz j es)).set j .dead
  have hget : ∀ i o, own'[i]? = some o → i ≠ j → ∃ o0, own[i]? = some o0 ∧ o = o0.frz j es := by
    intro i o hi hne
    have := getElem?_frz (own := own) (j := j) (es := es) (i := i)
    rw [if_neg hne] at this
    rw [this] at hi
    cases ho : own[i]? with
    | none => rw [ho] at hi; cases hi
    | some o0 => rw [ho] at hi; cases hi; exact ⟨o0, rfl, rfl⟩
  have hdead : own'[j]? = some .dead := by
    have := getElem?_frz (own := own) (j := j) (es := es) (i := j)
    rw [if_pos rfl, if_pos (List.getElem?_eq_some_iff.1 hj).1] at this
    exact this
  have hblk : ∀ o h, blk (Obj.frz j es o) h = blk o h := fun o h => by
    cases o with
    | box cs => cases h <;> first | rfl | (rename_i x; cases x <;> rfl)
    | _ => rfl
  have hget2 : ∀ k o, getO (own' :: Ω) k = some o → (k = (0, j) ∧ o = .dead) ∨ (k ≠ (0, j) ∧ ∃ o0, getO (own :: Ω) k = some o0 ∧ ∀ h, blk o h = blk o0 h) := by
    intro k o hk
    obtain ⟨l, i⟩ := k
    cases l with
    | zero =>
      rw [getO_zero] at hk
      by_cases e : i = j
      · subst e; rw [hdead] at hk; cases hk; exact .inl ⟨rfl, rfl⟩
      · obtain ⟨o0, h1, rfl⟩ := hget i o hk e
        exact .inr ⟨fun x => e (by cases x; rfl), o0, by rw [getO_zero]; exact h1, fun h => hblk o0 h⟩
    | succ l => rw [getO_succ] at hk; exact .inr ⟨by simp, o, by rw [getO_succ]; exact hk, fun _ => rfl⟩
  -- a cell
  have hC : ∀ (c : C) (v : Value), RepC w σ (own :: Ω) (bo :: bΩ) c v → RepC w σ' (own' :: Ω) (bo :: bΩ) (c.frz j es) v := by
    have sh : ∀ k o, getO (own :: Ω) k = some o → ∃ o', getO (own' :: Ω) k = some o' ∧ ((k = (0, j) ∧ o' = .dead) ∨ (k ≠ (0, j) ∧ (o' = o ∨ o' = o.frz j es))) := by
      intro k o hk
      obtain ⟨l, i⟩ := k
      cases l with
      | zero =>
        rw [getO_zero] at hk
        by_cases e : i = j
        · subst e; exact ⟨.dead, by rw [getO_zero]; exact hdead, .inl ⟨rfl, rfl⟩⟩
        · refine ⟨o.frz j es, ?_, .inr ⟨fun x => e (by cases x; rfl), .inr rfl⟩⟩
          rw [getO_zero]
          show own'[i]? = _
          rw [getElem?_frz, if_neg e, hk]; rfl
      | succ l => exact ⟨o, by rw [getO_succ] at hk ⊢; exact hk, .inr ⟨by simp, .inl rfl⟩⟩
    intro c v hc
    cases c with
    | d x => exact RepD.mono hn hc
    | any => trivial
    | fsl es' => exact ⟨RepD.mono hn hc.1, hc.2⟩
    | rptr cs => obtain ⟨ad, h1, h2⟩ := hc; exact ⟨ad, h1, h2.mono hn⟩
    | tsl k es' =>
      obtain ⟨h1, o, ho, h2⟩ := hc
      obtain ⟨o', ho', hcase⟩ := sh k o ho
      refine ⟨RepD.mono hn h1, o', ho', fun z e4 e => ?_⟩
      rcases hcase with ⟨_, e'⟩ | ⟨_, e' | e'⟩
      · rw [e'] at e; cases e
      · rw [e'] at e; exact h2 z e4 e
      · rw [e'] at e; cases o <;> simp [Obj.frz] at e; obtain ⟨rfl, rfl⟩ := e; exact h2 _ _ rfl
    | ptr k off =>
      obtain ⟨o, ho, h2⟩ := hc
      obtain ⟨o', ho', hcase⟩ := sh k o ho
      refine ⟨o', ho', fun cs e => ?_⟩
      rcases hcase with ⟨_, e'⟩ | ⟨_, e' | e'⟩
      · rw [e'] at e; cases e
      · rw [e'] at e; exact h2 cs e
      · rw [e'] at e; cases o <;> simp [Obj.frz] at e; exact h2 _ rfl
    | eptr k i off =>
      obtain ⟨o, ho, h2⟩ := hc
      obtain ⟨o', ho', hcase⟩ := sh k o ho
      refine ⟨o', ho', fun z e4 e => ?_⟩
      rcases hcase with ⟨_, e'⟩ | ⟨_, e' | e'⟩
      · rw [e'] at e; cases e
      · rw [e'] at e; exact h2 z e4 e
      · rw [e'] at e; cases o <;> simp [Obj.frz] at e; obtain ⟨rfl, rfl⟩ := e; exact h2 _ _ rfl
    | msl k =>
      obtain ⟨o, ho, h2⟩ := hc
      obtain ⟨o', ho', hcase⟩ := sh k o ho
      by_cases hk : k = (0, j)
      · subst hk
        rw [getO_zero, hj] at ho; cases ho
        have hv := h2 _ _ rfl
        rw [getO_zero, hb] at hv
        cases hv
        simp only [C.frz, if_true]
        exact hdata
      · have hfr : C.frz j es (.msl k) = .msl k := by
          obtain ⟨l, i⟩ := k
          cases l with
          | zero => simp only [C.frz]; rw [if_neg (fun e => hk (by rw [e]))]
          | succ l => rfl
        rw [hfr]
        refine ⟨o', ho', fun z e4 e => ?_⟩
        rcases hcase with ⟨_, e'⟩ | ⟨_, e' | e'⟩
        · rw [e'] at e; cases e
        · rw [e'] at e; exact h2 z e4 e
        · rw [e'] at e; cases o <;> simp [Obj.frz] at e; obtain ⟨rfl, rfl⟩ := e; exact h2 _ _ rfl
    | mp k =>
      obtain ⟨o, ho, h2⟩ := hc
      obtain ⟨o', ho', hcase⟩ := sh k o ho
      refine ⟨o', ho', fun m e => ?_⟩
      rcases hcase with ⟨_, e'⟩ | ⟨_, e' | e'⟩
      · rw [e'] at e; cases e
      · rw [e'] at e; exact h2 m e
      · rw [e'] at e; cases o <;> simp [Obj.frz] at e; exact h2 _ rfl
    | fn f caps =>
      obtain ⟨vs, hv, hl, h2⟩ := hc
      refine ⟨vs, hv, hl, fun i k off e => ?_⟩
      obtain ⟨u, hu, h1c, o, ho, h3⟩ := h2 i k off e
      obtain ⟨o', ho', hcase⟩ := sh k o ho
      refine ⟨u, hu, h1c, o', ho', fun cs e => ?_⟩
      rcases hcase with ⟨_, e'⟩ | ⟨_, e' | e'⟩
      · rw [e'] at e; cases e
      · rw [e'] at e; exact h3 cs e
      · rw [e'] at e; cases o <;> simp [Obj.frz] at e; exact h3 _ rfl
  have hCs : ∀ (cs : List C) (vs : List Value), RepCs w σ (own :: Ω) (bo :: bΩ) cs vs → RepCs w σ' (own' :: Ω) (bo :: bΩ) (cs.map (C.frz j es)) vs := by
    intro cs vs hc
    refine ⟨by simpa using hc.1, fun i x hx => ?_⟩
    rw [List.getElem?_map] at hx
    cases hci : cs[i]? with
    | none => rw [hci] at hx; cases hx
    | some y =>
      rw [hci] at hx; cases hx
      obtain ⟨v, hv, hr, ho⟩ := hc.2 i y hci
      exact ⟨v, hv, hC y v hr, ho⟩
  have hother : ∀ k o h b', k ≠ (0, j) → getO (own :: Ω) k = some o → getO (bo :: bΩ) k = some h → blk o h = some b' → b' ≠ b := by
    intro k o h b' hk e1 e2 e3 e4
    subst e4
    exact hk (hR.S.apart k (0, j) o _ h _ b' e1 e2 e3 (by rw [getO_zero]; exact hj) (by rw [getO_zero]; exact hb) rfl)
  refine ⟨σ', bo :: bΩ, ⟨hR.size, hR.defers, ⟨fun k o ho => ?_, fun k k' o o' h1 h2 b' e1 e2 e3 e4 e5 e6 => ?_, ⟨by have := hR.S.shape.1; simpa using this, fun l fr hl => ?_⟩, fun x => ?_⟩, fun t => ?_⟩, ⟨Nat.le_refl _, rfl, rfl, fun x hx hno => ⟨rfl, ?_⟩, hn, fun x hx => ?_⟩, ?_⟩
  · obtain ⟨l, i⟩ := k
    cases l with
    | zero =>
      rw [getO_zero] at ho
      by_cases e : i = j
      · subst e
        rw [show ((own.map (Obj.frz i es)).set i .dead)[i]? = some .dead from hdead] at ho; cases ho
        exact ⟨_, by rw [getO_zero]; exact hb, trivial⟩
      · obtain ⟨o0, h0, rfl⟩ := hget i o ho e
        obtain ⟨hv, hhv, hr⟩ := hR.S.obj (0, i) o0 (by rw [getO_zero]; exact h0)
        refine ⟨hv, hhv, ?_⟩
        have hbk : ∀ b', blk o0 hv = some b' → b' ≠ b := fun b' e' => hother (0, i) o0 hv b' (fun x => e (by cases x; rfl)) (by rw [getO_zero]; exact h0) hhv e'
        cases o0 with
        | dead => trivial
        | box cs =>
          obtain ⟨b', cc', t', e', hb', hs', hc'⟩ := hr
          subst e'
          exact ⟨b', cc', t', rfl, hb', by simp only [σ', if_neg (hbk b' rfl)]; exact hs', hCs _ _ hc'⟩
        | tok z es' => exact RepObj.mono (S := []) (β := []) (o := (.tok z es')) hn (Keep.refl [] []) (fun b' e' => ⟨rfl, by simp only [σ', if_neg (hbk b' e')]⟩) hr
        | mrow z es' => exact RepObj.mono (S := []) (β := []) (o := (.mrow z es')) hn (Keep.refl [] []) (fun b' e' => ⟨rfl, by simp only [σ', if_neg (hbk b' e')]⟩) hr
        | mp m => exact RepObj.mono (S := []) (β := []) (o := (.mp m)) hn (Keep.refl [] []) (fun b' e' => ⟨rfl, by simp only [σ', if_neg (hbk b' e')]⟩) hr
    | succ l =>
      rw [getO_succ] at ho
      obtain ⟨hv, hhv, hr⟩ := hR.S.obj (l + 1, i) o (by rw [getO_succ]; exact ho)
      refine ⟨hv, hhv, ?_⟩
      have hbk : ∀ b', blk o hv = some b' → b' ≠ b := fun b' e' => hother (l + 1, i) o hv b' (by simp) (by rw [getO_succ]; exact ho) hhv e'
      exact RepObj.mono hn (Keep.refl _ _) (fun b' e' => ⟨rfl, by simp only [σ', if_neg (hbk b' e')]⟩) hr
  · rcases hget2 k o e1 with ⟨rfl, rfl⟩ | ⟨hk, o0, f1, f2⟩
    · cases e3
    · rcases hget2 k' o' e4 with ⟨rfl, rfl⟩ | ⟨hk', o0', g1, g2⟩
      · cases e6
      · exact hR.S.apart k k' o0 o0' h1 h2 b' f1 e2 (by rw [← f2]; exact e3) g1 e5 (by rw [← g2]; exact e6)
  · cases l with
    | zero =>
      simp at hl; subst hl
      exact ⟨_, rfl, by simp [hlen]⟩
    | succ l => exact hR.S.shape.2 (l + 1) fr hl
  · by_cases e : x = b
    · left; omega
    · simp only [σ', if_neg e]; exact hR.S.live x
  · show RepV w σ' (own' :: Ω) (bo :: bΩ) (look (tm.map fun x => (x.1, x.2.frz j es)) t) _
    rw [look_map (f := V.frz j es) rfl]
    have ht := hR.T t
    cases hx : look tm t with
    | c x => rw [hx] at ht; exact ⟨hC x _ ht.1, ht.2⟩
    | agg cs => rw [hx] at ht; obtain ⟨ar, e, hc⟩ := ht; exact ⟨ar, e, hCs _ _ hc⟩
    | tup xs =>
      rw [hx] at ht
      obtain ⟨ar, e, hl, h2⟩ := ht
      refine ⟨ar, e, by simpa using hl, fun i y hy => ?_⟩
      rw [List.getElem?_map] at hy
      cases hxi : xs[i]? with
      | none => rw [hxi] at hy; cases hy
      | some z =>
        rw [hxi] at hy; cases hy
        obtain ⟨u, hu, h3⟩ := h2 i z hxi
        refine ⟨u, hu, ?_⟩
        obtain ⟨bb, cs⟩ := z
        cases bb with
        | true => obtain ⟨a', e', hcs⟩ := h3; exact ⟨a', e', hCs _ _ hcs⟩
        | false =>
          obtain ⟨x, e', hxr, ho⟩ := h3
          subst e'
          exact ⟨_, rfl, hC x _ hxr, ho⟩
    | any => trivial
  · have : x ≠ b := fun e => hno ⟨(0, j), _, _, by rw [getO_zero]; exact hj, by rw [getO_zero]; exact hb, by rw [e]; rfl⟩
    simp only [σ', if_neg this]
  · left
    obtain ⟨k, o, h1, e1, e2, e3⟩ := hx
    rcases hget2 k o e1 with ⟨rfl, rfl⟩ | ⟨hk, o0, f1, f2⟩
    · cases e3
    · exact ⟨k, o0, h1, f1, e2, by rw [← f2]; exact e3⟩
  · exact Keep.refl _ _
/-! ### where a function ends: all rows made fast -/
def frzAt (j : Nat) (s : St) : St :=
  match s.st with
  | own :: Ω => match own[j]? with
    | some (.mrow _ es) => ⟨s.tm.map fun x => (x.1, x.2.frz j es), (own.map (Obj.frz j es)).set j .dead :: Ω⟩
    | _ => s
  | [] => s
def frzUp : Nat → St → St
  | 0, s => s
  | n + 1, s => frzUp n (frzAt n s)
def frzAll (s : St) : St :=
  match s.st with
  | own :: _ => frzUp own.length s
  | [] => s
theorem frzAt_ghost (j : Nat) (s : St) : Ghost N s (frzAt j s) := by
  obtain ⟨tm, st⟩ := s
  cases st with
  | nil => exact Ghost.refl _ _
  | cons own Ω =>
    unfold frzAt
    simp only
    split
    · rename_i z es hj
      exact fun a w σ β hR => frz_rep j z es hj hR
    · exact Ghost.refl _ _
theorem frzUp_ghost : ∀ (n : Nat) (s : St), Ghost N s (frzUp n s)
  | 0, s => Ghost.refl _ _
  | n + 1, s => (frzAt_ghost n s).trans (frzUp_ghost n _)
theorem frzAll_ghost (s : St) : Ghost N s (frzAll s) := by
  unfold frzAll
  split
  · exact frzUp_ghost _ _
  · exact Ghost.refl _ _
/-- At the end of a piece of code, a ghost. -/
theorem aw_end {c : Code} {Q : Exit → St → Prop} {g : St → St} (hg : ∀ s, Ghost N s (g s)) (h : AW P N c (fun e s' => Q e (g s')) s) : AW P N c Q s := by
  intro a w σ β hR
  refine wp_mono (h a w σ β hR) ?_
  rintro e a' w' ⟨s', σ', β', k1, k2, k3, k4⟩
  obtain ⟨σ2, β2, r2, st2, kk2⟩ := hg s' a' w' σ' β' k1
  exact ⟨_, σ2, β2, r2, k2.trans st2, k3.trans kk2, k4⟩
end
end Go.Ab

namespace Go.Ab
section
variable {P : Program} {E : Md} {S S' : Store} {N : Nat} {s : St}
/-! ### values of several operands (no function stands alone, so that simp does not go into it) -/
def lookO (tm : List (Nat × V)) (t : Option Nat) : Option V := t.map (look tm)
theorem lookO_eq {tm : List (Nat × V)} {t : Option Nat} : lookO tm t = t.map (look tm) := rfl
theorem lookO_some {tm : List (Nat × V)} {t : Nat} : lookO tm (some t) = some (look tm t) := rfl
theorem lookO_none {tm : List (Nat × V)} : lookO tm none = none := rfl
def evL (tm : List (Nat × V)) (l : List Operand) : List V := l.map (ev tm)
theorem evL_nil {tm : List (Nat × V)} : evL tm [] = [] := rfl
theorem evL_cons {tm : List (Nat × V)} {x : Operand} {l : List Operand} : evL tm (x :: l) = ev tm x :: evL tm l := rfl
def evO (tm : List (Nat × V)) (x : Option Operand) : Option V := x.map (ev tm)
theorem evO_some {tm : List (Nat × V)} {x : Operand} : evO tm (some x) = some (ev tm x) := rfl
theorem evO_none {tm : List (Nat × V)} : evO tm none = none := rfl
def evP (tm : List (Nat × V)) (l : List (Nat × Operand)) : List (Nat × V) := l.map fun x => (x.1, ev tm x.2)
theorem evP_nil {tm : List (Nat × V)} : evP tm [] = [] := rfl
theorem evP_cons {tm : List (Nat × V)} {i : Nat} {x : Operand} {l : List (Nat × Operand)} : evP tm ((i, x) :: l) = (i, ev tm x) :: evP tm l := rfl
/-! ### conditions -/
/-- Two ways on, by a bool. -/
def Split (x : Bool) (A B : St → Prop) (s : St) : Prop := (x = true → A s) ∧ (x = false → B s)
theorem split2 {x : Bool} {A B : St → Prop} (h1 : x = true → A s) (h2 : x = false → B s) : Split x A B s := ⟨h1, h2⟩
theorem split_true {A B : St → Prop} : Split true A B s = A s := by simp [Split]
theorem split_false {A B : St → Prop} : Split false A B s = B s := by simp [Split]
def putK (dst : Option Nat) (v : V) (K : St → Prop) (s : St) : Prop := K (s.put dst v)
theorem putK_eq {dst : Option Nat} {v : V} {K : St → Prop} : putK dst v K s = K (s.put dst v) := rfl
def execK (P : Program) (o : Oper) (K : St → Prop) (s : St) : Prop := execW P o s K
def dexecK (P : Program) (E : Md) (o : Oper) (K : St → Prop) (s : St) : Prop := dexecW P E o s K
theorem execK_eq {o : Oper} {K : St → Prop} : execK P o K s = execW P o s K := rfl
theorem dexecK_eq {o : Oper} {K : St → Prop} : dexecK P E o K s = dexecW P E o s K := rfl
def guardV (dst : Option Nat) (want : Bool) (A K : St → Prop) (s : St) : Option V → Prop
  | some (.c (.d (.b x))) => match want with
    | true => Split x A (putK dst (.tup []) K) s
    | false => Split x (putK dst (.tup []) K) A s
  | some (.tup []) => K (s.put dst (.tup []))
  | _ => False
theorem guardW_none {R : Array Oper} {dst op ty pos after} {K : St → Prop} : guardW P R ⟨dst, op, ty, pos, after, none⟩ s K = execW P ⟨dst, op, ty, pos, after, none⟩ s K := rfl
theorem guardW_some {R : Array Oper} {dst op ty pos after j want} {K : St → Prop} : guardW P R ⟨dst, op, ty, pos, after, some (j, want)⟩ s K =
    guardV dst want (execK P ⟨dst, op, ty, pos, after, some (j, want)⟩ K) K s (lookO s.tm (dstOf R j)) := by
  show guardW P R _ s K = _
  simp only [guardW, ← lookO_eq]
  generalize lookO s.tm (dstOf R j) = v
  cases v with
  | none => rfl
  | some v =>
    cases v with
    | c x => cases x with
      | d x => cases x with
        | b x => cases want <;> simp [guardV, Split, putK, execK, and_comm]
        | _ => rfl
      | _ => rfl
    | tup l => cases l <;> rfl
    | _ => rfl
theorem dguardW_none {R : Array Oper} {dst op ty pos after} {K : St → Prop} : dguardW P E R ⟨dst, op, ty, pos, after, none⟩ s K = dexecW P E ⟨dst, op, ty, pos, after, none⟩ s K := rfl
theorem dguardW_some {R : Array Oper} {dst op ty pos after j want} {K : St → Prop} : dguardW P E R ⟨dst, op, ty, pos, after, some (j, want)⟩ s K =
    guardV dst want (dexecK P E ⟨dst, op, ty, pos, after, some (j, want)⟩ K) K s (lookO s.tm (dstOf R j)) := by
  simp only [dguardW, ← lookO_eq]
  generalize lookO s.tm (dstOf R j) = v
  cases v with
  | none => rfl
  | some v =>
    cases v with
    | c x => cases x with
      | d x => cases x with
        | b x => cases want <;> simp [guardV, Split, putK, dexecK, and_comm]
        | _ => rfl
      | _ => rfl
    | tup l => cases l <;> rfl
    | _ => rfl
/-! ### what stands behind an operation is left alone -/
@[congr] theorem rops_congr {R : Array Oper} {os : List Oper} {s s' : St} {K : St → Prop} (h2 : s = s') : rops P R os s K = rops P R os s' K := by rw [h2]
@[congr] theorem dops_congr {R : Array Oper} {os : List Oper} {s s' : St} {K : St → Prop} (h2 : s = s') : dops P E R os s K = dops P E R os s' K := by rw [h2]
@[congr] theorem guardW_congr {R : Array Oper} {o : Oper} {s s' : St} {K : St → Prop} (h2 : s = s') : guardW P R o s K = guardW P R o s' K := by rw [h2]
@[congr] theorem dguardW_congr {R : Array Oper} {o : Oper} {s s' : St} {K : St → Prop} (h2 : s = s') : dguardW P E R o s K = dguardW P E R o s' K := by rw [h2]
@[congr] theorem guardV_congr {dst : Option Nat} {want : Bool} {A K : St → Prop} {s s' : St} {v v' : Option V} (h2 : s = s') (h3 : v = v') : guardV dst want A K s v = guardV dst want A K s' v' := by rw [h2, h3]
@[congr] theorem Split_congr {x x' : Bool} {A B : St → Prop} {s s' : St} (h : x = x') (h2 : s = s') : Split x A B s = Split x' A B s' := by rw [h, h2]
@[congr] theorem execW_congr {o : Oper} {s s' : St} {K : St → Prop} (h2 : s = s') : execW P o s K = execW P o s' K := by rw [h2]
@[congr] theorem dexecW_congr {o : Oper} {s s' : St} {K : St → Prop} (h2 : s = s') : dexecW P E o s K = dexecW P E o s' K := by rw [h2]
@[congr] theorem newObj_congr {s s' : St} {dst : Option Nat} {o o' : Obj} {mk : Key → V} {K : St → Prop} (h1 : s = s') (h2 : o = o') : newObj s dst o mk K = newObj s' dst o' mk K := by rw [h1, h2]
@[congr] theorem allocW_congr {t : TypeId} {s s' : St} {dst : Option Nat} {K : St → Prop} (h1 : s = s') : allocW P t s dst K = allocW P t s' dst K := by rw [h1]
@[congr] theorem boxW_congr {v v' : V} {s s' : St} {dst : Option Nat} {K : St → Prop} (h1 : v = v') (h2 : s = s') : boxW v s dst K = boxW v' s' dst K := by rw [h1, h2]
@[congr] theorem storeW_congr {t : TypeId} {a a' x x' : V} {s s' : St} {dst : Option Nat} {K : St → Prop} (h1 : a = a') (h3 : x = x') (h2 : s = s') : storeW P t a x s dst K = storeW P t a' x' s' dst K := by rw [h1, h2, h3]
@[congr] theorem makeW_congr {t : TypeId} {a a' x x' : V} {s s' : St} {dst : Option Nat} {K : St → Prop} (h1 : a = a') (h3 : x = x') (h2 : s = s') : makeW P t a x s dst K = makeW P t a' x' s' dst K := by rw [h1, h2, h3]
@[congr] theorem appendW_congr {t u : TypeId} {a a' x x' : V} {s s' : St} {dst : Option Nat} {K : St → Prop} (h1 : a = a') (h3 : x = x') (h2 : s = s') : appendW P t u a x s dst K = appendW P t u a' x' s' dst K := by rw [h1, h2, h3]
@[congr] theorem mapNewW_congr {s s' : St} {dst : Option Nat} {K : St → Prop} (h2 : s = s') : mapNewW s dst K = mapNewW s' dst K := by rw [h2]
@[congr] theorem mapPutW_congr {t : TypeId} {a a' x x' y y' : V} {s s' : St} {dst : Option Nat} {K : St → Prop} (h1 : a = a') (h3 : x = x') (h4 : y = y') (h2 : s = s') : mapPutW P t a x y s dst K = mapPutW P t a' x' y' s' dst K := by rw [h1, h2, h3, h4]
@[congr] theorem CallW_congr {f : FuncId} {args args' : List V} {s s' : St} {dst : Option Nat} {K : St → Prop} (h1 : args = args') (h2 : s = s') : CallW P f args s dst K = CallW P f args' s' dst K := by rw [h1, h2]
@[congr] theorem callW_congr {c : Call} {s s' : St} {dst : Option Nat} {K : St → Prop} (h2 : s = s') : callW P c s dst K = callW P c s' dst K := by rw [h2]
@[congr] theorem thenK_congr {K : St → Prop} {Q : Exit → St → Prop} {e : Exit} {s s' : St} (h2 : s = s') : thenK K Q e s = thenK K Q e s' := by rw [h2]
/-- A side condition, and what is asked of the value. -/
def nextW (s : St) (dst : Option Nat) (K : St → Prop) (r : R) : Prop := r.1 ∧ K (s.put dst r.2)
@[congr] theorem nextW_congr {s s' : St} {dst : Option Nat} {K : St → Prop} {r r' : R} (h1 : s = s') (h2 : r = r') : nextW s dst K r = nextW s' dst K r' := by rw [h1, h2]
theorem nextW_mk {dst : Option Nat} {K : St → Prop} {p : Prop} {v : V} : nextW s dst K (p, v) = (p ∧ K (s.put dst v)) := rfl
/-! ### calls -/
def capV (caps : List (Key × Nat)) : List V := caps.map fun y => .c (.ptr y.1 y.2)
/-- A call of a function value, in the order of the text. -/
def CallV (P : Program) (fv : V) (args : List V) (s : St) (dst : Option Nat) (K : St → Prop) : Prop :=
  match fv with
  | .c (.fn f caps) => CallW P f (args ++ capV caps) s dst K
  | _ => False
/-- A call in a drawn order: one that comes to one state if E, else one that only computes. -/
def CallN (P : Program) (m : Nat) (f : FuncId) (args : List V) (s : St) (dst : Option Nat) (K : St → Prop) : Prop :=
  match m with
  | 0 => ∃ r, PCall P f args r ∧ K (s.put dst r)
  | 1 => ∃ S' v, DS s.st S' ∧ CallW P f args s dst (fun t => t = St.put ⟨s.tm, S'⟩ dst v) ∧ K (St.put ⟨s.tm, S'⟩ dst v)
  | _ => ∃ S' v, CallW P f args s dst (fun t => t = St.put ⟨s.tm, S'⟩ dst v) ∧ K (St.put ⟨s.tm, S'⟩ dst v)
def CallM (P : Program) (m : Nat) (fv : V) (args : List V) (s : St) (dst : Option Nat) (K : St → Prop) : Prop :=
  match fv with
  | .c (.fn f caps) => CallN P m f (args ++ capV caps) s dst K
  | _ => False
@[congr] theorem CallV_congr {fv fv' : V} {args args' : List V} {s s' : St} {dst : Option Nat} {K : St → Prop} (h1 : fv = fv') (h3 : args = args') (h2 : s = s') : CallV P fv args s dst K = CallV P fv' args' s' dst K := by rw [h1, h2, h3]
@[congr] theorem CallM_congr {m : Nat} {fv fv' : V} {args args' : List V} {s s' : St} {dst : Option Nat} {K : St → Prop} (h1 : fv = fv') (h3 : args = args') (h2 : s = s') : CallM P m fv args s dst K = CallM P m fv' args' s' dst K := by rw [h1, h2, h3]
@[congr] theorem CallN_congr {m : Nat} {f : FuncId} {args args' : List V} {s s' : St} {dst : Option Nat} {K : St → Prop} (h1 : args = args') (h2 : s = s') : CallN P m f args s dst K = CallN P m f args' s' dst K := by rw [h1, h2]
theorem callW_value {x : Operand} {args : Array Operand} {ts : Array TypeId} {dst : Option Nat} {K : St → Prop} : callW P ⟨.value x, args, ts⟩ s dst K = CallV P (ev s.tm x) (evL s.tm args.toList) s dst K := rfl
theorem callW_append {x y : Operand} {t u : TypeId} {dst : Option Nat} {K : St → Prop} : callW P ⟨.builtin .append, #[x, y], #[t, u]⟩ s dst K = appendW P t u (ev s.tm x) (ev s.tm y) s dst K := rfl
theorem callW_len {x : Operand} {t : TypeId} {dst : Option Nat} {K : St → Prop} : callW P ⟨.builtin .len, #[x], #[t]⟩ s dst K = nextW s dst K (lenV P s.st t (ev s.tm x)) := rfl
theorem callW_max {x y : Operand} {ts : Array TypeId} {dst : Option Nat} {K : St → Prop} : callW P ⟨.builtin .max, #[x, y], ts⟩ s dst K = nextW s dst K (maxV true (ev s.tm x) (ev s.tm y)) := rfl
theorem callW_min {x y : Operand} {ts : Array TypeId} {dst : Option Nat} {K : St → Prop} : callW P ⟨.builtin .min, #[x, y], ts⟩ s dst K = nextW s dst K (maxV false (ev s.tm x) (ev s.tm y)) := rfl
theorem nval_len {x : Operand} {t : TypeId} {tm : List (Nat × V)} : nval P S tm (.call ⟨.builtin .len, #[x], #[t]⟩) = lenV P S t (ev tm x) := rfl
/-- A call, in the order of the text (none) or in a drawn one. -/
def CallG (P : Program) (mode : Option Nat) (f : FuncId) (args : List V) (s : St) (dst : Option Nat) (K : St → Prop) : Prop :=
  match mode with
  | some m => CallN P m f args s dst K
  | none => CallW P f args s dst K
@[congr] theorem CallG_congr {dr : Option Nat} {f : FuncId} {args args' : List V} {s s' : St} {dst : Option Nat} {K : St → Prop} (h1 : args = args') (h2 : s = s') : CallG P dr f args s dst K = CallG P dr f args' s' dst K := by rw [h1, h2]
theorem callV_fn {f : Nat} {caps : List (Key × Nat)} {args : List V} {dst : Option Nat} {K : St → Prop} : CallV P (.c (.fn f caps)) args s dst K = CallG P none f (args ++ capV caps) s dst K := rfl
theorem callM_fn {m : Nat} {f : Nat} {caps : List (Key × Nat)} {args : List V} {dst : Option Nat} {K : St → Prop} : CallM P m (.c (.fn f caps)) args s dst K = CallG P (some m) f (args ++ capV caps) s dst K := rfl
/-- A call that only computes, in either order. -/
theorem call_w {dr : Option Nat} {f : FuncId} {args : List V} {dst : Option Nat} {K : St → Prop} {r : V} (h : PCall P f (args.map V.bor) r) (hK : K (s.put dst r)) : CallG P dr f args s dst K := by
  cases dr with
  | none => exact callW_pure h hK
  | some m =>
    match m with
    | 0 => exact ⟨r, fun S => (h S).bor, hK⟩
    | 1 => exact ⟨s.st, r, DS.refl _, callW_pure h rfl, hK⟩
    | m + 2 => exact ⟨s.st, r, callW_pure h rfl, hK⟩
/-- May a call there change the objects? -/
def effOk : Option Nat → Bool
  | none => true
  | some m => decide (2 ≤ m)
/-- May a call there make objects? -/
def newOk : Option Nat → Bool
  | none => true
  | some m => decide (1 ≤ m)
/-- A call that comes to one state. -/
theorem call_d {dr : Option Nat} {f : FuncId} {args : List V} {dst : Option Nat} {K : St → Prop} {r : V} {S1 : Store} (hm : effOk dr = true) (h : ACall P f args s.st (fun r' S' => r' = r ∧ S' = S1)) (hK : K (St.put ⟨s.tm, S1⟩ dst r)) : CallG P dr f args s dst K := by
  cases dr with
  | none => exact .inl ⟨_, h, fun r' S' e => by rw [e.1, e.2]; exact hK⟩
  | some m =>
    match m, hm with
    | 0, hm => cases hm
    | 1, hm => cases hm
    | m + 2, _ => exact ⟨S1, r, .inl ⟨_, h, fun r' S' e => by rw [e.1, e.2]⟩, hK⟩
/-- A call that comes to one state and makes objects alone. -/
theorem call_a {dr : Option Nat} {f : FuncId} {args : List V} {dst : Option Nat} {K : St → Prop} {r : V} {S1 : Store} (hm : newOk dr = true) (hd : DS s.st S1) (h : ACall P f args s.st (fun r' S' => r' = r ∧ S' = S1)) (hK : K (St.put ⟨s.tm, S1⟩ dst r)) : CallG P dr f args s dst K := by
  cases dr with
  | none => exact .inl ⟨_, h, fun r' S' e => by rw [e.1, e.2]; exact hK⟩
  | some m =>
    match m, hm with
    | 0, hm => cases hm
    | 1, _ => exact ⟨S1, r, hd, .inl ⟨_, h, fun r' S' e => by rw [e.1, e.2]⟩, hK⟩
    | m + 2, _ => exact ⟨S1, r, .inl ⟨_, h, fun r' S' e => by rw [e.1, e.2]⟩, hK⟩
/-- A call of a function that the model stands in for. -/
theorem call_x {f : FuncId} {args : List V} {dst : Option Nat} {K : St → Prop} {r : V} (h : XCall P f args r) (hK : K (St.put s dst r)) : CallG P none f args s dst K := .inr ⟨r, h, hK⟩
/-! ### the operations, one at a time -/
def ropsK (P : Program) (R : Array Oper) (os : List Oper) (K : St → Prop) (s : St) : Prop := rops P R os s K
def dopsK (P : Program) (E : Md) (R : Array Oper) (os : List Oper) (K : St → Prop) (s : St) : Prop := dops P E R os s K
@[congr] theorem ropsK_congr {R : Array Oper} {os : List Oper} {s s' : St} {K : St → Prop} (h2 : s = s') : ropsK P R os K s = ropsK P R os K s' := by rw [h2]
@[congr] theorem dopsK_congr {R : Array Oper} {os : List Oper} {s s' : St} {K : St → Prop} (h2 : s = s') : dopsK P E R os K s = dopsK P E R os K s' := by rw [h2]
-- the state is a pair here, so that it is computed before an operation is looked at
section
variable {tm : List (Nat × V)} {R : Array Oper} {o : Oper} {os : List Oper} {K : St → Prop}
theorem rops_nil : rops P R [] ⟨tm, S⟩ K = K ⟨tm, S⟩ := rfl
theorem rops_cons : rops P R (o :: os) ⟨tm, S⟩ K = guardW P R o ⟨tm, S⟩ (ropsK P R os K) := rfl
theorem ropsK_nil : ropsK P R [] K ⟨tm, S⟩ = K ⟨tm, S⟩ := rfl
theorem ropsK_cons : ropsK P R (o :: os) K ⟨tm, S⟩ = guardW P R o ⟨tm, S⟩ (ropsK P R os K) := rfl
theorem dops_nil : dops P E R [] ⟨tm, S⟩ K = K ⟨tm, S⟩ := rfl
theorem dops_cons : dops P E R (o :: os) ⟨tm, S⟩ K = dguardW P E R o ⟨tm, S⟩ (dopsK P E R os K) := rfl
theorem dopsK_nil : dopsK P E R [] K ⟨tm, S⟩ = K ⟨tm, S⟩ := rfl
theorem dopsK_cons : dopsK P E R (o :: os) K ⟨tm, S⟩ = dguardW P E R o ⟨tm, S⟩ (dopsK P E R os K) := rfl
end
section
variable {dst : Option Nat} {ty : TypeId} {pos : String} {after : Array Edge} {g : Option (Nat × Bool)} {K : St → Prop}
theorem exec_alloc {t : TypeId} : execW P ⟨dst, .alloc t, ty, pos, after, g⟩ s K = allocW P t s dst K := rfl
theorem exec_box {t : TypeId} {x : Operand} : execW P ⟨dst, .box t x, ty, pos, after, g⟩ s K = boxW (ev s.tm x) s dst K := rfl
theorem exec_store {t : TypeId} {a x : Operand} : execW P ⟨dst, .store t a x, ty, pos, after, g⟩ s K = storeW P t (ev s.tm a) (ev s.tm x) s dst K := rfl
theorem exec_make {t : TypeId} {a x : Operand} : execW P ⟨dst, .makeSlice t a x, ty, pos, after, g⟩ s K = makeW P t (ev s.tm a) (ev s.tm x) s dst K := rfl
theorem exec_makeMap {t : TypeId} : execW P ⟨dst, .makeMap t none, ty, pos, after, g⟩ s K = mapNewW s dst K := rfl
theorem exec_mapUpdate {t : TypeId} {x k v : Operand} : execW P ⟨dst, .mapUpdate t x k v, ty, pos, after, g⟩ s K = mapPutW P t (ev s.tm x) (ev s.tm k) (ev s.tm v) s dst K := rfl
theorem exec_lookup {t : TypeId} {x i : Operand} : execW P ⟨dst, .lookup t x i false, ty, pos, after, g⟩ s K = nextW s dst K (lookupV P s.st t (ev s.tm x) (ev s.tm i)) := rfl
theorem dexec_makeMap {t : TypeId} : dexecW P E ⟨dst, .makeMap t none, ty, pos, after, g⟩ s K = mapNewW s dst K := rfl
theorem dexec_mapUpdate {t : TypeId} {x k v : Operand} : dexecW P E ⟨dst, .mapUpdate t x k v, ty, pos, after, g⟩ s K = mapPutW P t (ev s.tm x) (ev s.tm k) (ev s.tm v) s dst K := rfl
theorem dexec_lookup {t : TypeId} {x i : Operand} : dexecW P E ⟨dst, .lookup t x i false, ty, pos, after, g⟩ s K = nextW s dst K (lookupV P s.st t (ev s.tm x) (ev s.tm i)) := rfl
theorem exec_call {c : Call} : execW P ⟨dst, .call c, ty, pos, after, g⟩ s K = callW P c s dst K := rfl
theorem exec_move {x : Operand} : execW P ⟨dst, .move x, ty, pos, after, g⟩ s K = K (s.put dst (ev s.tm x)) := by simp [execW, nval]
theorem exec_assign {x : Operand} : execW P ⟨dst, .assign x, ty, pos, after, g⟩ s K = K (s.put dst (ev s.tm x)) := by simp [execW, nval]
theorem exec_pick {c a b : Operand} : execW P ⟨dst, .pick c a b, ty, pos, after, g⟩ s K = nextW s dst K (pickV (ev s.tm c) (ev s.tm a) (ev s.tm b)) := rfl
theorem exec_load {t : TypeId} {a : Operand} : execW P ⟨dst, .load t a, ty, pos, after, g⟩ s K = nextW s dst K (loadV P s.st t (ev s.tm a)) := rfl
theorem exec_fieldAddr {t : TypeId} {x : Operand} {f : Nat} : execW P ⟨dst, .fieldAddr t x f, ty, pos, after, g⟩ s K = nextW s dst K (fieldAddrV P s.st t (ev s.tm x) f) := rfl
theorem exec_field {t : TypeId} {x : Operand} {f : Nat} : execW P ⟨dst, .field t x f, ty, pos, after, g⟩ s K = nextW s dst K (fieldV P t (ev s.tm x) f) := rfl
theorem exec_indexAddr {t : TypeId} {x i : Operand} : execW P ⟨dst, .indexAddr t x i, ty, pos, after, g⟩ s K = nextW s dst K (indexAddrV P s.st t (ev s.tm x) (ev s.tm i)) := rfl
theorem exec_index {t : TypeId} {x i : Operand} : execW P ⟨dst, .index t x i, ty, pos, after, g⟩ s K = nextW s dst K (indexV P t (ev s.tm x) (ev s.tm i)) := rfl
theorem exec_binOp {op : BinOp} {t u : TypeId} {x y : Operand} : execW P ⟨dst, .binOp op t x y u, ty, pos, after, g⟩ s K = nextW s dst K (binV P op t (ev s.tm x) (ev s.tm y)) := rfl
theorem exec_unOp {op : UnOp} {t : TypeId} {x : Operand} : execW P ⟨dst, .unOp op t x, ty, pos, after, g⟩ s K = nextW s dst K (unV op (ev s.tm x)) := rfl
theorem exec_convert {a b : TypeId} {x : Operand} : execW P ⟨dst, .convert a b x, ty, pos, after, g⟩ s K = nextW s dst K (convV P a b (ev s.tm x)) := rfl
theorem exec_extract {x : Operand} {i : Nat} : execW P ⟨dst, .extract x i, ty, pos, after, g⟩ s K = nextW s dst K (extractV (ev s.tm x) i) := rfl
theorem exec_makeFunc {fn : Fn} {a b : Array Operand} : execW P ⟨dst, .makeFunc fn a b, ty, pos, after, g⟩ s K = nextW s dst K (makeFuncV fn (evL s.tm a.toList) (evL s.tm b.toList)) := rfl
theorem exec_nilCheck {x : Operand} : execW P ⟨dst, .nilCheck x, ty, pos, after, g⟩ s K = nextW s dst K (nilCheckV s.st (ev s.tm x)) := rfl
theorem exec_slice {t : TypeId} {x : Operand} {lo hi mx : Option Operand} : execW P ⟨dst, .slice t x lo hi mx, ty, pos, after, g⟩ s K = nextW s dst K (sliceV P t (ev s.tm x) (evO s.tm lo) (evO s.tm hi) (evO s.tm mx)) := rfl
theorem exec_build {t : TypeId} {parts : Array (Nat × Operand)} : execW P ⟨dst, .build t parts, ty, pos, after, g⟩ s K = nextW s dst K (buildV P t (evP s.tm parts.toList)) := rfl
theorem exec_buildSlice {t : TypeId} {n : Nat} {parts : Array (Nat × Operand)} : execW P ⟨dst, .buildSlice t n parts, ty, pos, after, g⟩ s K = nextW s dst K (buildSliceV P t n (evP s.tm parts.toList)) := rfl
theorem dexec_alloc {t : TypeId} : dexecW P E ⟨dst, .alloc t, ty, pos, after, g⟩ s K = allocW P t s dst K := rfl
theorem dexec_box {t : TypeId} {x : Operand} : dexecW P E ⟨dst, .box t x, ty, pos, after, g⟩ s K = boxW (ev s.tm x) s dst K := rfl
theorem dexec_store {t : TypeId} {a x : Operand} : dexecW P E ⟨dst, .store t a x, ty, pos, after, g⟩ s K = storeW P t (ev s.tm a) (ev s.tm x) s dst K := rfl
theorem dexec_make {t : TypeId} {a x : Operand} : dexecW P E ⟨dst, .makeSlice t a x, ty, pos, after, g⟩ s K = makeW P t (ev s.tm a) (ev s.tm x) s dst K := rfl
theorem dexec_append {args : Array Operand} {ts : Array TypeId} : dexecW P E ⟨dst, .call ⟨.builtin .append, args, ts⟩, ty, pos, after, g⟩ s K = callW P ⟨.builtin .append, args, ts⟩ s dst K := rfl
theorem dexec_move {x : Operand} : dexecW P E ⟨dst, .move x, ty, pos, after, g⟩ s K = K (s.put dst (ev s.tm x)) := by simp [dexecW, isD, nval]
theorem dexec_assign {x : Operand} : dexecW P E ⟨dst, .assign x, ty, pos, after, g⟩ s K = K (s.put dst (ev s.tm x)) := by simp [dexecW, isD, nval]
theorem dexec_pick {c a b : Operand} : dexecW P E ⟨dst, .pick c a b, ty, pos, after, g⟩ s K = nextW s dst K (pickV (ev s.tm c) (ev s.tm a) (ev s.tm b)) := rfl
theorem dexec_load {t : TypeId} {a : Operand} : dexecW P E ⟨dst, .load t a, ty, pos, after, g⟩ s K = nextW s dst K (loadV P s.st t (ev s.tm a)) := rfl
theorem dexec_fieldAddr {t : TypeId} {x : Operand} {f : Nat} : dexecW P E ⟨dst, .fieldAddr t x f, ty, pos, after, g⟩ s K = nextW s dst K (fieldAddrV P s.st t (ev s.tm x) f) := rfl
theorem dexec_field {t : TypeId} {x : Operand} {f : Nat} : dexecW P E ⟨dst, .field t x f, ty, pos, after, g⟩ s K = nextW s dst K (fieldV P t (ev s.tm x) f) := rfl
theorem dexec_indexAddr {t : TypeId} {x i : Operand} : dexecW P E ⟨dst, .indexAddr t x i, ty, pos, after, g⟩ s K = nextW s dst K (indexAddrV P s.st t (ev s.tm x) (ev s.tm i)) := rfl
theorem dexec_index {t : TypeId} {x i : Operand} : dexecW P E ⟨dst, .index t x i, ty, pos, after, g⟩ s K = nextW s dst K (indexV P t (ev s.tm x) (ev s.tm i)) := rfl
theorem dexec_binOp {op : BinOp} {t u : TypeId} {x y : Operand} : dexecW P E ⟨dst, .binOp op t x y u, ty, pos, after, g⟩ s K = nextW s dst K (binV P op t (ev s.tm x) (ev s.tm y)) := rfl
theorem dexec_unOp {op : UnOp} {t : TypeId} {x : Operand} : dexecW P E ⟨dst, .unOp op t x, ty, pos, after, g⟩ s K = nextW s dst K (unV op (ev s.tm x)) := rfl
theorem dexec_convert {a b : TypeId} {x : Operand} : dexecW P E ⟨dst, .convert a b x, ty, pos, after, g⟩ s K = nextW s dst K (convV P a b (ev s.tm x)) := rfl
theorem dexec_extract {x : Operand} {i : Nat} : dexecW P E ⟨dst, .extract x i, ty, pos, after, g⟩ s K = nextW s dst K (extractV (ev s.tm x) i) := rfl
theorem dexec_makeFunc {fn : Fn} {a b : Array Operand} : dexecW P E ⟨dst, .makeFunc fn a b, ty, pos, after, g⟩ s K = nextW s dst K (makeFuncV fn (evL s.tm a.toList) (evL s.tm b.toList)) := rfl
theorem dexec_nilCheck {x : Operand} : dexecW P E ⟨dst, .nilCheck x, ty, pos, after, g⟩ s K = nextW s dst K (nilCheckV s.st (ev s.tm x)) := rfl
theorem dexec_slice {t : TypeId} {x : Operand} {lo hi mx : Option Operand} : dexecW P E ⟨dst, .slice t x lo hi mx, ty, pos, after, g⟩ s K = nextW s dst K (sliceV P t (ev s.tm x) (evO s.tm lo) (evO s.tm hi) (evO s.tm mx)) := rfl
theorem dexec_build {t : TypeId} {parts : Array (Nat × Operand)} : dexecW P E ⟨dst, .build t parts, ty, pos, after, g⟩ s K = nextW s dst K (buildV P t (evP s.tm parts.toList)) := rfl
theorem dexec_buildSlice {t : TypeId} {n : Nat} {parts : Array (Nat × Operand)} : dexecW P E ⟨dst, .buildSlice t n parts, ty, pos, after, g⟩ s K = nextW s dst K (buildSliceV P t n (evP s.tm parts.toList)) := rfl
theorem dexec_len {args : Array Operand} {ts : Array TypeId} : dexecW P E ⟨dst, .call ⟨.builtin .len, args, ts⟩, ty, pos, after, g⟩ s K = nextW s dst K (nval P s.st s.tm (.call ⟨.builtin .len, args, ts⟩)) := rfl
theorem dexec_max {x y : Operand} {ts : Array TypeId} : dexecW P E ⟨dst, .call ⟨.builtin .max, #[x, y], ts⟩, ty, pos, after, g⟩ s K = nextW s dst K (maxV true (ev s.tm x) (ev s.tm y)) := rfl
theorem dexec_min {x y : Operand} {ts : Array TypeId} : dexecW P E ⟨dst, .call ⟨.builtin .min, #[x, y], ts⟩, ty, pos, after, g⟩ s K = nextW s dst K (maxV false (ev s.tm x) (ev s.tm y)) := rfl
theorem dexec_call {x : Operand} {args : Array Operand} {ts : Array TypeId} : dexecW P E ⟨dst, .call ⟨.value x, args, ts⟩, ty, pos, after, g⟩ s K = CallM P (E (.call ⟨.value x, args, ts⟩)) (ev s.tm x) (evL s.tm args.toList) s dst K := by
  simp only [dexecW, isD]
  generalize E (.call ⟨.value x, args, ts⟩) = m
  match m with
  | 0 =>
    simp only [callN]
    generalize ev s.tm x = fv
    cases fv with
    | c x => cases x <;> simp [CallM, CallN, capV, evL]
    | _ => simp [CallM]
  | 1 =>
    simp only [execW, callW]
    generalize ev s.tm x = fv
    cases fv with
    | c x => cases x <;> simp [CallM, CallN, capV, evL]
    | _ => simp [CallM]
  | m + 2 =>
    simp only [execW, callW]
    generalize ev s.tm x = fv
    cases fv with
    | c x => cases x <;> simp [CallM, CallN, capV, evL]
    | _ => simp [CallM]
end
/-! ### code -/
def condW (v : V) (A B : St → Prop) (s : St) : Prop :=
  match v with
  | .c (.d (.b x)) => Split x A B s
  | _ => False
/-- What a piece of code asks, computed; a loop is left. -/
def CW (P : Program) (N : Nat) : Code → (Exit → St → Prop) → St → Prop
  | .seq x y, Q, s => CW P N x (thenK (CW P N y Q) Q) s
  | .region _ R false, Q, s => rops P R R.toList s (Q .normal)
  | .region _ R true, Q, s => dops P (autoE R N) R R.toList s (Q .normal)
  | .cond c x y, Q, s => condW (ev s.tm c) (CW P N x Q) (CW P N y Q) s
  | .block id c, Q, s => CW P N c (inBlk id Q) s
  | .exit id, Q, s => Q (.exit id) s
  | .ret, Q, s => Q .ret s
  | .skip, Q, s => Q .normal s
  | .loop c, Q, s => AW P N (.loop c) Q s
  | _, _, _ => False
def okDst (N : Nat) (R : Array Oper) : Bool := R.toList.all (fun o => match o.dst with | some d => decide (d < N) | none => true)
/-- What is asked of the text alone. -/
def codeOk (N : Nat) : Code → Bool
  | .seq x y => codeOk N x && codeOk N y
  | .region _ R false => okDst N R
  | .region _ R true => drawOk (autoE R N) R N
  | .cond _ x y => codeOk N x && codeOk N y
  | .block _ c => codeOk N c
  | .loop c => codeOk N c
  | _ => true
theorem cw_sound (hmix : P.follows .mixedOrders = true) : ∀ (c : Code) (Q : Exit → St → Prop) (s : St), codeOk N c = true → CW P N c Q s → AW P N c Q s
  | .seq x y, Q, s, ok, h => by
    simp only [codeOk, Bool.and_eq_true] at ok
    refine aw_seq (AW.mono (cw_sound hmix x _ s ok.1 h) fun e s' h' => ?_)
    cases e with
    | normal => exact cw_sound hmix y Q s' ok.2 h'
    | _ => exact h'
  | .region _ R false, Q, s, ok, h => aw_region ok h
  | .region _ R true, Q, s, ok, h => aw_draw hmix ok h
  | .cond c x y, Q, s, ok, h => by
    simp only [codeOk, Bool.and_eq_true] at ok
    simp only [CW, condW] at h
    split at h
    · rename_i b hb
      exact aw_cond hb (fun e => cw_sound hmix x Q s ok.1 (h.1 e)) (fun e => cw_sound hmix y Q s ok.2 (h.2 e))
    · exact h.elim
  | .block id c, Q, s, ok, h => aw_block (cw_sound hmix c _ s ok h)
  | .exit id, Q, s, ok, h => aw_exit h
  | .ret, Q, s, ok, h => aw_ret h
  | .skip, Q, s, ok, h => aw_skip h
  | .loop c, Q, s, ok, h => h
  | .rangeFunc _ _ _ _, Q, s, ok, h => h.elim
  | .scope _, Q, s, ok, h => h.elim
  | .label _, Q, s, ok, h => h.elim
  | .goto _, Q, s, ok, h => h.elim
  | .refuse _, Q, s, ok, h => h.elim
theorem cw_seq {x y : Code} {Q : Exit → St → Prop} : CW P N (.seq x y) Q s = CW P N x (thenK (CW P N y Q) Q) s := by rw [CW]
theorem cw_region {id : Nat} {l : List Oper} {Q : Exit → St → Prop} : CW P N (.region id ⟨l⟩ false) Q s = rops P ⟨l⟩ l s (Q .normal) := by rw [CW]
theorem cw_draw {id : Nat} {l : List Oper} {Q : Exit → St → Prop} : CW P N (.region id ⟨l⟩ true) Q s = dops P (autoE ⟨l⟩ N) ⟨l⟩ l s (Q .normal) := by rw [CW]
theorem cw_cond {c : Operand} {x y : Code} {Q : Exit → St → Prop} : CW P N (.cond c x y) Q s = condW (ev s.tm c) (CW P N x Q) (CW P N y Q) s := by rw [CW]
theorem cw_block {id : Nat} {c : Code} {Q : Exit → St → Prop} : CW P N (.block id c) Q s = CW P N c (inBlk id Q) s := by rw [CW]
theorem cw_exit {id : Nat} {Q : Exit → St → Prop} : CW P N (.exit id) Q s = Q (.exit id) s := by rw [CW]
theorem cw_ret {Q : Exit → St → Prop} : CW P N .ret Q s = Q .ret s := by rw [CW]
theorem cw_skip {Q : Exit → St → Prop} : CW P N .skip Q s = Q .normal s := by rw [CW]
theorem cw_loop {c : Code} {Q : Exit → St → Prop} : CW P N (.loop c) Q s = AW P N (.loop c) Q s := by rw [CW]
theorem thenK_normal {K : St → Prop} {Q : Exit → St → Prop} : thenK K Q .normal s = K s := rfl
theorem thenK_ret {K : St → Prop} {Q : Exit → St → Prop} : thenK K Q .ret s = Q .ret s := rfl
theorem thenK_exit {K : St → Prop} {Q : Exit → St → Prop} {i : Nat} : thenK K Q (.exit i) s = Q (.exit i) s := rfl
theorem inBlk_normal {id : Nat} {Q : Exit → St → Prop} : inBlk id Q .normal s = Q .normal s := rfl
theorem inBlk_ret {id : Nat} {Q : Exit → St → Prop} : inBlk id Q .ret s = Q .ret s := rfl
theorem inBlk_exit {id i : Nat} {Q : Exit → St → Prop} : inBlk id Q (.exit i) s = if i = id then Q .normal s else Q (.exit i) s := rfl
def retW (post : V → Store → Prop) (s : St) (r : R) : Prop := r.1 ∧ match r.2.ret with
  | some v => post v (tail1 s.st)
  | none => False
theorem retW_mk {post : V → Store → Prop} {p : Prop} {v : V} : retW post s (p, v) = (p ∧ match v.ret with
  | some v => post v (tail1 s.st)
  | none => False) := rfl
/-- What is asked where a function ends, its rows made fast. -/
def retF (P : Program) (rs : List ResultVar) (post : V → Store → Prop) (e : Exit) (s : St) : Prop := retQ P rs post e (frzAll s)
def retS (P : Program) (rs : List ResultVar) (post : V → Store → Prop) (s : St) : Prop := retW post s (resV P rs s)
theorem retF_ret {rs : List ResultVar} {post : V → Store → Prop} : retF P rs post .ret s = retS P rs post (frzAll s) := rfl
theorem retF_normal {rs : List ResultVar} {post : V → Store → Prop} : retF P rs post .normal s = retS P rs post (frzAll s) := rfl
theorem retS_mk {rs : List ResultVar} {post : V → Store → Prop} {tm : List (Nat × V)} : retS P rs post ⟨tm, S⟩ = retW post ⟨tm, S⟩ (resV P rs ⟨tm, S⟩) := rfl
def mapF (j : Nat) (es : List (List D)) (tm : List (Nat × V)) : List (Nat × V) := tm.map fun x => (x.1, x.2.frz j es)
theorem look_mapF {j : Nat} {es : List (List D)} {tm : List (Nat × V)} {t : Nat} : look (mapF j es tm) t = (look tm t).frz j es := look_map (f := V.frz j es) rfl tm t
def frzC (j : Nat) (tm : List (Nat × V)) (own : List Obj) (Ω : Store) : Option Obj → St
  | some (.mrow _ es) => ⟨mapF j es tm, (own.map (Obj.frz j es)).set j .dead :: Ω⟩
  | _ => ⟨tm, own :: Ω⟩
theorem frzAt_mk {j : Nat} {tm : List (Nat × V)} {own : List Obj} {Ω : Store} : frzAt j ⟨tm, own :: Ω⟩ = frzC j tm own Ω (own[j]?) := by
  unfold frzAt
  simp only
  generalize own[j]? = o
  cases o with
  | none => rfl
  | some o => cases o <;> rfl
theorem frzAll_mk {tm : List (Nat × V)} {own : List Obj} {Ω : Store} : frzAll ⟨tm, own :: Ω⟩ = frzUp own.length ⟨tm, own :: Ω⟩ := rfl
/-- A function, by what its text asks. -/
theorem acall_cw {f : FuncId} {fn : Func} {c : Code} {args : List V} {post : V → Store → Prop} {rs : List ResultVar} (hmix : P.follows .mixedOrders = true) (hf : P.funcs[f]? = some fn) (hN : fn.ntmps = N)
    (hb : fn.body = some c) (hn : (fn.name == "runtime.NumGoroutine") = false) (hr : fn.results.toList = rs) (hl : Nat.ble args.length N = true) (hok : codeOk N c = true)
    (h : CW P N c (retF P rs post) ⟨argTm (args.map (V.up 1)) 0, [] :: S⟩) : ACall P f args S post := by
  subst hN
  subst hr
  exact acall_enter hf hb hn (Nat.le_of_ble_eq_true hl) (aw_end frzAll_ghost (cw_sound hmix c _ _ hok h))
end
end Go.Ab

namespace Go.Ab
theorem wrap_in (n : Int) (h : -9223372036854775808 ≤ n ∧ n ≤ 9223372036854775807) : IntKind.i64.wrap n = n := IntWalk.i64_in n h
theorem getD_map {α β : Type} (f : α → β) (l : List α) (i : Nat) (d : β) (h : i < l.length) : (l.map f).getD i d = f l[i] := by
  simp [List.getD, h]
theorem constV_int {k : IntKind} {n : Int} : constV (.int k n) = .c (.d (.i k n)) := rfl
theorem constV_bool {b : Bool} : constV (.bool b) = .c (.d (.b b)) := rfl
theorem constV_str {l : List UInt8} : constV (.string ⟨⟨l⟩⟩) = .c (.d (.s l)) := rfl
theorem constV_nils : constV (.slice none 0 0) = .c (.fsl []) := rfl
theorem put_some {tm : List (Nat × V)} {S : Store} {d : Nat} {v : V} : St.put ⟨tm, S⟩ (some d) v = ⟨(d, v) :: tm, S⟩ := rfl
theorem put_none {tm : List (Nat × V)} {S : Store} {v : V} : St.put ⟨tm, S⟩ none v = ⟨tm, S⟩ := rfl
theorem pick_t {a b : V} : pickV (.c (.d (.b true))) a b = (True, a) := rfl
theorem pick_f {a b : V} : pickV (.c (.d (.b false))) a b = (True, b) := rfl
theorem newObj_cons {tm : List (Nat × V)} {own : List Obj} {Ω : Store} {dst : Option Nat} {o : Obj} {mk : Key → V} {K : St → Prop} :
    newObj ⟨tm, own :: Ω⟩ dst o mk K = K (St.put ⟨tm, (own ++ [o]) :: Ω⟩ dst (mk (0, own.length))) := rfl
theorem boxW_c {x : C} {s : St} {dst : Option Nat} {K : St → Prop} : boxW (.c x) s dst K = newObj s dst (.box [x]) (fun k => .c (.ptr k 0)) K := rfl
theorem boxW_agg {x : List C} {s : St} {dst : Option Nat} {K : St → Prop} : boxW (.agg x) s dst K = newObj s dst (.box x) (fun k => .c (.ptr k 0)) K := rfl
theorem optM_nil {α β : Type} {f : α → Option β} : ([] : List α).mapM f = some [] := by simp
theorem optM_cons {α β : Type} {f : α → Option β} {x : α} {xs : List α} : (x :: xs).mapM f = (f x).bind fun y => (xs.mapM f).bind fun ys => some (y :: ys) := by
  rw [List.mapM_cons]; rfl
theorem down0 {c : C} : C.down 0 c = some c := by cases c <;> simp [C.down]
theorem down_tsl {n m j : Nat} {es : List (List D)} : C.down n (.tsl (n + m, j) es) = some (.tsl (m, j) es) := by simp [C.down]
theorem down_tsl0 {n j : Nat} {es : List (List D)} : C.down n (.tsl (n, j) es) = some (.tsl (0, j) es) := by simp [C.down]
theorem down_d {n : Nat} {x : D} : C.down n (.d x) = some (.d x) := rfl
theorem down_any {n : Nat} : C.down n .any = some .any := rfl
theorem down_fsl {n : Nat} {es : List (List D)} : C.down n (.fsl es) = some (.fsl es) := rfl
theorem down_ptr {n m j off : Nat} : C.down n (.ptr (n + m, j) off) = some (.ptr (m, j) off) := by simp [C.down]
theorem down_ptr0 {n j off : Nat} : C.down n (.ptr (n, j) off) = some (.ptr (0, j) off) := by simp [C.down]
attribute [go_sem_proc] Nat.reduceEqDiff Nat.reduceAdd Nat.reduceLeDiff Nat.reduceSub Nat.reduceMul Nat.reduceBEq Int.reduceEq Int.reduceLT Int.reduceLE Int.reduceGT Int.reduceGE Int.reduceNeg Int.reduceToNat
attribute [go_sem_proc ↓] reduceIte
attribute [wf_preprocess] decide_eq_true_eq decide_eq_false_iff_not Bool.not_eq_true Bool.not_eq_false Bool.not_eq_eq_eq_not Bool.not_true Bool.not_false Classical.not_not
attribute [go_sem ↓] rops_nil rops_cons ropsK_nil ropsK_cons dops_nil dops_cons dopsK_nil dopsK_cons guardW_none guardW_some dguardW_none dguardW_some putK_eq execK_eq dexecK_eq cw_seq cw_region cw_draw cw_cond cw_block cw_exit cw_ret cw_skip cw_loop thenK_normal thenK_ret thenK_exit inBlk_normal inBlk_ret inBlk_exit retF_ret retF_normal frzAll_mk callW_value callW_append callW_len callW_max callW_min dexec_max dexec_min exec_alloc exec_box exec_store exec_make exec_makeMap exec_mapUpdate exec_lookup dexec_makeMap dexec_mapUpdate dexec_lookup exec_call exec_move exec_assign exec_pick exec_load exec_fieldAddr exec_field exec_indexAddr exec_index exec_binOp exec_unOp exec_convert exec_extract exec_makeFunc exec_nilCheck exec_slice exec_build exec_buildSlice dexec_alloc dexec_box dexec_store dexec_make dexec_append dexec_move dexec_assign dexec_pick dexec_load dexec_fieldAddr dexec_field dexec_indexAddr dexec_index dexec_binOp dexec_unOp dexec_convert dexec_extract dexec_makeFunc dexec_nilCheck dexec_slice dexec_build dexec_buildSlice dexec_len dexec_call
attribute [go_sem] guardV split_true split_false nextW_mk retS_mk retW_mk condW frzUp frzAt_mk frzC look_mapF V.frz C.frz Obj.frz nval_len callV_fn callM_fn capV
  lookO_some lookO_none evL_nil evL_cons evO_some evO_none evP_nil evP_cons ev constV_int constV_bool constV_str constV_nils constC put_some put_none look pick_t pick_f newObj_cons boxW_c boxW_agg allocW storeW makeW appendW srcV
  loadV loadD aggT headD headC fieldAddrV fieldV partV sliceC indexAddrV indexV intOp strOp binV unV convV extractV lenV sliceV intOr makeFuncV capOf nilCheckV
  shOp maxV lookupV mapNewW mapPutW cellsV getO setO C.up V.up upK dstOf argTm V.bor C.bor down0 down_tsl down_tsl0 down_d down_any down_fsl down_ptr down_ptr0
  List.map_cons List.map_nil List.append_nil List.nil_append List.length_nil List.length_cons List.cons_append Option.map_some Option.map_none Option.bind_some Option.bind_none
  List.getElem?_cons_zero List.getElem?_cons_succ List.set_cons_zero List.set_cons_succ List.drop_zero List.drop_succ_cons List.drop_nil List.take_zero List.take_succ_cons List.take_nil
  if_true if_false true_and and_true Int.toNat_natCast List.getElem?_toArray List.size_toArray Nat.zero_add Nat.add_zero Bool.false_eq_true Bool.true_eq_false Bool.not_true Bool.not_false reduceCtorEq
  decide_true decide_false List.all_cons List.all_nil Bool.and_true Bool.true_and Option.isSome_some Option.isSome_none wrap_in getD_map optM_nil optM_cons toD splice List.length_map fillC buildV elemsOf buildSliceV List.size_toArray
/-! ### a loop, by the slots that it keeps -/
section
variable {P : Program} {S S' : Store} {N : Nat} {s : St}
def zipTm : List Nat → List V → List (Nat × V)
  | t :: ts, v :: vs => (t, v) :: zipTm ts vs
  | _, _ => []
theorem look_zip (f : Nat → V) : ∀ (ts : List Nat) (t : Nat), look (zipTm ts (ts.map f)) t = f t ∨ look (zipTm ts (ts.map f)) t = .any
  | [], t => .inr rfl
  | u :: us, t => by
    show (if u = t then f u else look (zipTm us (us.map f)) t) = f t ∨ (if u = t then f u else look (zipTm us (us.map f)) t) = .any
    by_cases e : u = t
    · left; rw [if_pos e, e]
    · rw [if_neg e]; exact look_zip f us t
/-- What a round of a loop must lead to: a state of the invariant, but for what is forgotten. -/
def Inv {ι : Type} (N : Nat) (ts : List Nat) (f : ι → List V) (g : ι → Store) (p : ι → Prop) (μ : ι → Nat) (i : ι) (s' : St) : Prop := ∃ j s0, μ j < μ i ∧ Ghost N s' s0 ∧ ts.map (look s0.tm) = f j ∧ s0.st = g j ∧ p j
theorem inv_at {ι : Type} {ts : List Nat} {f : ι → List V} {g : ι → Store} {p : ι → Prop} {μ : ι → Nat} {i : ι} (j : ι) (h1 : μ j < μ i) (h2 : ts.map (look s.tm) = f j) (h3 : s.st = g j) (h4 : p j) : Inv N ts f g p μ i s :=
  ⟨j, s, h1, Ghost.refl _ _, h2, h3, h4⟩
theorem map_look_zip : ∀ (ts : List Nat) (vs : List V), ts.Nodup → ts.length = vs.length → ts.map (look (zipTm ts vs)) = vs
  | [], [], _, _ => rfl
  | t :: ts, v :: vs, hn, hl => by
    have hn' := List.nodup_cons.1 hn
    have ih := map_look_zip ts vs hn'.2 (by simpa using hl)
    simp only [zipTm, List.map_cons, look, if_true, List.cons.injEq, true_and]
    rw [← ih]
    refine List.map_congr_left fun u hu => ?_
    have hne : t ≠ u := fun e => hn'.1 (e ▸ hu)
    rw [if_neg hne, ih]
/-- A round that has made objects: those from the n-th on are forgotten. -/
theorem inv_drop {ι : Type} {ts : List Nat} {f : ι → List V} {g : ι → Store} {p : ι → Prop} {μ : ι → Nat} {i : ι} {tm : List (Nat × V)} {own : List Obj} {Ω : Store} (n : Nat) (hnd : ts.Nodup) (j : ι) (h1 : μ j < μ i) (h2 : ts.map (look tm) = f j) (h3 : own.take n :: Ω = g j)
    (hr : tmRefs n (zipTm ts (f j)) = true) (ho : (own.take n).all (Obj.refs n) = true) (h4 : p j) : Inv N ts f g p μ i ⟨tm, own :: Ω⟩ := by
  refine ⟨j, ⟨zipTm ts (f j), own.take n :: Ω⟩, h1, ?_, ?_, h3, h4⟩
  · have hg : Ghost N ⟨tm, own :: Ω⟩ ⟨zipTm ts (f j), own :: Ω⟩ := by
      rw [← h2]
      exact tm_ghost fun t => look_zip _ ts t
    exact hg.trans (drop_ghost n hr ho)
  · exact map_look_zip ts (f j) hnd (by rw [← h2]; simp)
/-- A loop, by the slots that it keeps: the slots 'ts' hold 'f i', the store is 'g i', and 'p i' stands; every round lowers the measure. -/
theorem loop_at {ι : Type} {c : Code} {Q : Exit → St → Prop} (hmix : P.follows .mixedOrders = true) (hok : codeOk N c = true) (ts : List Nat) (f : ι → List V) (g : ι → Store) (p : ι → Prop) (μ : ι → Nat) (i0 : ι)
    (h1 : ts.map (look s.tm) = f i0) (h2 : s.st = g i0) (h3 : p i0)
    (round : ∀ i, p i → CW P N c (thenK (Inv N ts f g p μ i) Q) ⟨zipTm ts (f i), g i⟩) : AW P N (.loop c) Q s := by
  refine aw_loop (ι := ι) (fun i s => ∃ s0, Ghost N s s0 ∧ ts.map (look s0.tm) = f i ∧ s0.st = g i ∧ p i) μ i0 ⟨s, Ghost.refl _ _, h1, h2, h3⟩ fun i s hI => ?_
  obtain ⟨s0, hg, h1, h2, h3⟩ := hI
  refine aw_ghost ?_ hg
  have hr := (cw_sound hmix c _ _ hok (round i h3)).mono (Q' := thenK (fun s' => ∃ j, μ j < μ i ∧ ∃ s0, Ghost N s' s0 ∧ ts.map (look s0.tm) = f j ∧ s0.st = g j ∧ p j) Q) fun e s' h => by
    cases e with
    | normal =>
      obtain ⟨j, s0, a1, a2, a3, a4, a5⟩ := h
      exact ⟨j, a1, s0, a2, a3, a4, a5⟩
    | _ => exact h
  obtain ⟨tm, st⟩ := s0
  simp only at h1 h2
  subst h2
  rw [← h1] at hr
  exact aw_tm hr fun t => look_zip _ ts t
/-! ### the end of a function -/
theorem resV_nil : resV P [] s = (True, .tup []) := rfl
theorem resV_one {x : ResultVar} : resV P [x] s = oneRes P s x := rfl
theorem resV_two {x y : ResultVar} {z : List ResultVar} : resV P (x :: y :: z) s = (match (allRes P s (x :: y :: z)).2 with
    | some ys => ((allRes P s (x :: y :: z)).1, .tup ys)
    | none => no) := rfl
end
attribute [go_sem] zipTm resV_nil resV_one resV_two oneRes allRes compV tail1 V.ret retComp
end Go.Ab

namespace Go.Ab
section
variable {P : Program} {S S' : Store} {N : Nat} {s : St}
theorem getO_up1 {α : Type} {fr : List α} {S : List (List α)} {l j : Nat} : getO (fr :: S) (1 + l, j) = getO S (l, j) := by rw [Nat.add_comm, getO_succ]
theorem setO_up1 {α : Type} {fr : List α} {S : List (List α)} {l j : Nat} {x : α} : setO (fr :: S) (1 + l, j) x = fr :: setO S (l, j) x := by rw [Nat.add_comm, setO]
theorem upK_mk {n l j : Nat} : upK n (l, j) = (n + l, j) := rfl
theorem ret_tsl_up {l j : Nat} {es : List (List D)} : C.ret (.tsl (1 + l, j) es) = some (.tsl (l, j) es) := by
  rw [Nat.add_comm]
  show C.down 1 (.tsl (l + 1, j) es) = _
  simp [C.down]
theorem ret_tsl_0 {j : Nat} {es : List (List D)} : C.ret (.tsl (0, j) es) = some (.d (.sl es)) := rfl
theorem ret_d {x : D} : C.ret (.d x) = some (.d x) := rfl
theorem ret_any : C.ret .any = some .any := rfl
theorem ret_fsl {es : List (List D)} : C.ret (.fsl es) = some (.fsl es) := rfl
theorem ret_rptr {cs : List D} : C.ret (.rptr cs) = some (.rptr cs) := rfl
theorem ret_ptr {l j off : Nat} : C.ret (.ptr (1 + l, j) off) = some (.ptr (l, j) off) := by
  rw [Nat.add_comm]
  show C.down 1 (.ptr (l + 1, j) off) = _
  simp [C.down]
theorem frz_tsl {j : Nat} {es es' : List (List D)} {k : Key} : C.frz j es (.tsl k es') = .tsl k es' := rfl
theorem bor_d {x : D} : C.bor (.d x) = .d x := rfl
theorem bor_any : C.bor .any = .any := rfl
theorem bor_ptr {k : Key} {off : Nat} : C.bor (.ptr k off) = .ptr k off := rfl
theorem bor_fn {f : Nat} {caps : List (Key × Nat)} : C.bor (.fn f caps) = .fn f caps := rfl
theorem bor_msl {k : Key} : C.bor (.msl k) = .msl k := rfl
theorem bor_rptr {cs : List D} : C.bor (.rptr cs) = .rptr cs := rfl
theorem frz_d {j : Nat} {es : List (List D)} {x : D} : C.frz j es (.d x) = .d x := rfl
theorem frz_any {j : Nat} {es : List (List D)} : C.frz j es .any = .any := rfl
theorem frz_fsl {j : Nat} {es es' : List (List D)} : C.frz j es (.fsl es') = .fsl es' := rfl
theorem frz_ptr {j : Nat} {es : List (List D)} {k : Key} {off : Nat} : C.frz j es (.ptr k off) = .ptr k off := rfl
theorem frz_fn {j : Nat} {es : List (List D)} {f : Nat} {caps : List (Key × Nat)} : C.frz j es (.fn f caps) = .fn f caps := rfl
theorem frz_rptr {j : Nat} {es : List (List D)} {cs : List D} : C.frz j es (.rptr cs) = .rptr cs := rfl
theorem frz_msl {j i : Nat} {es : List (List D)} : C.frz j es (.msl (0, i)) = if i = j then .d (.sl es) else .msl (0, i) := rfl
/-- A slice without spare room, handed to a function that appends to it. -/
theorem ACall.tok0 {f : FuncId} (i : Nat) {es : List (List D)} {esz : Nat} {args : List V} {post post' : V → Store → Prop} (hi : args[i]? = some (.c (.fsl es))) (hes : ∀ e ∈ es, e.length = esz)
    (h : ACall P f ((args.map (V.up 1)).set i (.c (.tsl (0, 0) es))) ([.tok esz es] :: S) post)
    (hp : ∀ r fr S', post r (fr :: S') → ∃ r', r.ret = some r' ∧ post' r' S') : ACall P f args S post' := by
  refine ⟨h.1, fun w σ β vs hS hargs => ?_⟩
  obtain ⟨v, hv0, ⟨hd, ad, n, hval⟩, hone⟩ := hargs.2 i _ hi
  · have hn : n = es.length := by rw [hval] at hd; cases hd <;> rfl
    have hg : Grow w σ w σ := Grow.refl hS.live
    obtain ⟨hS', hk, hst⟩ := hS.up1.push (o := .tok esz es) (h := v) hg rfl ⟨hd, hes, ad, n, by rw [hval, hn], by omega, .inl hn⟩ (fun b hb => by
      rw [hval, hn] at hb
      cases ad <;> simp [blk] at hb)
    have hargs' : RepVs w σ ([.tok esz es] :: S) ([v] :: β) ((args.map (V.up 1)).set i (.c (.tsl (0, 0) es))) vs := by
      refine ⟨by have := hargs.1; simpa using this, fun j x hx => ?_⟩
      rw [List.getElem?_set] at hx
      by_cases e : i = j
      · subst e
        rw [if_pos rfl] at hx
        split at hx
        · cases hx
          refine ⟨v, hv0, ⟨hd, .tok esz es, rfl, fun a b e => ?_⟩, hone⟩
          cases e
          exact ⟨Nat.le_refl _, fun _ => rfl⟩
        · cases hx
      · rw [if_neg e, List.getElem?_map] at hx
        cases ha : args[j]? with
        | none => rw [ha] at hx; cases hx
        | some y =>
          rw [ha] at hx; cases hx
          obtain ⟨u, hu, hr⟩ := hargs.2 j y ha
          exact ⟨u, hu, rep_upV (S := [.tok esz es] :: S) (β := [v] :: β) 1 hr⟩
    refine (h.2 w σ ([v] :: β) vs hS' hargs').mono fun e w' ⟨v', r, S1, σ', β', he, hS1, hk1, hst1, hr1, hpost⟩ => ?_
    have hO : ∀ b, Own ([.tok esz es] :: S) ([v] :: β) b → Own S β b := by
      rintro b ⟨⟨l, j⟩, o, hv, h1, h2, h3⟩
      cases l with
      | zero =>
        rw [getO_zero] at h1 h2
        cases j with
        | zero =>
          cases h1; cases h2
          rw [hval, hn] at h3
          cases ad <;> simp [blk] at h3
        | succ j => simp at h1
      | succ l => rw [getO_succ] at h1 h2; exact ⟨(l, j), o, hv, h1, h2, h3⟩
    cases S1 with
    | nil =>
      obtain ⟨o', h1, _⟩ := hk1 (0, 0) _ rfl
      rw [getO_nil] at h1; cases h1
    | cons fr S1 =>
      cases β' with
      | nil => have := hS1.shape.1; simp at this
      | cons bo bΩ =>
        obtain ⟨r', hr', hp'⟩ := hp r fr S1 hpost
        refine ⟨v', r', S1, σ', bΩ, he, hS1.down1, hk1.drop 1, ⟨hst1.size, hst1.os, hst1.output, fun b hb ho => hst1.far b hb (fun x => ho (hO b x)), hst1.near, fun b hb => (hst1.own b (own_down1 hb)).imp (hO b) id⟩, rep_retV hr' hr1, hp'⟩
end
attribute [go_sem] getO_up1 setO_up1 upK_mk ret_tsl_up ret_tsl_0 ret_d ret_any ret_fsl ret_rptr ret_ptr frz_tsl bor_d bor_any bor_ptr bor_fn bor_msl bor_rptr frz_d frz_any frz_fsl frz_ptr frz_fn frz_rptr frz_msl
end Go.Ab

namespace Go.Ab
section
variable {P : Program} {S S' : Store} {N : Nat} {s : St}
/-- Less is told. -/
def Less (r r' : V) : Prop := ∀ w σ S β v, RepV w σ S β r v → RepV w σ S β r' v
theorem Less.refl (r : V) : Less r r := fun _ _ _ _ _ h => h
theorem setO_twice {x y : Obj} : ∀ (S : Store) (k : Key), setO (setO S k x) k y = setO S k y
  | [], k => rfl
  | fr :: S, (0, j) => by rw [setO, setO, setO]; simp
  | fr :: S, (l + 1, j) => by rw [setO, setO, setO, setO_twice S]
theorem setO_self {x : Obj} : ∀ (S : Store) (k : Key), getO S k = some x → setO S k x = S
  | [], k, _ => rfl
  | fr :: S, (0, j), h => by
    rw [getO_zero] at h
    rw [setO]
    congr 1
    exact List.ext_getElem? fun i => by
      rw [List.getElem?_set]
      split
      · rename_i e; subst e
        obtain ⟨h1, h2⟩ := List.getElem?_eq_some_iff.1 h
        simp [h1, h2]
      · rfl
  | fr :: S, (l + 1, j), h => by rw [getO_succ] at h; rw [setO, setO_self S _ h]
/-- Arguments told as borrowed, but for those that are marked. -/
def borM : List Bool → List V → List V
  | true :: m, v :: vs => v :: borM m vs
  | false :: m, v :: vs => v.bor :: borM m vs
  | [], vs => vs.map V.bor
  | _, [] => []
theorem borM_len : ∀ (m : List Bool) (vs : List V), vs.length = (borM m vs).length
  | true :: m, v :: vs => by rw [borM, List.length_cons, List.length_cons, borM_len m vs]
  | false :: m, v :: vs => by rw [borM, List.length_cons, List.length_cons, borM_len m vs]
  | [], vs => by simp [borM]
  | true :: m, [] => rfl
  | false :: m, [] => rfl
theorem borM_at : ∀ (m : List Bool) (vs : List V) (j : Nat) (x y : V), vs[j]? = some x → (borM m vs)[j]? = some y → y = x ∨ y = x.bor
  | true :: m, v :: vs, 0, x, y, h1, h2 => by rw [borM] at h2; cases h1; cases h2; exact .inl rfl
  | false :: m, v :: vs, 0, x, y, h1, h2 => by rw [borM] at h2; cases h1; cases h2; exact .inr rfl
  | true :: m, v :: vs, j + 1, x, y, h1, h2 => by rw [borM] at h2; exact borM_at m vs j x y h1 h2
  | false :: m, v :: vs, j + 1, x, y, h1, h2 => by rw [borM] at h2; exact borM_at m vs j x y h1 h2
  | [], vs, j, x, y, h1, h2 => by rw [borM, List.getElem?_map, h1] at h2; cases h2; exact .inr rfl
  | true :: m, [], j, x, y, h1, h2 => by simp at h1
  | false :: m, [], j, x, y, h1, h2 => by simp at h1
theorem ACall.borM (m : List Bool) {f : FuncId} {args : List V} {post : V → Store → Prop} (h : ACall P f (Go.Ab.borM m args) S post) : ACall P f args S post :=
  h.weaken (borM_len m args) fun j x y hx hy w σ β v hr => by
    rcases borM_at m args j x y hx hy with e | e
    · rw [e]; exact hr
    · rw [e]; exact rep_borV hr
/-- A call that comes to one state, some arguments lent. -/
theorem call_m (m : List Bool) {dr : Option Nat} {f : FuncId} {args : List V} {dst : Option Nat} {K : St → Prop} {r : V} {S1 : Store} (hm : effOk dr = true) (h : ACall P f (borM m args) s.st (fun r' S' => r' = r ∧ S' = S1)) (hK : K (St.put ⟨s.tm, S1⟩ dst r)) : CallG P dr f args s dst K :=
  call_d hm (h.borM m) hK
end
end Go.Ab

namespace Go.Ab
section
variable {P : Program} {S : Store}
def upCaps (n : Nat) (caps : List (Key × Nat)) : List (Key × Nat) := caps.map fun y => (upK n y.1, y.2)
theorem upCaps_nil {n : Nat} : upCaps n [] = [] := rfl
theorem upCaps_cons {n l j off : Nat} {caps : List (Key × Nat)} : upCaps n (((l, j), off) :: caps) = ((n + l, j), off) :: upCaps n caps := rfl
theorem upCaps_up {m n : Nat} {caps : List (Key × Nat)} : upCaps m (upCaps n caps) = upCaps (m + n) caps := by
  unfold upCaps
  rw [List.map_map]
  refine List.map_congr_left fun y _ => ?_
  simp only [Function.comp, upK, Prod.mk.injEq, and_true]
  omega
theorem refs_upCaps {n m g : Nat} {caps : List (Key × Nat)} : C.refs n (.fn g (upCaps (m + 1) caps)) = true := by
  simp only [C.refs, upCaps, List.all_map, List.all_eq_true]
  intro x _
  have h : 0 < m + 1 + x.1.1 := by omega
  simp [Function.comp, refK, upK, h]
theorem refs_upCaps1 {n : Nat} {caps : List (Key × Nat)} : ((upCaps 1 caps).all fun x => refK n x.fst) = true := refs_upCaps (m := 0) (g := 0)
/-- The stack under some frames. -/
theorem getO_app : ∀ (F S : Store) (l j : Nat), getO (F ++ S) (F.length + l, j) = getO S (l, j)
  | [], S, l, j => by simp
  | fr :: F, S, l, j => by
    rw [List.cons_append, List.length_cons, show F.length + 1 + l = (F.length + l) + 1 from by omega, getO_succ, getO_app F S l j]
theorem setO_app (x : Obj) : ∀ (F S : Store) (l j : Nat), setO (F ++ S) (F.length + l, j) x = F ++ setO S (l, j) x
  | [], S, l, j => by simp
  | fr :: F, S, l, j => by
    rw [List.cons_append, List.length_cons, show F.length + 1 + l = (F.length + l) + 1 from by omega, setO, setO_app x F S l j, List.cons_append]
theorem getO_app0 {F S : Store} {j : Nat} : getO (F ++ S) (F.length, j) = getO S (0, j) := getO_app F S 0 j
theorem setO_app0 {F S : Store} {j : Nat} {x : Obj} : setO (F ++ S) (F.length, j) x = F ++ setO S (0, j) x := setO_app x F S 0 j
attribute [go_sem] getO_app0 setO_app0 upCaps_nil upCaps_cons
/-- A function value that only computes: r of x. -/
def FPure (P : Program) (g : Nat) (caps : List (Key × Nat)) (S : Store) (xs : List V) (r : V) : Prop :=
  ∀ F : Store, ACall P g (xs ++ capV (upCaps F.length caps)) (F ++ S) (fun r' S' => r' = r ∧ S' = F ++ S)
theorem FPure.push {g : Nat} {caps : List (Key × Nat)} {xs : List V} {r : V} (h : FPure P g caps S xs r) (fr : List Obj) : FPure P g (upCaps 1 caps) (fr :: S) xs r := fun F => by
  have := h (F ++ [fr])
  rw [upCaps_up]
  simpa using this
theorem FPure.of_pure {g : Nat} {xs : List V} {r : V} (h : PCall P g xs r) : FPure P g [] S xs r := fun F => by
  have := h (F ++ S)
  simpa [upCaps, capV] using this
/-- A function value that takes a state on; I n: n steps are left. -/
def FStep (P : Program) (g : Nat) (caps : List (Key × Nat)) {α X : Type} (st : α → Store) (I : Nat → α → Prop) (f : α → X → α) (xv : X → V) (ok : X → Prop) : Prop :=
  ∀ n a u, I (n + 1) a → ok u → I n (f a u) ∧ ∀ F : Store, ACall P g (xv u :: capV (upCaps F.length caps)) (F ++ st a) (fun r' S' => r' = .tup [] ∧ S' = F ++ st (f a u))
theorem FStep.push {g : Nat} {caps : List (Key × Nat)} {α X : Type} {st : α → Store} {I : Nat → α → Prop} {f : α → X → α} {xv : X → V} {ok : X → Prop} (h : FStep P g caps st I f xv ok) (fr : List Obj) :
    FStep P g (upCaps 1 caps) (fun a => fr :: st a) I f xv ok := fun n a u ha hu => ⟨(h n a u ha hu).1, fun F => by
  have := (h n a u ha hu).2 (F ++ [fr])
  rw [upCaps_up]
  simpa using this⟩
/-- A box's cell that holds a slice without spare room: the slice is taken over for appending. -/
theorem aw_tokbox {N : Nat} {c : Code} {Q : Exit → St → Prop} {tm : List (Nat × V)} {own : List Obj} {Ω : Store} (j i esz : Nat) (es : List (List D)) (cs : List C) (hj : own[j]? = some (.box cs)) (hi : cs[i]? = some (.fsl es)) (hes : ∀ e ∈ es, e.length = esz)
    (h : AW P N c Q ⟨tm, (own.set j (.box (cs.set i (.tsl (0, own.length) es))) ++ [.tok esz es]) :: Ω⟩) : AW P N c Q ⟨tm, own :: Ω⟩ := by
  refine aw_ghost h fun a w σ β hR => ?_
  obtain ⟨bo, bΩ, rfl, hlen⟩ := frames hR
  have hjl := (List.getElem?_eq_some_iff.1 hj).1
  have hg0 : getO (own :: Ω) (0, j) = some (.box cs) := by rw [getO_zero]; exact hj
  obtain ⟨hb, hbo, hr⟩ := hR.S.obj (0, j) _ hg0
  obtain ⟨b, cv, ty, rfl, hbc, hσ, hcs⟩ := hr
  have hcs : RepCs w σ (own :: Ω) (bo :: bΩ) cs cv.toList := hcs
  obtain ⟨v, hv, ⟨hd, ad, n, hval⟩, hone⟩ := hcs.2 i _ hi
  have hn : n = es.length := by rw [hval] at hd; cases hd <;> rfl
  have hg : Grow w σ w σ := Grow.refl hR.S.live
  obtain ⟨hS', hk, hst⟩ := hR.S.push (o := .tok esz es) (h := v) hg hlen ⟨hd, hes, ad, n, by rw [hval, hn], by omega, .inl hn⟩ (fun b hb => by
    rw [hval, hn] at hb
    cases ad <;> simp [blk] at hb)
  have hk1 : getO ((own ++ [.tok esz es]) :: Ω) (0, j) = some (.box cs) := getO_push _ _ _ _ _ hg0
  have hh1 : getO ((bo ++ [v]) :: bΩ) (0, j) = some (.pointer (some ⟨b, 0, none⟩)) := getO_push _ _ _ _ _ hbo
  have hko : KeepO (.box cs) (some (Value.pointer (some ⟨b, 0, none⟩))) (.box (cs.set i (.tsl (0, own.length) es))) (some (Value.pointer (some ⟨b, 0, none⟩))) := .inr ⟨⟨_, rfl⟩, rfl⟩
  have hK : Keep ((own ++ [.tok esz es]) :: Ω) ((bo ++ [v]) :: bΩ) (setO ((own ++ [.tok esz es]) :: Ω) (0, j) (.box (cs.set i (.tsl (0, own.length) es)))) (setO ((bo ++ [v]) :: bΩ) (0, j) (.pointer (some ⟨b, 0, none⟩))) := by
    intro k1 o1 e1
    by_cases e : k1 = (0, j)
    · subst e
      rw [hk1] at e1; cases e1
      exact ⟨_, getO_setO_eq _ _ _ _ hk1, by rw [hh1, getO_setO_eq _ _ _ _ hh1]; exact hko⟩
    · exact ⟨o1, (getO_setO_ne _ _ _ _ (Ne.symm e)).trans e1, by rw [getO_setO_ne _ _ _ _ (Ne.symm e)]; exact .refl _ _⟩
  have hne : (0, own.length) ≠ (0, j) := fun e => by injection e with _ e; omega
  obtain ⟨hS2, hk2, hst2⟩ := hS'.set (w' := w) (σ' := σ) (o' := .box (cs.set i (.tsl (0, own.length) es))) (h' := .pointer (some ⟨b, 0, none⟩)) hk1 hh1 (Nat.le_refl _) rfl rfl (Near.refl _ _) hS'.live (fun _ _ _ => ⟨rfl, rfl⟩) hko
    ⟨b, cv, ty, rfl, hbc, hσ, by
      refine ⟨by rw [List.length_set]; exact hcs.1, fun m x hm => ?_⟩
      rw [List.getElem?_set] at hm
      by_cases e : i = m
      · subst e
        rw [if_pos rfl] at hm
        split at hm
        · cases hm
          refine ⟨v, hv, ⟨hd, .tok esz es, ?_, fun a1 b1 e1 => ?_⟩, hone⟩
          · show getO (setO _ (0, j) _) (0, own.length) = _
            rw [getO_setO_ne _ _ _ _ (Ne.symm hne), getO_push_new]
          · cases e1
            refine ⟨Nat.le_refl _, fun _ => ?_⟩
            show getO (setO _ (0, j) _) (0, own.length) = _
            rw [getO_setO_ne _ _ _ _ (Ne.symm hne), ← hlen, getO_push_new]
        · cases hm
      · rw [if_neg e] at hm
        obtain ⟨u, hu, hc, ho⟩ := hcs.2 m x hm
        exact ⟨u, hu, (hc.mono (Near.refl _ _) hk).mono (Near.refl _ _) hK, ho⟩⟩ (fun _ e => .inl e)
  have est : setO ((own ++ [.tok esz es]) :: Ω) (0, j) (.box (cs.set i (.tsl (0, own.length) es))) = (own.set j (.box (cs.set i (.tsl (0, own.length) es))) ++ [.tok esz es]) :: Ω := by
    rw [setO, List.set_append_left _ _ hjl]
  rw [est] at hS2 hk2 hst2
  exact ⟨σ, _, ⟨hR.size, hR.defers, hS2, fun u => ((hR.T u).mono (Near.refl _ _) hk).mono (Near.refl _ _) hk2⟩, hst.trans hst2, by
    have := hk.trans hk2
    exact this.tail⟩
end
end Go.Ab

namespace Go.Ab
inductive D.Fit : D → Prop
  | b (x) : Fit (.b x)
  | i (k n) : Fit (.i k n)
  | s (l) (h : l.length ≤ 9223372036854775807) : Fit (.s l)
  | sl (es) (h : es.length ≤ 9223372036854775807) (hh : ∀ e ∈ es, ∀ d ∈ e, Fit d) : Fit (.sl es)
  | o (v) : Fit (.o v)
def FitL (cs : List D) : Prop := ∀ d ∈ cs, d.Fit
theorem fit_s {l : List UInt8} (h : (D.s l).Fit) : l.length ≤ 9223372036854775807 := by cases h with | s _ h => exact h
theorem fit_sl {es : List (List D)} (h : (D.sl es).Fit) : es.length ≤ 9223372036854775807 ∧ ∀ e ∈ es, FitL e := by
  cases h with
  | sl _ h hh => exact ⟨h, hh⟩
theorem fitL_nil : FitL [] := fun d h => by cases h
theorem fitL_nil_iff : FitL [] ↔ True := ⟨fun _ => trivial, fun _ => fitL_nil⟩
theorem fitL_cons {d : D} {ds : List D} : FitL (d :: ds) ↔ d.Fit ∧ FitL ds := by simp [FitL]
theorem fitL_append {a b : List D} : FitL (a ++ b) ↔ FitL a ∧ FitL b := by
  simp only [FitL, List.mem_append]
  exact ⟨fun h => ⟨fun d hd => h d (.inl hd), fun d hd => h d (.inr hd)⟩, fun h d hd => hd.elim (h.1 d) (h.2 d)⟩
/-- Fields one behind the other. -/
def WTF (P : Program) (W : TypeId → List D → Prop) : List Field → List D → Prop
  | [], ds => ds = []
  | f :: fs, ds => ∃ a b, ds = a ++ b ∧ a.length = P.cellsOf f.type ∧ W f.type a ∧ WTF P W fs b
/-- Data of a type. -/
def WT (P : Program) : Nat → TypeId → List D → Prop
  | 0, _, _ => False
  | n + 1, t, ds =>
    match P.underlying t with
    | some .bool => ∃ b, ds = [.b b]
    | some (.int k) => ∃ x, ds = [.i k x] ∧ (Lit.int k x).wf = true
    | some .string => ∃ l, ds = [.s l] ∧ l.length ≤ 9223372036854775807
    | some (.slice e) => ∃ es, ds = [.sl es] ∧ es.length ≤ 9223372036854775807 ∧ ∀ x ∈ es, x.length = P.cellsOf e ∧ WT P n e x
    | some (.struct fs) => WTF P (WT P n) fs.toList ds
    | _ => False
def tiles (P : Program) : List Field → Nat → Nat → Bool
  | [], a, b => a == b
  | f :: fs, a, b => f.offset == a && tiles P fs (a + P.cellsOf f.type) b
def closedB (P : Program) (L : List TypeId) : Bool :=
  L.all fun t => match P.underlying t with
    | some .bool | some (.int _) | some .string => P.cellsOf t == 1
    | some (.slice e) => P.cellsOf t == 1 && L.contains e && decide (0 < P.cellsOf e)
    | some (.struct fs) => tiles P fs.toList 0 (P.cellsOf t) && fs.toList.all fun f => L.contains f.type
    | _ => false
/-- All cells of all blocks, as fast. -/
def allFast (w : World) (b : Nat) : Nat := match w.heap[b]? with
  | some (.cells c _ _) => c.size
  | _ => 0
def RepL (w : World) (ds : List D) (vs : List Value) : Prop := ds.length = vs.length ∧ ∀ (j : Nat) (d : D), ds[j]? = some d → ∃ v, vs[j]? = some v ∧ RepD w (allFast w) d v ∧ v.oneCell' = true
theorem RepL.append {w : World} {a b : List D} {xs ys : List Value} (h1 : RepL w a xs) (h2 : RepL w b ys) : RepL w (a ++ b) (xs ++ ys) := by
  refine ⟨by simp [h1.1, h2.1], fun j d hj => ?_⟩
  rw [List.getElem?_append] at hj ⊢
  have := h1.1
  split at hj
  · rw [if_pos (by omega)]; exact h1.2 j d hj
  · rw [if_neg (by omega), ← h1.1]; exact h2.2 _ d hj
theorem RepL.one {w : World} {d : D} {v : Value} (h : RepD w (allFast w) d v) (h1 : v.oneCell' = true) : RepL w [d] [v] := by
  refine ⟨rfl, fun j x hj => ?_⟩
  cases j with
  | zero => cases hj; exact ⟨v, rfl, h, h1⟩
  | succ j => simp at hj
theorem mapM_all {α β : Type} (f : α → Option β) : ∀ (l : List α) (ys : List β), l.mapM f = some ys → ys.length = l.length ∧ ∀ (j : Nat) (x : α), l[j]? = some x → ∃ y, f x = some y ∧ ys[j]? = some y
  | [], ys, h => by
    simp at h; subst h
    exact ⟨rfl, fun j x hj => by simp at hj⟩
  | a :: l, ys, h => by
    rw [List.mapM_cons] at h
    cases ha : f a with
    | none => rw [ha] at h; cases h
    | some y =>
      cases hl : l.mapM f with
      | none => rw [ha, hl] at h; cases h
      | some zs =>
        rw [ha, hl] at h
        cases h
        obtain ⟨h1, h2⟩ := mapM_all f l zs hl
        refine ⟨by simp [h1], fun j x hj => ?_⟩
        cases j with
        | zero => cases hj; exact ⟨y, ha, rfl⟩
        | succ j => exact h2 j x hj
section
variable {H : Type} {enc : TypeId × Value → H} {P : Program} {w : World} {L : List TypeId}
theorem cells_spot {a : Addr} {n : Nat} {vs : List Value} (hn : 0 < n) (h : w.cells? 0 a n = some vs) : a.spot = none ∧ vs.length = n ∧ ∃ c t fz, w.heap[a.block]? = some (.cells c t fz) ∧ ∀ j, j < n → ∃ v, vs[j]? = some v ∧ c[a.off + j]? = some v := by
  unfold World.cells? at h
  rw [if_pos (Nat.zero_le _)] at h
  obtain ⟨h1, h2⟩ := mapM_all _ _ _ h
  rw [List.length_range] at h1
  obtain ⟨v0, hv0, _⟩ := h2 0 0 (by simp [hn])
  have hadd0 : a.add 0 = a := by simp [Addr.add]
  rw [hadd0] at hv0
  unfold World.cell? at hv0
  cases hb : w.heap[a.block]? with
  | none => rw [hb] at hv0; cases hv0
  | some ob =>
    rw [hb] at hv0
    cases ob with
    | map _ _ => cases hv0
    | cells c t fz =>
      have hs : a.spot = none := by
        cases hsp : a.spot with
        | none => rfl
        | some x => rw [hsp] at hv0; simp at hv0
      refine ⟨hs, h1, c, t, fz, rfl, fun j hj => ?_⟩
      obtain ⟨v, hv, hvs⟩ := h2 j j (by simp [hj])
      refine ⟨v, hvs, ?_⟩
      unfold World.cell? at hv
      by_cases hj0 : j = 0
      · subst hj0
        rw [hadd0, hb] at hv
        simp [hs] at hv
        simpa using hv
      · simp [Addr.add, hj0, hb] at hv
        exact hv
    | _ => cases hv0
theorem choose_list {α : Type} {p : Nat → α → Prop} : ∀ n : Nat, (∀ i, i < n → ∃ x, p i x) → ∃ l : List α, l.length = n ∧ ∀ (i : Nat) (x : α), l[i]? = some x → p i x
  | 0, _ => ⟨[], rfl, fun i x h => by simp at h⟩
  | n + 1, h => by
    obtain ⟨l, hl, hp⟩ := choose_list n fun i hi => h i (by omega)
    obtain ⟨x, hx⟩ := h n (by omega)
    refine ⟨l ++ [x], by simp [hl], fun i y hy => ?_⟩
    rw [List.getElem?_append] at hy
    split at hy
    · exact hp i y hy
    · rename_i hlt
      have hi : i - l.length < 1 := by
        have := (List.getElem?_eq_some_iff.1 hy).1
        simpa using this
      have : i = n := by omega
      subst this
      rw [show i - l.length = 0 from by omega] at hy
      cases hy
      exact hx
theorem closed_at (hc : closedB P L = true) {t : TypeId} (ht : t ∈ L) : (match P.underlying t with
    | some .bool | some (.int _) | some .string => P.cellsOf t == 1
    | some (.slice e) => P.cellsOf t == 1 && L.contains e && decide (0 < P.cellsOf e)
    | some (.struct fs) => tiles P fs.toList 0 (P.cellsOf t) && fs.toList.all fun f => L.contains f.type
    | _ => false) = true := List.all_eq_true.1 hc t ht
theorem trod_fields {n : Nat} {fs : List Field} {cs : List Value} : ∀ (off : Nat), off ≤ cs.length → tiles P fs off cs.length = true →
    (∀ f ∈ fs, ∃ ds, WT P n f.type ds ∧ RepL w ds ((cs.drop f.offset).take (P.cellsOf f.type))) → ∃ ds, WTF P (WT P n) fs ds ∧ RepL w ds (cs.drop off) := by
  induction fs with
  | nil =>
    intro off _ ht _
    have : off = cs.length := by simpa [tiles] using ht
    exact ⟨[], rfl, by simp [this, RepL]⟩
  | cons f fs ih =>
    intro off ho ht h
    simp only [tiles, Bool.and_eq_true, beq_iff_eq] at ht
    obtain ⟨a, ha1, ha2⟩ := h f (by simp)
    have hle : ∀ (fs : List Field) (o : Nat), tiles P fs o cs.length = true → o ≤ cs.length := by
      intro fs
      induction fs with
      | nil => intro o h; have : o = cs.length := by simpa [tiles] using h
               omega
      | cons g gs ih => intro o h; simp only [tiles, Bool.and_eq_true] at h; have := ih _ h.2; omega
    have hle' := hle fs _ ht.2
    obtain ⟨b, hb1, hb2⟩ := ih (off + P.cellsOf f.type) hle' ht.2 fun g hg => h g (by simp [hg])
    rw [ht.1] at ha2
    refine ⟨a ++ b, ⟨a, b, rfl, ?_, ha1, hb1⟩, ?_⟩
    · rw [ha2.1]; simp; omega
    · have := ha2.append hb2
      rw [← List.drop_drop, List.take_append_drop] at this
      exact this
theorem trod_data (hc : closedB P L = true) {sp : Nat → Bool} {held : Bool} : ∀ (fuel : Nat) (t : TypeId) (cs : List Value) (x : DataW H × List MemPlace), t ∈ L →
    DataW.trod enc P w 0 sp held fuel t cs = some x → ∃ ds, WT P fuel t ds ∧ RepL w ds cs
  | 0, t, cs, x, _, h => by simp [DataW.trod] at h
  | n + 1, t, cs, x, ht, h => by
    have hcl := closed_at hc ht
    cases hu : P.underlying t with
    | none => rw [hu] at hcl; cases hcl
    | some u =>
      rw [hu] at hcl
      cases u with
      | bool =>
        obtain ⟨b, rfl, _⟩ := DataW.trod_bool hu h
        exact ⟨[.b b], by simp only [WT, hu]; exact ⟨b, rfl⟩, RepL.one (.b b) rfl⟩
      | int k =>
        obtain ⟨m, rfl, _, hw⟩ := DataW.trod_int hu h
        exact ⟨[.i k m], by simp only [WT, hu]; exact ⟨m, rfl, hw⟩, RepL.one (.i k m) rfl⟩
      | string =>
        obtain ⟨s, rfl, _, hs⟩ := DataW.trod_string hu h
        have hl : s.data.toList.length ≤ 9223372036854775807 := by
          have h1 : s.data.toList.length = s.size := by rw [Array.length_toList]; rfl
          rw [h1]; exact hs
        refine ⟨[.s s.data.toList], ?_, RepL.one ?_ rfl⟩
        · simp only [WT, hu]; exact ⟨_, rfl, hl⟩
        · exact .s s.data.toList
      | slice e =>
        simp only [Bool.and_eq_true, beq_iff_eq, decide_eq_true_eq, List.contains_iff_mem] at hcl
        obtain ⟨⟨h1, he⟩, hpos⟩ := hcl
        rcases DataW.trod_slice hu h with ⟨rfl, _⟩ | ⟨a, len, cap, elems, rest, m, hm, rfl, _, _, hlc, hcm, hel, hget, _, _⟩
        · exact ⟨[.sl []], by simp only [WT, hu]; exact ⟨[], rfl, by simp, fun x hx => by cases hx⟩, RepL.one (.nil _ _) rfl⟩
        · cases hm
          have hall : ∀ i, i < len → ∃ ds : List D, ds.length = P.cellsOf e ∧ WT P n e ds ∧ ∃ vs, w.cells? 0 (a.add (i * P.cellsOf e)) (P.cellsOf e) = some vs ∧ RepL w ds vs := by
            intro i hi
            have hg := hget i hi
            cases hcs : w.cells? 0 (a.add (i * P.cellsOf e)) (P.cellsOf e) with
            | none =>
              rw [hcs] at hg
              have : i < elems.length := by omega
              rw [List.getElem?_eq_getElem this] at hg
              cases hg
            | some vs =>
              rw [hcs] at hg
              have hlt : i < elems.length := by omega
              rw [List.getElem?_eq_getElem hlt] at hg
              obtain ⟨ds, hd1, hd2⟩ := trod_data hc n e vs _ he hg
              have hv := (cells_spot hpos hcs).2.1
              exact ⟨ds, by rw [hd2.1, hv], hd1, vs, rfl, hd2⟩
          obtain ⟨es, hes, hp⟩ := choose_list len hall
          have hwt : WT P (n + 1) t [.sl es] := by
            simp only [WT, hu]
            refine ⟨es, rfl, by have : cap ≤ 9223372036854775807 := hcm
                                omega, fun x hx => ?_⟩
            obtain ⟨i, hi⟩ := List.getElem?_of_mem hx
            exact ⟨(hp i x hi).1, (hp i x hi).2.1⟩
          refine ⟨[.sl es], hwt, ?_⟩
          cases hes0 : es with
          | nil =>
            have h0 : len = 0 := by rw [← hes, hes0]; rfl
            subst h0
            exact RepL.one (.nil _ _) rfl
          | cons e0 es0 =>
            have hlpos : 0 < len := by rw [← hes, hes0]; simp
            have hlen : ∀ x ∈ es, x.length = P.cellsOf e := fun x hx => by
              obtain ⟨i, hi⟩ := List.getElem?_of_mem hx
              exact (hp i x hi).1
            obtain ⟨ds0, _, _, vs0, hvs0, _⟩ := hall 0 hlpos
            have hadd0 : a.add (0 * P.cellsOf e) = a := by simp [Addr.add]
            rw [hadd0] at hvs0
            obtain ⟨hsp, _, c, tt, fz, hblk, _⟩ := cells_spot hpos hvs0
            have hcell : ∀ i r, i < len → r < P.cellsOf e → ∃ (x : List D) (v : Value) (d : D), es[i]? = some x ∧ x[r]? = some d ∧ c[a.off + (i * P.cellsOf e + r)]? = some v ∧ RepD w (allFast w) d v := by
              intro i r hi hr
              have hlt : i < es.length := by omega
              obtain ⟨hx1, hx2, vs, hvs, hrep⟩ := hp i es[i] (List.getElem?_eq_getElem hlt)
              obtain ⟨_, hvl, c', t', fz', hblk', hcc⟩ := cells_spot hpos hvs
              have hb' : (a.add (i * P.cellsOf e)).block = a.block := by unfold Addr.add; split <;> rfl
              have ho' : (a.add (i * P.cellsOf e)).off = a.off + i * P.cellsOf e := by unfold Addr.add; split <;> simp_all
              rw [hb', hblk] at hblk'
              cases hblk'
              obtain ⟨v, hv1, hv2⟩ := hcc r hr
              have hdr : r < es[i].length := by omega
              obtain ⟨v', hv', hd', _⟩ := hrep.2 r es[i][r] (List.getElem?_eq_getElem hdr)
              rw [hv1] at hv'; cases hv'
              refine ⟨es[i], v, es[i][r], List.getElem?_eq_getElem hlt, List.getElem?_eq_getElem hdr, ?_, hd'⟩
              rw [ho'] at hv2
              rw [← Nat.add_assoc]; exact hv2
            have hbound : a.off + len * P.cellsOf e ≤ c.size := by
              obtain ⟨_, v, _, _, _, hv, _⟩ := hcell (len - 1) (P.cellsOf e - 1) (by omega) (by omega)
              have := (Array.getElem?_eq_some_iff.1 hv).1
              have e1 : (len - 1) * P.cellsOf e + P.cellsOf e = len * P.cellsOf e := by
                rw [← Nat.succ_mul]; congr 1; omega
              omega
            have key : RepD w (allFast w) (.sl es) (.slice (some ⟨a.block, a.off, none⟩) es.length cap) := by
              refine .sl a.block a.off cap (P.cellsOf e) es (fun j => (c[a.off + j]?).getD undef) c tt fz (by omega) hlen hblk ?_ (fun j hj => ?_) (fun j d hj => ?_)
              · unfold allFast; rw [hblk, hes]; exact hbound
              · have : a.off + j < c.size := by rw [hes] at hj; omega
                rw [Array.getElem?_eq_getElem this]; rfl
              · have hfl : es.flatten.length = es.length * P.cellsOf e := flat_len es _ hlen
                have hjl : j < es.length * P.cellsOf e := by rw [← hfl]; exact (List.getElem?_eq_some_iff.1 hj).1
                have hi : j / P.cellsOf e < len := by rw [← hes]; exact (Nat.div_lt_iff_lt_mul hpos).2 hjl
                obtain ⟨x, v, d', hx, hd', hv, hr⟩ := hcell (j / P.cellsOf e) (j % P.cellsOf e) hi (Nat.mod_lt _ hpos)
                have hlt' : j / P.cellsOf e < es.length := by omega
                have hfg := flat_get es (P.cellsOf e) hlen (j / P.cellsOf e) (j % P.cellsOf e) hlt' (Nat.mod_lt _ hpos)
                have hj' : j / P.cellsOf e * P.cellsOf e + j % P.cellsOf e = j := by rw [Nat.mul_comm]; exact Nat.div_add_mod j _
                rw [hj', hj] at hfg
                rw [List.getElem?_eq_getElem hlt'] at hx
                cases hx
                rw [hd'] at hfg
                cases hfg
                rw [hj'] at hv
                rw [hv]
                exact hr
            rw [← hes0]
            refine RepL.one ?_ rfl
            have ha : a = ⟨a.block, a.off, none⟩ := by cases a; simp at hsp; simp [hsp]
            rw [ha, ← hes]
            exact key
      | struct fs =>
        simp only [Bool.and_eq_true] at hcl
        obtain ⟨htl, hfs⟩ := hcl
        obtain ⟨xs, m, hm, rfl, hlen, hxs, hfld⟩ := DataW.trod_struct hu h
        cases hm
        rw [← hlen] at htl
        obtain ⟨ds, h1, h2⟩ := trod_fields (w := w) (n := n) (cs := cs) 0 (Nat.zero_le _) htl fun f hf => by
          obtain ⟨i, hi⟩ := List.getElem?_of_mem hf
          have hi' : fs[i]? = some f := by simpa using hi
          have hg := hfld i f hi'
          have hlt : i < xs.length := by
            rw [hxs]; exact (Array.getElem?_eq_some_iff.1 hi').1
          rw [List.getElem?_eq_getElem hlt] at hg
          have hfL : f.type ∈ L := by
            have := List.all_eq_true.1 hfs f hf
            simpa using this
          exact trod_data hc n f.type _ _ hfL hg
        refine ⟨ds, by simp only [WT, hu]; exact h1, ?_⟩
        rw [List.drop_zero] at h2
        exact h2
      | _ => cases hcl
end
end Go.Ab

namespace Go.Ab
open Go.ChangeShapes Go.WideShapes Go.ChangeAt Go.RowKit
section
variable {H : Type} {enc : TypeId × Value → H} {P : Program} {W W' : World} {L : List TypeId} {t : TypeId} {v : Value} {base : Nat}
theorem arg_struct {fs : Array Field} {ds : List D} (ht : P.underlying t = some (.struct fs)) (hok : Value.okWide P W .any base t v) (hL : RepL W ds v.cells.toList) : RepV W (allFast W) [] [] (.agg (ds.map .d)) v := by
  obtain ⟨cs, rfl, _⟩ := okWide_struct ht hok
  refine ⟨cs, rfl, by rw [List.length_map, hL.1]; rfl, fun j x hj => ?_⟩
  rw [List.getElem?_map] at hj
  cases hd : ds[j]? with
  | none => rw [hd] at hj; cases hj
  | some d =>
    rw [hd] at hj
    cases hj
    obtain ⟨u, h1, h2, h3⟩ := hL.2 j d hd
    exact ⟨u, h1, h2, h3⟩
theorem repVs_nil : RepVs W (allFast W) [] [] [] [] := ⟨rfl, fun j x h => by simp at h⟩
theorem repVs_cons {x : V} {xs : List V} {vs : List Value} (h1 : RepV W (allFast W) [] [] x v) (h2 : RepVs W (allFast W) [] [] xs vs) : RepVs W (allFast W) [] [] (x :: xs) (v :: vs) := by
  refine ⟨by simp [h2.1], fun j y hj => ?_⟩
  cases j with
  | zero => cases hj; exact ⟨v, rfl, h1⟩
  | succ j => exact h2.2 j y hj
theorem repS_nil (W : World) : RepS W (allFast W) [] [] where
  obj := fun k o h => by rw [getO_nil] at h; cases h
  apart := fun k k' o o' h h' b h1 => by rw [getO_nil] at h1; cases h1
  shape := ⟨rfl, fun l fr h => by simp at h⟩
  live := fun b => by
    by_cases h : b < W.heap.size
    · exact .inl h
    · right
      unfold allFast
      rw [Array.getElem?_eq_none (by omega)]
theorem no_own {b : Nat} : ¬ Own [] [] b := fun ⟨k, o, h, h1, _⟩ => by rw [getO_nil] at h1; cases h1
/-- What the row's arguments were, they are behind the call. -/
theorem trodAll_stays (hl : laidOutB P = true) (hsame : ∀ b, b < W.heap.size → W'.heap[b]? = W.heap[b]?) (sp : Nat → Bool) : ∀ (ts : List TypeId) (vs : List Value) (ds : List (DataW H)) (ps : List MemPlace),
    (ts.all fun t => P.readableRec t && decide (t < P.types.size)) = true → (∀ p ∈ ps, p.block < W.heap.size ∧ sp p.block = true) →
      DataW.TrodAll enc P W 0 (fun _ => true) true ts vs ds ps → DataW.TrodAll enc P W' 0 sp true ts vs ds ps
  | [], [], [], ps, _, _, h => h
  | t :: ts, v :: vs, d :: ds, ps, hr, hlt, h => by
    simp only [List.all_cons, Bool.and_eq_true, decide_eq_true_eq] at hr
    obtain ⟨p, q, h1, h2, rfl⟩ := h
    refine ⟨p, q, WideElems.Trod_stays hl hr.1.1 hr.1.2 h1 (fun x hx => ?_) (fun x hx => (hlt x (by simp [hx])).2), trodAll_stays hl hsame sp ts vs ds q hr.2 (fun x hx => hlt x (by simp [hx])) h2, rfl⟩
    have hb := (hlt x (by simp [hx])).1
    cases x with
    | cell b o => exact World.cell?_of_block (w := W) (hsame b hb)
    | map b => exact hsame b hb
  | [], [], _ :: _, ps, _, _, h => h.elim
  | [], _ :: _, _, ps, _, _, h => h.elim
  | _ :: _, [], _, ps, _, _, h => h.elim
  | _ :: _, _ :: _, [], ps, _, _, h => h.elim
/-- A law that answers true, as its row asks. -/
theorem law_post {f : FuncId} {fn : Func} {s : ChangeSpec} {args : Array Value} {ds gs : List (DataW H)} {before : List MemPlace} {vs : List V} {tb : TypeId} (hl : laidOutB P = true)
    (hr : (fn.params.toList.all fun t => P.readableRec t && decide (t < P.types.size)) = true) (hvars : s.vars = []) (hres : fn.resultTypes = #[tb]) (htb : P.underlying tb = some .bool)
    (hs1 : (s.fn H (ds ++ gs)).results = [.lit (.bool true)]) (hs2 : (s.fn H (ds ++ gs)).args = ds) (hs3 : (s.fn H (ds ++ gs)).vars = [])
    (hW : DataW.Whole enc P fn.params.toList s.vars false W args.toList ds gs before) (hargs : RepVs W (allFast W) [] [] vs args.toList)
    (hcall : ACall P f vs [] fun r _ => r = .c (.d (.b true))) :
    Calls P f args W fun e W' => ∃ v, e = .returned v ∧ s.post enc P fn false true false false W args v W' := by
  have hc := hcall.2 W (allFast W) [] args.toList (repS_nil W) hargs
  have e1 : args.toList.toArray = args := by simp
  rw [e1] at hc
  refine hc.mono fun e W' ⟨v, r, S', σ', β', he, hS', hk, hst, hv, hp⟩ => ?_
  subst hp
  obtain ⟨hv, _⟩ := hv
  cases hv
  refine ⟨_, he, ?_⟩
  have hsame : ∀ b, b < W.heap.size → W'.heap[b]? = W.heap[b]? := fun b hb => (hst.far b hb no_own).1
  have hlt := fun p hp => hW.lt p hp
  have hW0 := hW
  obtain ⟨pa, q, hA, hV, rfl, hz, hn⟩ := hW
  rw [hvars] at hV
  have hq : gs = [] ∧ q = [] := by
    obtain ⟨h1, h2⟩ := trodVars_none hV
    exact ⟨h1, h2⟩
  obtain ⟨rfl, rfl⟩ := hq
  rw [List.append_nil] at *
  refine ⟨ds, [], pa, [], pa, [], ?_, ?_, ?_, ?_, ?_, fun h => by cases h⟩
  · simpa using hW0
  · rw [List.append_nil, hs1, hres]
    exact trodAll_cons_mk (shut_bool htb _) trodAll_mk0
  · rw [List.append_nil, hs2]
    exact trodAll_stays hl hsame _ _ _ _ _ hr (fun p hp => ⟨hlt p hp, by simpa using hlt p hp⟩) hA
  · rw [List.append_nil, hs3, hvars]
    rfl
  · refine ⟨hst.os, hst.output, fun i hi => ?_⟩
    rw [hsame i hi]
    split <;> simp_all
end
end Go.Ab

namespace Go.Ab
mutual
def D.sz : D → Nat
  | .s l => l.length
  | .sl es => es.length + szRows es
  | .b _ => 0
  | .i _ _ => 0
  | .o _ => 0
def szRow : List D → Nat
  | [] => 0
  | d :: ds => d.sz + szRow ds
def szRows : List (List D) → Nat
  | [] => 0
  | r :: rs => szRow r + szRows rs
end
theorem szRow_append : ∀ (a b : List D), szRow (a ++ b) = szRow a + szRow b
  | [], b => by simp [szRow]
  | d :: ds, b => by rw [List.cons_append, szRow, szRow_append ds b, szRow]; omega
/-- What is left of an allowance, or -1. -/
def sub1 (left : Int) (n : Nat) : Int := if left - n < 0 then -1 else left - n
theorem sub1_nn {l : Int} {a : Nat} (h : ¬ sub1 l a < 0) : sub1 l a = l - a ∧ 0 ≤ l - a := by
  unfold sub1 at *
  split at h
  · omega
  · rename_i h'; exact ⟨if_neg h', by omega⟩
theorem sub1_neg {l : Int} {a : Nat} (h : sub1 l a < 0) : l - a < 0 := by
  unfold sub1 at *
  split at h <;> omega
theorem sub1_no {l : Int} {a : Nat} (h : l - a < 0) : sub1 l a = -1 := if_pos h
theorem sub1_yes {l : Int} {a : Nat} (h : 0 ≤ l - a) : sub1 l a = l - a := if_neg (by omega)
theorem int_eq {k : IntKind} {a b : Int} (h : a = b) : V.c (.d (.i k a)) = V.c (.d (.i k b)) := by rw [h]
theorem bool_eq {a b : Bool} (h : a = b) : V.c (.d (.b a)) = V.c (.d (.b b)) := by rw [h]
/-- Truth as a bool. -/
noncomputable def dec (p : Prop) : Bool := @decide p (Classical.propDecidable p)
theorem dec_true {p : Prop} (h : p) : dec p = true := by simp [dec, h]
theorem dec_false {p : Prop} (h : ¬ p) : dec p = false := by simp [dec, h]
theorem of_dec {p : Prop} (h : dec p = true) : p := by simpa [dec] using h
theorem of_dec_false {p : Prop} (h : dec p = false) : ¬ p := by simpa [dec] using h
theorem dec_eq_true {p : Prop} : (dec p = true) = p := by simp [dec]
theorem dec_eq_false {p : Prop} : (dec p = false) = ¬ p := by simp [dec]
attribute [wf_preprocess] dec_eq_true dec_eq_false
theorem dec_congr {p q : Prop} (h : p ↔ q) : dec p = dec q := by rw [propext h]
theorem dec_True : dec True = true := dec_true trivial
theorem dec_False : dec False = false := dec_false id
attribute [go_sem] dec_True dec_False
theorem decide_dec {p : Prop} [Decidable p] : decide p = dec p := by by_cases h : p <;> simp [dec, h]
theorem szRows_mem {r : List D} : ∀ {rs : List (List D)}, r ∈ rs → szRow r ≤ szRows rs
  | a :: rs, h => by
    rw [szRows]
    rcases List.mem_cons.1 h with rfl | h
    · omega
    · have := szRows_mem h; omega
/-! ### a row filled from its head on -/
def Filled (z i : Nat) (R rows : List (List D)) : Prop := R.length = rows.length ∧ (∀ r ∈ R, r.length = z) ∧ ∀ j, j < i → R[j]? = rows[j]?
theorem Filled.start {z : Nat} {rows : List (List D)} {zero : List D} {n : Nat} (hn : n = rows.length) (h : zero.length = z) : Filled z 0 (List.replicate n zero) rows := by
  subst hn
  exact ⟨by simp, fun r hr => by rw [List.eq_of_mem_replicate hr]; exact h, fun j h => by omega⟩
theorem Filled.step {z i : Nat} {R rows : List (List D)} {row : List D} (h : Filled z i R rows) (hi : rows[i]? = some row) (hr : row.length = z) : Filled z (i + 1) (R.set i (spliceD (R.getD i []) 0 row)) rows := by
  obtain ⟨h1, h2, h3⟩ := h
  have hlt : i < rows.length := (List.getElem?_eq_some_iff.1 hi).1
  have hs : spliceD (R.getD i []) 0 row = row := by
    have hm : R.getD i [] ∈ R := by
      rw [List.getD_eq_getElem?_getD, List.getElem?_eq_getElem (by omega)]
      exact List.getElem_mem _
    have := h2 _ hm
    unfold spliceD
    rw [List.take_zero, List.nil_append, Nat.zero_add, hr, List.drop_eq_nil_of_le (by omega), List.append_nil]
  rw [hs]
  refine ⟨by simpa using h1, fun r hr' => ?_, fun j hj => ?_⟩
  · rcases List.mem_or_eq_of_mem_set hr' with h | h
    · exact h2 r h
    · rw [h]; exact hr
  · by_cases e : j = i
    · subst e
      rw [hi, List.getElem?_set_self (by omega)]
    · rw [List.getElem?_set_ne (by omega)]
      exact h3 j (by omega)
theorem Filled.done {z i : Nat} {R rows : List (List D)} (h : Filled z i R rows) (hi : rows.length ≤ i) : R = rows := by
  obtain ⟨h1, h2, h3⟩ := h
  refine List.ext_getElem? fun j => ?_
  by_cases hj : j < i
  · exact h3 j hj
  · rw [List.getElem?_eq_none (by omega), List.getElem?_eq_none (by omega)]
end Go.Ab

namespace Go.Ab
def encS (s : List UInt8) : List D := [.s s]
def encI (n : Int) : List D := [.i .i64 n]
inductive MType where
  | mk (fKind : Int) (fName : List UInt8) (fArgs : List MType)
def MType.fKind : MType → Int | .mk x _ _ => x
def MType.fName : MType → List UInt8 | .mk _ x _ => x
def MType.fArgs : MType → List MType | .mk _ _ x => x
theorem MType.eta (x : MType) : MType.mk x.fKind x.fName x.fArgs = x := by cases x; rfl
theorem MType.ext {x y : MType} (h0 : x.fKind = y.fKind) (h1 : x.fName = y.fName) (h2 : x.fArgs = y.fArgs) : x = y := by
  rw [← MType.eta x, ← MType.eta y, h0, h1, h2]
mutual
def MType.enc : MType → List D
  | .mk a0 a1 a2 => [.i .i64 a0, .s a1, .sl (MType.encs a2)]
def MType.encs : List MType → List (List D)
  | [] => []
  | x :: xs => x.enc :: MType.encs xs
end
theorem MType.encs_map : ∀ l, MType.encs l = l.map MType.enc
  | [] => rfl
  | x :: xs => by rw [MType.encs, List.map_cons, MType.encs_map xs]
theorem MType.enc_eq (x : MType) : x.enc = [.i .i64 x.fKind, .s x.fName, .sl (x.fArgs.map MType.enc)] := by
  cases x; simp only [MType.enc, MType.encs_map, MType.fKind, MType.fName, MType.fArgs]
abbrev MType.v (x : MType) : V := .agg [.d (.i .i64 x.fKind), .d (.s x.fName), .d (.sl (x.fArgs.map MType.enc))]
theorem MType.v_eq (x : MType) : .agg (x.enc.map .d) = x.v := by
  simp only [MType.enc_eq, List.map_cons, List.map_nil, List.cons_append, List.nil_append, List.map_append]
theorem MType.enc_length (x : MType) : x.enc.length = 3 := by
  simp only [MType.enc_eq, List.length_append, List.length_cons, List.length_nil]
def MType.sz (x : MType) : Nat := szRow x.enc
theorem MType.sz_def (x : MType) : szRow x.enc = x.sz := rfl
theorem MType.lt_Args (x : MType) : SizeOf.sizeOf x.fArgs < SizeOf.sizeOf x := by cases x; simp [MType.fArgs]; omega
structure MBinding where
  fVar : List UInt8
  fType : MType
def MBinding.enc (x : MBinding) : List D := [.s x.fVar] ++ (x.fType.enc)
theorem MBinding.enc_eq (x : MBinding) : x.enc = [.s x.fVar] ++ (x.fType.enc) := rfl
theorem MBinding.eta (x : MBinding) : MBinding.mk x.fVar x.fType = x := rfl
theorem MBinding.ext' {x y : MBinding} (h0 : x.fVar = y.fVar) (h1 : x.fType = y.fType) : x = y := by
  cases x; cases y; simp_all
abbrev MBinding.v (x : MBinding) : V := .agg [.d (.s x.fVar), .d (.i .i64 x.fType.fKind), .d (.s x.fType.fName), .d (.sl (x.fType.fArgs.map MType.enc))]
theorem MBinding.v_eq (x : MBinding) : .agg (x.enc.map .d) = x.v := by
  simp only [MBinding.enc_eq, MType.enc_eq, List.map_cons, List.map_nil, List.cons_append, List.nil_append, List.map_append]
theorem MBinding.enc_length (x : MBinding) : x.enc.length = 4 := by
  simp only [MBinding.enc_eq, MType.enc_length, List.length_append, List.length_cons, List.length_nil]
def MBinding.sz (x : MBinding) : Nat := szRow x.enc
theorem MBinding.sz_def (x : MBinding) : szRow x.enc = x.sz := rfl
structure MBound where
  fTrait : List UInt8
  fType : MType
def MBound.enc (x : MBound) : List D := [.s x.fTrait] ++ (x.fType.enc)
theorem MBound.enc_eq (x : MBound) : x.enc = [.s x.fTrait] ++ (x.fType.enc) := rfl
theorem MBound.eta (x : MBound) : MBound.mk x.fTrait x.fType = x := rfl
theorem MBound.ext' {x y : MBound} (h0 : x.fTrait = y.fTrait) (h1 : x.fType = y.fType) : x = y := by
  cases x; cases y; simp_all
abbrev MBound.v (x : MBound) : V := .agg [.d (.s x.fTrait), .d (.i .i64 x.fType.fKind), .d (.s x.fType.fName), .d (.sl (x.fType.fArgs.map MType.enc))]
theorem MBound.v_eq (x : MBound) : .agg (x.enc.map .d) = x.v := by
  simp only [MBound.enc_eq, MType.enc_eq, List.map_cons, List.map_nil, List.cons_append, List.nil_append, List.map_append]
theorem MBound.enc_length (x : MBound) : x.enc.length = 4 := by
  simp only [MBound.enc_eq, MType.enc_length, List.length_append, List.length_cons, List.length_nil]
def MBound.sz (x : MBound) : Nat := szRow x.enc
theorem MBound.sz_def (x : MBound) : szRow x.enc = x.sz := rfl
mutual
inductive MExpr where
  | mk (fKind : Int) (fTrait : List UInt8) (fName : List UInt8) (fN : Int) (fType : MType) (fArgs : List MExpr) (fArms : List MArm)
inductive MArm where
  | mk (fConstructor : List UInt8) (fVars : List (List UInt8)) (fBody : MExpr)
end
def MExpr.fKind : MExpr → Int | .mk x _ _ _ _ _ _ => x
def MExpr.fTrait : MExpr → List UInt8 | .mk _ x _ _ _ _ _ => x
def MExpr.fName : MExpr → List UInt8 | .mk _ _ x _ _ _ _ => x
def MExpr.fN : MExpr → Int | .mk _ _ _ x _ _ _ => x
def MExpr.fType : MExpr → MType | .mk _ _ _ _ x _ _ => x
def MExpr.fArgs : MExpr → List MExpr | .mk _ _ _ _ _ x _ => x
def MExpr.fArms : MExpr → List MArm | .mk _ _ _ _ _ _ x => x
theorem MExpr.eta (x : MExpr) : MExpr.mk x.fKind x.fTrait x.fName x.fN x.fType x.fArgs x.fArms = x := by cases x; rfl
theorem MExpr.ext {x y : MExpr} (h0 : x.fKind = y.fKind) (h1 : x.fTrait = y.fTrait) (h2 : x.fName = y.fName) (h3 : x.fN = y.fN) (h4 : x.fType = y.fType) (h5 : x.fArgs = y.fArgs) (h6 : x.fArms = y.fArms) : x = y := by
  rw [← MExpr.eta x, ← MExpr.eta y, h0, h1, h2, h3, h4, h5, h6]
def MArm.fConstructor : MArm → List UInt8 | .mk x _ _ => x
def MArm.fVars : MArm → List (List UInt8) | .mk _ x _ => x
def MArm.fBody : MArm → MExpr | .mk _ _ x => x
theorem MArm.eta (x : MArm) : MArm.mk x.fConstructor x.fVars x.fBody = x := by cases x; rfl
theorem MArm.ext {x y : MArm} (h0 : x.fConstructor = y.fConstructor) (h1 : x.fVars = y.fVars) (h2 : x.fBody = y.fBody) : x = y := by
  rw [← MArm.eta x, ← MArm.eta y, h0, h1, h2]
mutual
def MExpr.enc : MExpr → List D
  | .mk a0 a1 a2 a3 a4 a5 a6 => [.i .i64 a0, .s a1, .s a2, .i .i64 a3] ++ (a4.enc ++ ([.sl (MExpr.encs a5), .sl (MArm.encs a6)]))
def MExpr.encs : List MExpr → List (List D)
  | [] => []
  | x :: xs => x.enc :: MExpr.encs xs
def MArm.enc : MArm → List D
  | .mk a0 a1 a2 => [.s a0, .sl (a1.map encS)] ++ (MExpr.enc a2)
def MArm.encs : List MArm → List (List D)
  | [] => []
  | x :: xs => x.enc :: MArm.encs xs
end
theorem MExpr.encs_map : ∀ l, MExpr.encs l = l.map MExpr.enc
  | [] => rfl
  | x :: xs => by rw [MExpr.encs, List.map_cons, MExpr.encs_map xs]
theorem MArm.encs_map : ∀ l, MArm.encs l = l.map MArm.enc
  | [] => rfl
  | x :: xs => by rw [MArm.encs, List.map_cons, MArm.encs_map xs]
theorem MExpr.enc_eq (x : MExpr) : x.enc = [.i .i64 x.fKind, .s x.fTrait, .s x.fName, .i .i64 x.fN] ++ (x.fType.enc ++ ([.sl (x.fArgs.map MExpr.enc), .sl (x.fArms.map MArm.enc)])) := by
  cases x; simp only [MExpr.enc, MExpr.encs_map, MArm.encs_map, MExpr.fKind, MExpr.fTrait, MExpr.fName, MExpr.fN, MExpr.fType, MExpr.fArgs, MExpr.fArms]
theorem MArm.enc_eq (x : MArm) : x.enc = [.s x.fConstructor, .sl (x.fVars.map encS)] ++ (x.fBody.enc) := by
  cases x; simp only [MArm.enc, MExpr.encs_map, MArm.encs_map, MArm.fConstructor, MArm.fVars, MArm.fBody]
abbrev MExpr.v (x : MExpr) : V := .agg [.d (.i .i64 x.fKind), .d (.s x.fTrait), .d (.s x.fName), .d (.i .i64 x.fN), .d (.i .i64 x.fType.fKind), .d (.s x.fType.fName), .d (.sl (x.fType.fArgs.map MType.enc)), .d (.sl (x.fArgs.map MExpr.enc)), .d (.sl (x.fArms.map MArm.enc))]
theorem MExpr.v_eq (x : MExpr) : .agg (x.enc.map .d) = x.v := by
  simp only [MExpr.enc_eq, MType.enc_eq, List.map_cons, List.map_nil, List.cons_append, List.nil_append, List.map_append]
theorem MExpr.enc_length (x : MExpr) : x.enc.length = 9 := by
  simp only [MExpr.enc_eq, MType.enc_length, List.length_append, List.length_cons, List.length_nil]
def MExpr.sz (x : MExpr) : Nat := szRow x.enc
theorem MExpr.sz_def (x : MExpr) : szRow x.enc = x.sz := rfl
theorem MExpr.lt_Args (x : MExpr) : SizeOf.sizeOf x.fArgs < SizeOf.sizeOf x := by cases x; simp [MExpr.fArgs]; omega
theorem MExpr.lt_Arms (x : MExpr) : SizeOf.sizeOf x.fArms < SizeOf.sizeOf x := by cases x; simp [MExpr.fArms]; omega
abbrev MArm.v (x : MArm) : V := .agg [.d (.s x.fConstructor), .d (.sl (x.fVars.map encS)), .d (.i .i64 x.fBody.fKind), .d (.s x.fBody.fTrait), .d (.s x.fBody.fName), .d (.i .i64 x.fBody.fN), .d (.i .i64 x.fBody.fType.fKind), .d (.s x.fBody.fType.fName), .d (.sl (x.fBody.fType.fArgs.map MType.enc)), .d (.sl (x.fBody.fArgs.map MExpr.enc)), .d (.sl (x.fBody.fArms.map MArm.enc))]
theorem MArm.v_eq (x : MArm) : .agg (x.enc.map .d) = x.v := by
  simp only [MArm.enc_eq, MExpr.enc_eq, MType.enc_eq, List.map_cons, List.map_nil, List.cons_append, List.nil_append, List.map_append]
theorem MArm.enc_length (x : MArm) : x.enc.length = 11 := by
  simp only [MArm.enc_eq, MExpr.enc_length, List.length_append, List.length_cons, List.length_nil]
def MArm.sz (x : MArm) : Nat := szRow x.enc
theorem MArm.sz_def (x : MArm) : szRow x.enc = x.sz := rfl
theorem MArm.lt_Body (x : MArm) : SizeOf.sizeOf x.fBody < SizeOf.sizeOf x := by cases x; simp [MArm.fBody]; omega
inductive MSExpr where
  | mk (fAtom : List UInt8) (fList : List MSExpr)
def MSExpr.fAtom : MSExpr → List UInt8 | .mk x _ => x
def MSExpr.fList : MSExpr → List MSExpr | .mk _ x => x
theorem MSExpr.eta (x : MSExpr) : MSExpr.mk x.fAtom x.fList = x := by cases x; rfl
theorem MSExpr.ext {x y : MSExpr} (h0 : x.fAtom = y.fAtom) (h1 : x.fList = y.fList) : x = y := by
  rw [← MSExpr.eta x, ← MSExpr.eta y, h0, h1]
mutual
def MSExpr.enc : MSExpr → List D
  | .mk a0 a1 => [.s a0, .sl (MSExpr.encs a1)]
def MSExpr.encs : List MSExpr → List (List D)
  | [] => []
  | x :: xs => x.enc :: MSExpr.encs xs
end
theorem MSExpr.encs_map : ∀ l, MSExpr.encs l = l.map MSExpr.enc
  | [] => rfl
  | x :: xs => by rw [MSExpr.encs, List.map_cons, MSExpr.encs_map xs]
theorem MSExpr.enc_eq (x : MSExpr) : x.enc = [.s x.fAtom, .sl (x.fList.map MSExpr.enc)] := by
  cases x; simp only [MSExpr.enc, MSExpr.encs_map, MSExpr.fAtom, MSExpr.fList]
abbrev MSExpr.v (x : MSExpr) : V := .agg [.d (.s x.fAtom), .d (.sl (x.fList.map MSExpr.enc))]
theorem MSExpr.v_eq (x : MSExpr) : .agg (x.enc.map .d) = x.v := by
  simp only [MSExpr.enc_eq, List.map_cons, List.map_nil, List.cons_append, List.nil_append, List.map_append]
theorem MSExpr.enc_length (x : MSExpr) : x.enc.length = 2 := by
  simp only [MSExpr.enc_eq, List.length_append, List.length_cons, List.length_nil]
def MSExpr.sz (x : MSExpr) : Nat := szRow x.enc
theorem MSExpr.sz_def (x : MSExpr) : szRow x.enc = x.sz := rfl
structure MSignature where
  fName : List UInt8
  fParams : List MType
  fResult : MType
  fHasDefault : Bool
  fVars : List (List UInt8)
  fBody : MExpr
def MSignature.enc (x : MSignature) : List D := [.s x.fName, .sl (x.fParams.map MType.enc)] ++ (x.fResult.enc ++ ([.b x.fHasDefault, .sl (x.fVars.map encS)] ++ (x.fBody.enc)))
theorem MSignature.enc_eq (x : MSignature) : x.enc = [.s x.fName, .sl (x.fParams.map MType.enc)] ++ (x.fResult.enc ++ ([.b x.fHasDefault, .sl (x.fVars.map encS)] ++ (x.fBody.enc))) := rfl
theorem MSignature.eta (x : MSignature) : MSignature.mk x.fName x.fParams x.fResult x.fHasDefault x.fVars x.fBody = x := rfl
theorem MSignature.ext' {x y : MSignature} (h0 : x.fName = y.fName) (h1 : x.fParams = y.fParams) (h2 : x.fResult = y.fResult) (h3 : x.fHasDefault = y.fHasDefault) (h4 : x.fVars = y.fVars) (h5 : x.fBody = y.fBody) : x = y := by
  cases x; cases y; simp_all
abbrev MSignature.v (x : MSignature) : V := .agg [.d (.s x.fName), .d (.sl (x.fParams.map MType.enc)), .d (.i .i64 x.fResult.fKind), .d (.s x.fResult.fName), .d (.sl (x.fResult.fArgs.map MType.enc)), .d (.b x.fHasDefault), .d (.sl (x.fVars.map encS)), .d (.i .i64 x.fBody.fKind), .d (.s x.fBody.fTrait), .d (.s x.fBody.fName), .d (.i .i64 x.fBody.fN), .d (.i .i64 x.fBody.fType.fKind), .d (.s x.fBody.fType.fName), .d (.sl (x.fBody.fType.fArgs.map MType.enc)), .d (.sl (x.fBody.fArgs.map MExpr.enc)), .d (.sl (x.fBody.fArms.map MArm.enc))]
theorem MSignature.v_eq (x : MSignature) : .agg (x.enc.map .d) = x.v := by
  simp only [MSignature.enc_eq, MExpr.enc_eq, MType.enc_eq, List.map_cons, List.map_nil, List.cons_append, List.nil_append, List.map_append]
theorem MSignature.enc_length (x : MSignature) : x.enc.length = 16 := by
  simp only [MSignature.enc_eq, MExpr.enc_length, MType.enc_length, List.length_append, List.length_cons, List.length_nil]
def MSignature.sz (x : MSignature) : Nat := szRow x.enc
theorem MSignature.sz_def (x : MSignature) : szRow x.enc = x.sz := rfl
structure MTrait where
  fName : List UInt8
  fSupertraits : List (List UInt8)
  fAuto : Bool
  fAssoc : Bool
  fSignatures : List MSignature
def MTrait.enc (x : MTrait) : List D := [.s x.fName, .sl (x.fSupertraits.map encS), .b x.fAuto, .b x.fAssoc, .sl (x.fSignatures.map MSignature.enc)]
theorem MTrait.enc_eq (x : MTrait) : x.enc = [.s x.fName, .sl (x.fSupertraits.map encS), .b x.fAuto, .b x.fAssoc, .sl (x.fSignatures.map MSignature.enc)] := rfl
theorem MTrait.eta (x : MTrait) : MTrait.mk x.fName x.fSupertraits x.fAuto x.fAssoc x.fSignatures = x := rfl
theorem MTrait.ext' {x y : MTrait} (h0 : x.fName = y.fName) (h1 : x.fSupertraits = y.fSupertraits) (h2 : x.fAuto = y.fAuto) (h3 : x.fAssoc = y.fAssoc) (h4 : x.fSignatures = y.fSignatures) : x = y := by
  cases x; cases y; simp_all
abbrev MTrait.v (x : MTrait) : V := .agg [.d (.s x.fName), .d (.sl (x.fSupertraits.map encS)), .d (.b x.fAuto), .d (.b x.fAssoc), .d (.sl (x.fSignatures.map MSignature.enc))]
theorem MTrait.v_eq (x : MTrait) : .agg (x.enc.map .d) = x.v := by
  simp only [MTrait.enc_eq, List.map_cons, List.map_nil, List.cons_append, List.nil_append, List.map_append]
theorem MTrait.enc_length (x : MTrait) : x.enc.length = 5 := by
  simp only [MTrait.enc_eq, List.length_append, List.length_cons, List.length_nil]
def MTrait.sz (x : MTrait) : Nat := szRow x.enc
theorem MTrait.sz_def (x : MTrait) : szRow x.enc = x.sz := rfl
structure MConstructor where
  fName : List UInt8
  fFields : List MType
def MConstructor.enc (x : MConstructor) : List D := [.s x.fName, .sl (x.fFields.map MType.enc)]
theorem MConstructor.enc_eq (x : MConstructor) : x.enc = [.s x.fName, .sl (x.fFields.map MType.enc)] := rfl
theorem MConstructor.eta (x : MConstructor) : MConstructor.mk x.fName x.fFields = x := rfl
theorem MConstructor.ext' {x y : MConstructor} (h0 : x.fName = y.fName) (h1 : x.fFields = y.fFields) : x = y := by
  cases x; cases y; simp_all
abbrev MConstructor.v (x : MConstructor) : V := .agg [.d (.s x.fName), .d (.sl (x.fFields.map MType.enc))]
theorem MConstructor.v_eq (x : MConstructor) : .agg (x.enc.map .d) = x.v := by
  simp only [MConstructor.enc_eq, List.map_cons, List.map_nil, List.cons_append, List.nil_append, List.map_append]
theorem MConstructor.enc_length (x : MConstructor) : x.enc.length = 2 := by
  simp only [MConstructor.enc_eq, List.length_append, List.length_cons, List.length_nil]
def MConstructor.sz (x : MConstructor) : Nat := szRow x.enc
theorem MConstructor.sz_def (x : MConstructor) : szRow x.enc = x.sz := rfl
structure MDataType where
  fName : List UInt8
  fVars : List (List UInt8)
  fConstructors : List MConstructor
def MDataType.enc (x : MDataType) : List D := [.s x.fName, .sl (x.fVars.map encS), .sl (x.fConstructors.map MConstructor.enc)]
theorem MDataType.enc_eq (x : MDataType) : x.enc = [.s x.fName, .sl (x.fVars.map encS), .sl (x.fConstructors.map MConstructor.enc)] := rfl
theorem MDataType.eta (x : MDataType) : MDataType.mk x.fName x.fVars x.fConstructors = x := rfl
theorem MDataType.ext' {x y : MDataType} (h0 : x.fName = y.fName) (h1 : x.fVars = y.fVars) (h2 : x.fConstructors = y.fConstructors) : x = y := by
  cases x; cases y; simp_all
abbrev MDataType.v (x : MDataType) : V := .agg [.d (.s x.fName), .d (.sl (x.fVars.map encS)), .d (.sl (x.fConstructors.map MConstructor.enc))]
theorem MDataType.v_eq (x : MDataType) : .agg (x.enc.map .d) = x.v := by
  simp only [MDataType.enc_eq, List.map_cons, List.map_nil, List.cons_append, List.nil_append, List.map_append]
theorem MDataType.enc_length (x : MDataType) : x.enc.length = 3 := by
  simp only [MDataType.enc_eq, List.length_append, List.length_cons, List.length_nil]
def MDataType.sz (x : MDataType) : Nat := szRow x.enc
theorem MDataType.sz_def (x : MDataType) : szRow x.enc = x.sz := rfl
structure MMethod where
  fName : List UInt8
  fVars : List (List UInt8)
  fBody : MExpr
def MMethod.enc (x : MMethod) : List D := [.s x.fName, .sl (x.fVars.map encS)] ++ (x.fBody.enc)
theorem MMethod.enc_eq (x : MMethod) : x.enc = [.s x.fName, .sl (x.fVars.map encS)] ++ (x.fBody.enc) := rfl
theorem MMethod.eta (x : MMethod) : MMethod.mk x.fName x.fVars x.fBody = x := rfl
theorem MMethod.ext' {x y : MMethod} (h0 : x.fName = y.fName) (h1 : x.fVars = y.fVars) (h2 : x.fBody = y.fBody) : x = y := by
  cases x; cases y; simp_all
abbrev MMethod.v (x : MMethod) : V := .agg [.d (.s x.fName), .d (.sl (x.fVars.map encS)), .d (.i .i64 x.fBody.fKind), .d (.s x.fBody.fTrait), .d (.s x.fBody.fName), .d (.i .i64 x.fBody.fN), .d (.i .i64 x.fBody.fType.fKind), .d (.s x.fBody.fType.fName), .d (.sl (x.fBody.fType.fArgs.map MType.enc)), .d (.sl (x.fBody.fArgs.map MExpr.enc)), .d (.sl (x.fBody.fArms.map MArm.enc))]
theorem MMethod.v_eq (x : MMethod) : .agg (x.enc.map .d) = x.v := by
  simp only [MMethod.enc_eq, MExpr.enc_eq, MType.enc_eq, List.map_cons, List.map_nil, List.cons_append, List.nil_append, List.map_append]
theorem MMethod.enc_length (x : MMethod) : x.enc.length = 11 := by
  simp only [MMethod.enc_eq, MExpr.enc_length, List.length_append, List.length_cons, List.length_nil]
def MMethod.sz (x : MMethod) : Nat := szRow x.enc
theorem MMethod.sz_def (x : MMethod) : szRow x.enc = x.sz := rfl
structure MInstance where
  fTrait : List UInt8
  fVars : List (List UInt8)
  fHead : MType
  fWhere : List MBound
  fDefault : Bool
  fHasAssoc : Bool
  fAssoc : MType
  fMethods : List MMethod
def MInstance.enc (x : MInstance) : List D := [.s x.fTrait, .sl (x.fVars.map encS)] ++ (x.fHead.enc ++ ([.sl (x.fWhere.map MBound.enc), .b x.fDefault, .b x.fHasAssoc] ++ (x.fAssoc.enc ++ ([.sl (x.fMethods.map MMethod.enc)]))))
theorem MInstance.enc_eq (x : MInstance) : x.enc = [.s x.fTrait, .sl (x.fVars.map encS)] ++ (x.fHead.enc ++ ([.sl (x.fWhere.map MBound.enc), .b x.fDefault, .b x.fHasAssoc] ++ (x.fAssoc.enc ++ ([.sl (x.fMethods.map MMethod.enc)])))) := rfl
theorem MInstance.eta (x : MInstance) : MInstance.mk x.fTrait x.fVars x.fHead x.fWhere x.fDefault x.fHasAssoc x.fAssoc x.fMethods = x := rfl
theorem MInstance.ext' {x y : MInstance} (h0 : x.fTrait = y.fTrait) (h1 : x.fVars = y.fVars) (h2 : x.fHead = y.fHead) (h3 : x.fWhere = y.fWhere) (h4 : x.fDefault = y.fDefault) (h5 : x.fHasAssoc = y.fHasAssoc) (h6 : x.fAssoc = y.fAssoc) (h7 : x.fMethods = y.fMethods) : x = y := by
  cases x; cases y; simp_all
abbrev MInstance.v (x : MInstance) : V := .agg [.d (.s x.fTrait), .d (.sl (x.fVars.map encS)), .d (.i .i64 x.fHead.fKind), .d (.s x.fHead.fName), .d (.sl (x.fHead.fArgs.map MType.enc)), .d (.sl (x.fWhere.map MBound.enc)), .d (.b x.fDefault), .d (.b x.fHasAssoc), .d (.i .i64 x.fAssoc.fKind), .d (.s x.fAssoc.fName), .d (.sl (x.fAssoc.fArgs.map MType.enc)), .d (.sl (x.fMethods.map MMethod.enc))]
theorem MInstance.v_eq (x : MInstance) : .agg (x.enc.map .d) = x.v := by
  simp only [MInstance.enc_eq, MType.enc_eq, List.map_cons, List.map_nil, List.cons_append, List.nil_append, List.map_append]
theorem MInstance.enc_length (x : MInstance) : x.enc.length = 12 := by
  simp only [MInstance.enc_eq, MType.enc_length, List.length_append, List.length_cons, List.length_nil]
def MInstance.sz (x : MInstance) : Nat := szRow x.enc
theorem MInstance.sz_def (x : MInstance) : szRow x.enc = x.sz := rfl
structure MParam where
  fName : List UInt8
  fType : MType
def MParam.enc (x : MParam) : List D := [.s x.fName] ++ (x.fType.enc)
theorem MParam.enc_eq (x : MParam) : x.enc = [.s x.fName] ++ (x.fType.enc) := rfl
theorem MParam.eta (x : MParam) : MParam.mk x.fName x.fType = x := rfl
theorem MParam.ext' {x y : MParam} (h0 : x.fName = y.fName) (h1 : x.fType = y.fType) : x = y := by
  cases x; cases y; simp_all
abbrev MParam.v (x : MParam) : V := .agg [.d (.s x.fName), .d (.i .i64 x.fType.fKind), .d (.s x.fType.fName), .d (.sl (x.fType.fArgs.map MType.enc))]
theorem MParam.v_eq (x : MParam) : .agg (x.enc.map .d) = x.v := by
  simp only [MParam.enc_eq, MType.enc_eq, List.map_cons, List.map_nil, List.cons_append, List.nil_append, List.map_append]
theorem MParam.enc_length (x : MParam) : x.enc.length = 4 := by
  simp only [MParam.enc_eq, MType.enc_length, List.length_append, List.length_cons, List.length_nil]
def MParam.sz (x : MParam) : Nat := szRow x.enc
theorem MParam.sz_def (x : MParam) : szRow x.enc = x.sz := rfl
structure MFunction where
  fName : List UInt8
  fVars : List (List UInt8)
  fWhere : List MBound
  fParams : List MParam
  fResult : MType
  fBody : MExpr
def MFunction.enc (x : MFunction) : List D := [.s x.fName, .sl (x.fVars.map encS), .sl (x.fWhere.map MBound.enc), .sl (x.fParams.map MParam.enc)] ++ (x.fResult.enc ++ (x.fBody.enc))
theorem MFunction.enc_eq (x : MFunction) : x.enc = [.s x.fName, .sl (x.fVars.map encS), .sl (x.fWhere.map MBound.enc), .sl (x.fParams.map MParam.enc)] ++ (x.fResult.enc ++ (x.fBody.enc)) := rfl
theorem MFunction.eta (x : MFunction) : MFunction.mk x.fName x.fVars x.fWhere x.fParams x.fResult x.fBody = x := rfl
theorem MFunction.ext' {x y : MFunction} (h0 : x.fName = y.fName) (h1 : x.fVars = y.fVars) (h2 : x.fWhere = y.fWhere) (h3 : x.fParams = y.fParams) (h4 : x.fResult = y.fResult) (h5 : x.fBody = y.fBody) : x = y := by
  cases x; cases y; simp_all
abbrev MFunction.v (x : MFunction) : V := .agg [.d (.s x.fName), .d (.sl (x.fVars.map encS)), .d (.sl (x.fWhere.map MBound.enc)), .d (.sl (x.fParams.map MParam.enc)), .d (.i .i64 x.fResult.fKind), .d (.s x.fResult.fName), .d (.sl (x.fResult.fArgs.map MType.enc)), .d (.i .i64 x.fBody.fKind), .d (.s x.fBody.fTrait), .d (.s x.fBody.fName), .d (.i .i64 x.fBody.fN), .d (.i .i64 x.fBody.fType.fKind), .d (.s x.fBody.fType.fName), .d (.sl (x.fBody.fType.fArgs.map MType.enc)), .d (.sl (x.fBody.fArgs.map MExpr.enc)), .d (.sl (x.fBody.fArms.map MArm.enc))]
theorem MFunction.v_eq (x : MFunction) : .agg (x.enc.map .d) = x.v := by
  simp only [MFunction.enc_eq, MExpr.enc_eq, MType.enc_eq, List.map_cons, List.map_nil, List.cons_append, List.nil_append, List.map_append]
theorem MFunction.enc_length (x : MFunction) : x.enc.length = 16 := by
  simp only [MFunction.enc_eq, MExpr.enc_length, MType.enc_length, List.length_append, List.length_cons, List.length_nil]
def MFunction.sz (x : MFunction) : Nat := szRow x.enc
theorem MFunction.sz_def (x : MFunction) : szRow x.enc = x.sz := rfl
structure MPackage where
  fName : List UInt8
  fDeps : List (List UInt8)
  fTraits : List MTrait
  fDataTypes : List MDataType
  fInstances : List MInstance
  fFunctions : List MFunction
def MPackage.enc (x : MPackage) : List D := [.s x.fName, .sl (x.fDeps.map encS), .sl (x.fTraits.map MTrait.enc), .sl (x.fDataTypes.map MDataType.enc), .sl (x.fInstances.map MInstance.enc), .sl (x.fFunctions.map MFunction.enc)]
theorem MPackage.enc_eq (x : MPackage) : x.enc = [.s x.fName, .sl (x.fDeps.map encS), .sl (x.fTraits.map MTrait.enc), .sl (x.fDataTypes.map MDataType.enc), .sl (x.fInstances.map MInstance.enc), .sl (x.fFunctions.map MFunction.enc)] := rfl
theorem MPackage.eta (x : MPackage) : MPackage.mk x.fName x.fDeps x.fTraits x.fDataTypes x.fInstances x.fFunctions = x := rfl
theorem MPackage.ext' {x y : MPackage} (h0 : x.fName = y.fName) (h1 : x.fDeps = y.fDeps) (h2 : x.fTraits = y.fTraits) (h3 : x.fDataTypes = y.fDataTypes) (h4 : x.fInstances = y.fInstances) (h5 : x.fFunctions = y.fFunctions) : x = y := by
  cases x; cases y; simp_all
abbrev MPackage.v (x : MPackage) : V := .agg [.d (.s x.fName), .d (.sl (x.fDeps.map encS)), .d (.sl (x.fTraits.map MTrait.enc)), .d (.sl (x.fDataTypes.map MDataType.enc)), .d (.sl (x.fInstances.map MInstance.enc)), .d (.sl (x.fFunctions.map MFunction.enc))]
theorem MPackage.v_eq (x : MPackage) : .agg (x.enc.map .d) = x.v := by
  simp only [MPackage.enc_eq, List.map_cons, List.map_nil, List.cons_append, List.nil_append, List.map_append]
theorem MPackage.enc_length (x : MPackage) : x.enc.length = 6 := by
  simp only [MPackage.enc_eq, List.length_append, List.length_cons, List.length_nil]
def MPackage.sz (x : MPackage) : Nat := szRow x.enc
theorem MPackage.sz_def (x : MPackage) : szRow x.enc = x.sz := rfl
structure MProgram where
  fPackages : List MPackage
def MProgram.enc (x : MProgram) : List D := [.sl (x.fPackages.map MPackage.enc)]
theorem MProgram.enc_eq (x : MProgram) : x.enc = [.sl (x.fPackages.map MPackage.enc)] := rfl
theorem MProgram.eta (x : MProgram) : MProgram.mk x.fPackages = x := rfl
theorem MProgram.ext' {x y : MProgram} (h0 : x.fPackages = y.fPackages) : x = y := by
  cases x; cases y; simp_all
abbrev MProgram.v (x : MProgram) : V := .agg [.d (.sl (x.fPackages.map MPackage.enc))]
theorem MProgram.v_eq (x : MProgram) : .agg (x.enc.map .d) = x.v := by
  simp only [MProgram.enc_eq, List.map_cons, List.map_nil, List.cons_append, List.nil_append, List.map_append]
theorem MProgram.enc_length (x : MProgram) : x.enc.length = 1 := by
  simp only [MProgram.enc_eq, List.length_append, List.length_cons, List.length_nil]
def MProgram.sz (x : MProgram) : Nat := szRow x.enc
theorem MProgram.sz_def (x : MProgram) : szRow x.enc = x.sz := rfl
structure MInstanceRef where
  fPackage : Int
  fAt : Int
def MInstanceRef.enc (x : MInstanceRef) : List D := [.i .i64 x.fPackage, .i .i64 x.fAt]
theorem MInstanceRef.enc_eq (x : MInstanceRef) : x.enc = [.i .i64 x.fPackage, .i .i64 x.fAt] := rfl
theorem MInstanceRef.eta (x : MInstanceRef) : MInstanceRef.mk x.fPackage x.fAt = x := rfl
theorem MInstanceRef.ext' {x y : MInstanceRef} (h0 : x.fPackage = y.fPackage) (h1 : x.fAt = y.fAt) : x = y := by
  cases x; cases y; simp_all
abbrev MInstanceRef.v (x : MInstanceRef) : V := .agg [.d (.i .i64 x.fPackage), .d (.i .i64 x.fAt)]
theorem MInstanceRef.v_eq (x : MInstanceRef) : .agg (x.enc.map .d) = x.v := by
  simp only [MInstanceRef.enc_eq, List.map_cons, List.map_nil, List.cons_append, List.nil_append, List.map_append]
theorem MInstanceRef.enc_length (x : MInstanceRef) : x.enc.length = 2 := by
  simp only [MInstanceRef.enc_eq, List.length_append, List.length_cons, List.length_nil]
def MInstanceRef.sz (x : MInstanceRef) : Nat := szRow x.enc
theorem MInstanceRef.sz_def (x : MInstanceRef) : szRow x.enc = x.sz := rfl
attribute [go_sem] MType.enc_eq MBinding.enc_eq MBound.enc_eq MExpr.enc_eq MArm.enc_eq MSExpr.enc_eq MSignature.enc_eq MTrait.enc_eq MConstructor.enc_eq MDataType.enc_eq MMethod.enc_eq MInstance.enc_eq MParam.enc_eq MFunction.enc_eq MPackage.enc_eq MProgram.enc_eq MInstanceRef.enc_eq encS encI
end Go.Ab

namespace Go.Proofs.YtnleocfkdidhoaaGreat.Fa
open Go Go.Ab
theorem ty1 : Tryz.prog.cellsOf 1 = 1 ∧ Tryz.prog.bytesOf 1 = 8 ∧ (Tryz.prog.info? 1).isSome = true ∧ zeroCs Tryz.prog 1 = some [.d (.o .nilFunc)] := ⟨by kernel_rfl, by kernel_rfl, by kernel_rfl, by kernel_rfl⟩
theorem ty2 : Tryz.prog.cellsOf 2 = 1 ∧ Tryz.prog.bytesOf 2 = 8 ∧ (Tryz.prog.info? 2).isSome = true ∧ zeroCs Tryz.prog 2 = some [.d (.i .i64 0)] := ⟨by kernel_rfl, by kernel_rfl, by kernel_rfl, by kernel_rfl⟩
theorem ty3 : Tryz.prog.cellsOf 3 = 1 ∧ Tryz.prog.bytesOf 3 = 8 ∧ (Tryz.prog.info? 3).isSome = true ∧ zeroCs Tryz.prog 3 = some [.d (.i .i64 0)] := ⟨by kernel_rfl, by kernel_rfl, by kernel_rfl, by kernel_rfl⟩
theorem ty4 : Tryz.prog.cellsOf 4 = 1 ∧ Tryz.prog.bytesOf 4 = 1 ∧ (Tryz.prog.info? 4).isSome = true ∧ zeroCs Tryz.prog 4 = some [.d (.b false)] := ⟨by kernel_rfl, by kernel_rfl, by kernel_rfl, by kernel_rfl⟩
theorem zval4 : zeroV Tryz.prog 4 = some (.bool false) := by kernel_rfl
theorem ty5 : Tryz.prog.cellsOf 5 = 1 ∧ Tryz.prog.bytesOf 5 = 1 ∧ (Tryz.prog.info? 5).isSome = true ∧ zeroCs Tryz.prog 5 = some [.d (.i .u8 0)] := ⟨by kernel_rfl, by kernel_rfl, by kernel_rfl, by kernel_rfl⟩
theorem ty9 : Tryz.prog.cellsOf 9 = 1 ∧ Tryz.prog.bytesOf 9 = 16 ∧ (Tryz.prog.info? 9).isSome = true ∧ zeroCs Tryz.prog 9 = some [.d (.s [])] := ⟨by kernel_rfl, by kernel_rfl, by kernel_rfl, by kernel_rfl⟩
theorem ty12 : Tryz.prog.cellsOf 12 = 1 ∧ Tryz.prog.bytesOf 12 = 8 ∧ (Tryz.prog.info? 12).isSome = true ∧ zeroCs Tryz.prog 12 = some [.d (.i .u64 0)] := ⟨by kernel_rfl, by kernel_rfl, by kernel_rfl, by kernel_rfl⟩
theorem ty20 : Tryz.prog.cellsOf 20 = 1 ∧ Tryz.prog.bytesOf 20 = 16 ∧ (Tryz.prog.info? 20).isSome = true ∧ zeroCs Tryz.prog 20 = some [.d (.o .nilIface)] := ⟨by kernel_rfl, by kernel_rfl, by kernel_rfl, by kernel_rfl⟩
theorem ty21 : Tryz.prog.cellsOf 21 = 1 ∧ Tryz.prog.bytesOf 21 = 4 ∧ (Tryz.prog.info? 21).isSome = true ∧ zeroCs Tryz.prog 21 = some [.d (.i .i32 0)] := ⟨by kernel_rfl, by kernel_rfl, by kernel_rfl, by kernel_rfl⟩
theorem ty22 : Tryz.prog.cellsOf 22 = 1 ∧ Tryz.prog.bytesOf 22 = 24 ∧ (Tryz.prog.info? 22).isSome = true ∧ zeroCs Tryz.prog 22 = some [.fsl []] := ⟨by kernel_rfl, by kernel_rfl, by kernel_rfl, by kernel_rfl⟩
theorem ty23 : Tryz.prog.cellsOf 23 = 1 ∧ Tryz.prog.bytesOf 23 = 24 ∧ (Tryz.prog.info? 23).isSome = true ∧ zeroCs Tryz.prog 23 = some [.fsl []] := ⟨by kernel_rfl, by kernel_rfl, by kernel_rfl, by kernel_rfl⟩
theorem ty24 : Tryz.prog.cellsOf 24 = 1 ∧ Tryz.prog.bytesOf 24 = 24 ∧ (Tryz.prog.info? 24).isSome = true ∧ zeroCs Tryz.prog 24 = some [.fsl []] := ⟨by kernel_rfl, by kernel_rfl, by kernel_rfl, by kernel_rfl⟩
theorem ty25 : Tryz.prog.cellsOf 25 = 1 ∧ Tryz.prog.bytesOf 25 = 24 ∧ (Tryz.prog.info? 25).isSome = true ∧ zeroCs Tryz.prog 25 = some [.fsl []] := ⟨by kernel_rfl, by kernel_rfl, by kernel_rfl, by kernel_rfl⟩
theorem ty26 : Tryz.prog.cellsOf 26 = 3 ∧ Tryz.prog.bytesOf 26 = 48 ∧ (Tryz.prog.info? 26).isSome = true ∧ zeroCs Tryz.prog 26 = some [.d (.i .i64 0), .d (.s []), .fsl []] := ⟨by kernel_rfl, by kernel_rfl, by kernel_rfl, by kernel_rfl⟩
theorem ty27 : Tryz.prog.cellsOf 27 = 3 ∧ Tryz.prog.bytesOf 27 = 48 ∧ (Tryz.prog.info? 27).isSome = true ∧ zeroCs Tryz.prog 27 = some [.d (.i .i64 0), .d (.s []), .fsl []] := ⟨by kernel_rfl, by kernel_rfl, by kernel_rfl, by kernel_rfl⟩
theorem ty28 : Tryz.prog.cellsOf 28 = 1 ∧ Tryz.prog.bytesOf 28 = 24 ∧ (Tryz.prog.info? 28).isSome = true ∧ zeroCs Tryz.prog 28 = some [.fsl []] := ⟨by kernel_rfl, by kernel_rfl, by kernel_rfl, by kernel_rfl⟩
theorem ty29 : Tryz.prog.cellsOf 29 = 1 ∧ Tryz.prog.bytesOf 29 = 24 ∧ (Tryz.prog.info? 29).isSome = true ∧ zeroCs Tryz.prog 29 = some [.fsl []] := ⟨by kernel_rfl, by kernel_rfl, by kernel_rfl, by kernel_rfl⟩
theorem ty30 : Tryz.prog.cellsOf 30 = 9 ∧ Tryz.prog.bytesOf 30 = 144 ∧ (Tryz.prog.info? 30).isSome = true ∧ zeroCs Tryz.prog 30 = some [.d (.i .i64 0), .d (.s []), .d (.s []), .d (.i .i64 0), .d (.i .i64 0), .d (.s []), .fsl [], .fsl [], .fsl []] := ⟨by kernel_rfl, by kernel_rfl, by kernel_rfl, by kernel_rfl⟩
theorem ty31 : Tryz.prog.cellsOf 31 = 9 ∧ Tryz.prog.bytesOf 31 = 144 ∧ (Tryz.prog.info? 31).isSome = true ∧ zeroCs Tryz.prog 31 = some [.d (.i .i64 0), .d (.s []), .d (.s []), .d (.i .i64 0), .d (.i .i64 0), .d (.s []), .fsl [], .fsl [], .fsl []] := ⟨by kernel_rfl, by kernel_rfl, by kernel_rfl, by kernel_rfl⟩
theorem ty32 : Tryz.prog.cellsOf 32 = 1 ∧ Tryz.prog.bytesOf 32 = 8 ∧ (Tryz.prog.info? 32).isSome = true ∧ zeroCs Tryz.prog 32 = some [.d (.o .nilFunc)] := ⟨by kernel_rfl, by kernel_rfl, by kernel_rfl, by kernel_rfl⟩
theorem ty33 : Tryz.prog.cellsOf 33 = 1 ∧ Tryz.prog.bytesOf 33 = 8 ∧ (Tryz.prog.info? 33).isSome = true ∧ zeroCs Tryz.prog 33 = some [.d (.o .nilFunc)] := ⟨by kernel_rfl, by kernel_rfl, by kernel_rfl, by kernel_rfl⟩
theorem ty34 : Tryz.prog.cellsOf 34 = 1 ∧ Tryz.prog.bytesOf 34 = 8 ∧ (Tryz.prog.info? 34).isSome = true ∧ zeroCs Tryz.prog 34 = some [.d (.o .nilFunc)] := ⟨by kernel_rfl, by kernel_rfl, by kernel_rfl, by kernel_rfl⟩
theorem ty35 : Tryz.prog.cellsOf 35 = 1 ∧ Tryz.prog.bytesOf 35 = 24 ∧ (Tryz.prog.info? 35).isSome = true ∧ zeroCs Tryz.prog 35 = some [.fsl []] := ⟨by kernel_rfl, by kernel_rfl, by kernel_rfl, by kernel_rfl⟩
theorem ty36 : Tryz.prog.cellsOf 36 = 1 ∧ Tryz.prog.bytesOf 36 = 24 ∧ (Tryz.prog.info? 36).isSome = true ∧ zeroCs Tryz.prog 36 = some [.fsl []] := ⟨by kernel_rfl, by kernel_rfl, by kernel_rfl, by kernel_rfl⟩
theorem ty37 : Tryz.prog.cellsOf 37 = 1 ∧ Tryz.prog.bytesOf 37 = 24 ∧ (Tryz.prog.info? 37).isSome = true ∧ zeroCs Tryz.prog 37 = some [.fsl []] := ⟨by kernel_rfl, by kernel_rfl, by kernel_rfl, by kernel_rfl⟩
theorem ty38 : Tryz.prog.cellsOf 38 = 1 ∧ Tryz.prog.bytesOf 38 = 8 ∧ (Tryz.prog.info? 38).isSome = true ∧ zeroCs Tryz.prog 38 = some [.d (.o .nilFunc)] := ⟨by kernel_rfl, by kernel_rfl, by kernel_rfl, by kernel_rfl⟩
theorem ty39 : Tryz.prog.cellsOf 39 = 1 ∧ Tryz.prog.bytesOf 39 = 24 ∧ (Tryz.prog.info? 39).isSome = true ∧ zeroCs Tryz.prog 39 = some [.fsl []] := ⟨by kernel_rfl, by kernel_rfl, by kernel_rfl, by kernel_rfl⟩
theorem ty40 : Tryz.prog.cellsOf 40 = 3 ∧ Tryz.prog.bytesOf 40 = 48 ∧ (Tryz.prog.info? 40).isSome = true ∧ zeroCs Tryz.prog 40 = some [.d (.i .i64 0), .d (.s []), .fsl []] := ⟨by kernel_rfl, by kernel_rfl, by kernel_rfl, by kernel_rfl⟩
theorem ty41 : Tryz.prog.cellsOf 41 = 3 ∧ Tryz.prog.bytesOf 41 = 48 ∧ (Tryz.prog.info? 41).isSome = true ∧ zeroCs Tryz.prog 41 = some [.d (.i .i64 0), .d (.s []), .fsl []] := ⟨by kernel_rfl, by kernel_rfl, by kernel_rfl, by kernel_rfl⟩
theorem ty42 : Tryz.prog.cellsOf 42 = 1 ∧ Tryz.prog.bytesOf 42 = 24 ∧ (Tryz.prog.info? 42).isSome = true ∧ zeroCs Tryz.prog 42 = some [.fsl []] := ⟨by kernel_rfl, by kernel_rfl, by kernel_rfl, by kernel_rfl⟩
theorem ty43 : Tryz.prog.cellsOf 43 = 1 ∧ Tryz.prog.bytesOf 43 = 24 ∧ (Tryz.prog.info? 43).isSome = true ∧ zeroCs Tryz.prog 43 = some [.fsl []] := ⟨by kernel_rfl, by kernel_rfl, by kernel_rfl, by kernel_rfl⟩
theorem ty44 : Tryz.prog.cellsOf 44 = 9 ∧ Tryz.prog.bytesOf 44 = 144 ∧ (Tryz.prog.info? 44).isSome = true ∧ zeroCs Tryz.prog 44 = some [.d (.i .i64 0), .d (.s []), .d (.s []), .d (.i .i64 0), .d (.i .i64 0), .d (.s []), .fsl [], .fsl [], .fsl []] := ⟨by kernel_rfl, by kernel_rfl, by kernel_rfl, by kernel_rfl⟩
theorem ty45 : Tryz.prog.cellsOf 45 = 9 ∧ Tryz.prog.bytesOf 45 = 144 ∧ (Tryz.prog.info? 45).isSome = true ∧ zeroCs Tryz.prog 45 = some [.d (.i .i64 0), .d (.s []), .d (.s []), .d (.i .i64 0), .d (.i .i64 0), .d (.s []), .fsl [], .fsl [], .fsl []] := ⟨by kernel_rfl, by kernel_rfl, by kernel_rfl, by kernel_rfl⟩
theorem ty46 : Tryz.prog.cellsOf 46 = 1 ∧ Tryz.prog.bytesOf 46 = 8 ∧ (Tryz.prog.info? 46).isSome = true ∧ zeroCs Tryz.prog 46 = some [.d (.o .nilFunc)] := ⟨by kernel_rfl, by kernel_rfl, by kernel_rfl, by kernel_rfl⟩
theorem ty47 : Tryz.prog.cellsOf 47 = 1 ∧ Tryz.prog.bytesOf 47 = 8 ∧ (Tryz.prog.info? 47).isSome = true ∧ zeroCs Tryz.prog 47 = some [.d (.o .nilFunc)] := ⟨by kernel_rfl, by kernel_rfl, by kernel_rfl, by kernel_rfl⟩
theorem ty48 : Tryz.prog.cellsOf 48 = 1 ∧ Tryz.prog.bytesOf 48 = 8 ∧ (Tryz.prog.info? 48).isSome = true ∧ zeroCs Tryz.prog 48 = some [.d (.o .nilFunc)] := ⟨by kernel_rfl, by kernel_rfl, by kernel_rfl, by kernel_rfl⟩
theorem ty49 : Tryz.prog.cellsOf 49 = 1 ∧ Tryz.prog.bytesOf 49 = 8 ∧ (Tryz.prog.info? 49).isSome = true ∧ zeroCs Tryz.prog 49 = some [.d (.o .nilFunc)] := ⟨by kernel_rfl, by kernel_rfl, by kernel_rfl, by kernel_rfl⟩
theorem ty50 : Tryz.prog.cellsOf 50 = 1 ∧ Tryz.prog.bytesOf 50 = 24 ∧ (Tryz.prog.info? 50).isSome = true ∧ zeroCs Tryz.prog 50 = some [.fsl []] := ⟨by kernel_rfl, by kernel_rfl, by kernel_rfl, by kernel_rfl⟩
theorem ty51 : Tryz.prog.cellsOf 51 = 1 ∧ Tryz.prog.bytesOf 51 = 24 ∧ (Tryz.prog.info? 51).isSome = true ∧ zeroCs Tryz.prog 51 = some [.fsl []] := ⟨by kernel_rfl, by kernel_rfl, by kernel_rfl, by kernel_rfl⟩
theorem ty52 : Tryz.prog.cellsOf 52 = 1 ∧ Tryz.prog.bytesOf 52 = 24 ∧ (Tryz.prog.info? 52).isSome = true ∧ zeroCs Tryz.prog 52 = some [.fsl []] := ⟨by kernel_rfl, by kernel_rfl, by kernel_rfl, by kernel_rfl⟩
theorem ty53 : Tryz.prog.cellsOf 53 = 1 ∧ Tryz.prog.bytesOf 53 = 24 ∧ (Tryz.prog.info? 53).isSome = true ∧ zeroCs Tryz.prog 53 = some [.fsl []] := ⟨by kernel_rfl, by kernel_rfl, by kernel_rfl, by kernel_rfl⟩
theorem ty54 : Tryz.prog.cellsOf 54 = 1 ∧ Tryz.prog.bytesOf 54 = 24 ∧ (Tryz.prog.info? 54).isSome = true ∧ zeroCs Tryz.prog 54 = some [.fsl []] := ⟨by kernel_rfl, by kernel_rfl, by kernel_rfl, by kernel_rfl⟩
theorem ty55 : Tryz.prog.cellsOf 55 = 6 ∧ Tryz.prog.bytesOf 55 = 136 ∧ (Tryz.prog.info? 55).isSome = true ∧ zeroCs Tryz.prog 55 = some [.d (.s []), .fsl [], .fsl [], .fsl [], .fsl [], .fsl []] := ⟨by kernel_rfl, by kernel_rfl, by kernel_rfl, by kernel_rfl⟩
theorem ty56 : Tryz.prog.cellsOf 56 = 6 ∧ Tryz.prog.bytesOf 56 = 136 ∧ (Tryz.prog.info? 56).isSome = true ∧ zeroCs Tryz.prog 56 = some [.d (.s []), .fsl [], .fsl [], .fsl [], .fsl [], .fsl []] := ⟨by kernel_rfl, by kernel_rfl, by kernel_rfl, by kernel_rfl⟩
theorem ty57 : Tryz.prog.cellsOf 57 = 1 ∧ Tryz.prog.bytesOf 57 = 8 ∧ (Tryz.prog.info? 57).isSome = true ∧ zeroCs Tryz.prog 57 = some [.d (.o .nilFunc)] := ⟨by kernel_rfl, by kernel_rfl, by kernel_rfl, by kernel_rfl⟩
theorem ty58 : Tryz.prog.cellsOf 58 = 1 ∧ Tryz.prog.bytesOf 58 = 8 ∧ (Tryz.prog.info? 58).isSome = true ∧ zeroCs Tryz.prog 58 = some [.d (.o .nilFunc)] := ⟨by kernel_rfl, by kernel_rfl, by kernel_rfl, by kernel_rfl⟩
theorem ty59 : Tryz.prog.cellsOf 59 = 1 ∧ Tryz.prog.bytesOf 59 = 24 ∧ (Tryz.prog.info? 59).isSome = true ∧ zeroCs Tryz.prog 59 = some [.fsl []] := ⟨by kernel_rfl, by kernel_rfl, by kernel_rfl, by kernel_rfl⟩
theorem ty60 : Tryz.prog.cellsOf 60 = 1 ∧ Tryz.prog.bytesOf 60 = 24 ∧ (Tryz.prog.info? 60).isSome = true ∧ zeroCs Tryz.prog 60 = some [.fsl []] := ⟨by kernel_rfl, by kernel_rfl, by kernel_rfl, by kernel_rfl⟩
theorem ty61 : Tryz.prog.cellsOf 61 = 1 ∧ Tryz.prog.bytesOf 61 = 24 ∧ (Tryz.prog.info? 61).isSome = true ∧ zeroCs Tryz.prog 61 = some [.fsl []] := ⟨by kernel_rfl, by kernel_rfl, by kernel_rfl, by kernel_rfl⟩
theorem ty62 : Tryz.prog.cellsOf 62 = 1 ∧ Tryz.prog.bytesOf 62 = 24 ∧ (Tryz.prog.info? 62).isSome = true ∧ zeroCs Tryz.prog 62 = some [.fsl []] := ⟨by kernel_rfl, by kernel_rfl, by kernel_rfl, by kernel_rfl⟩
theorem ty63 : Tryz.prog.cellsOf 63 = 6 ∧ Tryz.prog.bytesOf 63 = 136 ∧ (Tryz.prog.info? 63).isSome = true ∧ zeroCs Tryz.prog 63 = some [.d (.s []), .fsl [], .fsl [], .fsl [], .fsl [], .fsl []] := ⟨by kernel_rfl, by kernel_rfl, by kernel_rfl, by kernel_rfl⟩
theorem ty64 : Tryz.prog.cellsOf 64 = 6 ∧ Tryz.prog.bytesOf 64 = 136 ∧ (Tryz.prog.info? 64).isSome = true ∧ zeroCs Tryz.prog 64 = some [.d (.s []), .fsl [], .fsl [], .fsl [], .fsl [], .fsl []] := ⟨by kernel_rfl, by kernel_rfl, by kernel_rfl, by kernel_rfl⟩
theorem ty65 : Tryz.prog.cellsOf 65 = 1 ∧ Tryz.prog.bytesOf 65 = 8 ∧ (Tryz.prog.info? 65).isSome = true ∧ zeroCs Tryz.prog 65 = some [.d (.o .nilFunc)] := ⟨by kernel_rfl, by kernel_rfl, by kernel_rfl, by kernel_rfl⟩
theorem ty66 : Tryz.prog.cellsOf 66 = 1 ∧ Tryz.prog.bytesOf 66 = 8 ∧ (Tryz.prog.info? 66).isSome = true ∧ zeroCs Tryz.prog 66 = some [.d (.o .nilFunc)] := ⟨by kernel_rfl, by kernel_rfl, by kernel_rfl, by kernel_rfl⟩
theorem ty67 : Tryz.prog.cellsOf 67 = 1 ∧ Tryz.prog.bytesOf 67 = 8 ∧ (Tryz.prog.info? 67).isSome = true ∧ zeroCs Tryz.prog 67 = some [.d (.o .nilFunc)] := ⟨by kernel_rfl, by kernel_rfl, by kernel_rfl, by kernel_rfl⟩
theorem ty68 : Tryz.prog.cellsOf 68 = 1 ∧ Tryz.prog.bytesOf 68 = 8 ∧ (Tryz.prog.info? 68).isSome = true ∧ zeroCs Tryz.prog 68 = some [.d (.o .nilFunc)] := ⟨by kernel_rfl, by kernel_rfl, by kernel_rfl, by kernel_rfl⟩
theorem ty69 : Tryz.prog.cellsOf 69 = 1 ∧ Tryz.prog.bytesOf 69 = 8 ∧ (Tryz.prog.info? 69).isSome = true ∧ zeroCs Tryz.prog 69 = some [.d (.o .nilFunc)] := ⟨by kernel_rfl, by kernel_rfl, by kernel_rfl, by kernel_rfl⟩
theorem ty70 : Tryz.prog.cellsOf 70 = 1 ∧ Tryz.prog.bytesOf 70 = 24 ∧ (Tryz.prog.info? 70).isSome = true ∧ zeroCs Tryz.prog 70 = some [.fsl []] := ⟨by kernel_rfl, by kernel_rfl, by kernel_rfl, by kernel_rfl⟩
theorem ty71 : Tryz.prog.cellsOf 71 = 1 ∧ Tryz.prog.bytesOf 71 = 8 ∧ (Tryz.prog.info? 71).isSome = true ∧ zeroCs Tryz.prog 71 = some [.d (.o .nilFunc)] := ⟨by kernel_rfl, by kernel_rfl, by kernel_rfl, by kernel_rfl⟩
theorem ty72 : Tryz.prog.cellsOf 72 = 1 ∧ Tryz.prog.bytesOf 72 = 8 ∧ (Tryz.prog.info? 72).isSome = true ∧ zeroCs Tryz.prog 72 = some [.d (.o .nilFunc)] := ⟨by kernel_rfl, by kernel_rfl, by kernel_rfl, by kernel_rfl⟩
theorem ty73 : Tryz.prog.cellsOf 73 = 1 ∧ Tryz.prog.bytesOf 73 = 8 ∧ (Tryz.prog.info? 73).isSome = true ∧ zeroCs Tryz.prog 73 = some [.d (.o .nilFunc)] := ⟨by kernel_rfl, by kernel_rfl, by kernel_rfl, by kernel_rfl⟩
theorem ty74 : Tryz.prog.cellsOf 74 = 1 ∧ Tryz.prog.bytesOf 74 = 8 ∧ (Tryz.prog.info? 74).isSome = true ∧ zeroCs Tryz.prog 74 = some [.d (.o .nilFunc)] := ⟨by kernel_rfl, by kernel_rfl, by kernel_rfl, by kernel_rfl⟩
theorem ty75 : Tryz.prog.cellsOf 75 = 1 ∧ Tryz.prog.bytesOf 75 = 24 ∧ (Tryz.prog.info? 75).isSome = true ∧ zeroCs Tryz.prog 75 = some [.fsl []] := ⟨by kernel_rfl, by kernel_rfl, by kernel_rfl, by kernel_rfl⟩
theorem ty76 : Tryz.prog.cellsOf 76 = 1 ∧ Tryz.prog.bytesOf 76 = 8 ∧ (Tryz.prog.info? 76).isSome = true ∧ zeroCs Tryz.prog 76 = some [.d (.o .nilFunc)] := ⟨by kernel_rfl, by kernel_rfl, by kernel_rfl, by kernel_rfl⟩
theorem ty77 : Tryz.prog.cellsOf 77 = 1 ∧ Tryz.prog.bytesOf 77 = 8 ∧ (Tryz.prog.info? 77).isSome = true ∧ zeroCs Tryz.prog 77 = some [.d (.o .nilFunc)] := ⟨by kernel_rfl, by kernel_rfl, by kernel_rfl, by kernel_rfl⟩
theorem ty78 : Tryz.prog.cellsOf 78 = 1 ∧ Tryz.prog.bytesOf 78 = 8 ∧ (Tryz.prog.info? 78).isSome = true ∧ zeroCs Tryz.prog 78 = some [.d (.o .nilFunc)] := ⟨by kernel_rfl, by kernel_rfl, by kernel_rfl, by kernel_rfl⟩
theorem ty79 : Tryz.prog.cellsOf 79 = 1 ∧ Tryz.prog.bytesOf 79 = 8 ∧ (Tryz.prog.info? 79).isSome = true ∧ zeroCs Tryz.prog 79 = some [.d (.o .nilFunc)] := ⟨by kernel_rfl, by kernel_rfl, by kernel_rfl, by kernel_rfl⟩
theorem ty80 : Tryz.prog.cellsOf 80 = 1 ∧ Tryz.prog.bytesOf 80 = 24 ∧ (Tryz.prog.info? 80).isSome = true ∧ zeroCs Tryz.prog 80 = some [.fsl []] := ⟨by kernel_rfl, by kernel_rfl, by kernel_rfl, by kernel_rfl⟩
theorem ty81 : Tryz.prog.cellsOf 81 = 3 ∧ Tryz.prog.bytesOf 81 = 64 ∧ (Tryz.prog.info? 81).isSome = true ∧ zeroCs Tryz.prog 81 = some [.d (.s []), .fsl [], .fsl []] := ⟨by kernel_rfl, by kernel_rfl, by kernel_rfl, by kernel_rfl⟩
theorem ty82 : Tryz.prog.cellsOf 82 = 3 ∧ Tryz.prog.bytesOf 82 = 64 ∧ (Tryz.prog.info? 82).isSome = true ∧ zeroCs Tryz.prog 82 = some [.d (.s []), .fsl [], .fsl []] := ⟨by kernel_rfl, by kernel_rfl, by kernel_rfl, by kernel_rfl⟩
theorem ty84 : Tryz.prog.cellsOf 84 = 1 ∧ Tryz.prog.bytesOf 84 = 8 ∧ (Tryz.prog.info? 84).isSome = true ∧ zeroCs Tryz.prog 84 = some [.d (.o .nilFunc)] := ⟨by kernel_rfl, by kernel_rfl, by kernel_rfl, by kernel_rfl⟩
theorem ty85 : Tryz.prog.cellsOf 85 = 1 ∧ Tryz.prog.bytesOf 85 = 8 ∧ (Tryz.prog.info? 85).isSome = true ∧ zeroCs Tryz.prog 85 = some [.d (.o .nilFunc)] := ⟨by kernel_rfl, by kernel_rfl, by kernel_rfl, by kernel_rfl⟩
theorem ty86 : Tryz.prog.cellsOf 86 = 1 ∧ Tryz.prog.bytesOf 86 = 8 ∧ (Tryz.prog.info? 86).isSome = true ∧ zeroCs Tryz.prog 86 = some [.d (.o .nilFunc)] := ⟨by kernel_rfl, by kernel_rfl, by kernel_rfl, by kernel_rfl⟩
theorem ty87 : Tryz.prog.cellsOf 87 = 1 ∧ Tryz.prog.bytesOf 87 = 8 ∧ (Tryz.prog.info? 87).isSome = true ∧ zeroCs Tryz.prog 87 = some [.d (.o .nilFunc)] := ⟨by kernel_rfl, by kernel_rfl, by kernel_rfl, by kernel_rfl⟩
theorem ty88 : Tryz.prog.cellsOf 88 = 2 ∧ Tryz.prog.bytesOf 88 = 16 ∧ (Tryz.prog.info? 88).isSome = true ∧ zeroCs Tryz.prog 88 = some [.d (.i .i64 0), .d (.i .i64 0)] := ⟨by kernel_rfl, by kernel_rfl, by kernel_rfl, by kernel_rfl⟩
theorem ty89 : Tryz.prog.cellsOf 89 = 2 ∧ Tryz.prog.bytesOf 89 = 16 ∧ (Tryz.prog.info? 89).isSome = true ∧ zeroCs Tryz.prog 89 = some [.d (.i .i64 0), .d (.i .i64 0)] := ⟨by kernel_rfl, by kernel_rfl, by kernel_rfl, by kernel_rfl⟩
theorem ty90 : Tryz.prog.cellsOf 90 = 1 ∧ Tryz.prog.bytesOf 90 = 24 ∧ (Tryz.prog.info? 90).isSome = true ∧ zeroCs Tryz.prog 90 = some [.fsl []] := ⟨by kernel_rfl, by kernel_rfl, by kernel_rfl, by kernel_rfl⟩
theorem ty91 : Tryz.prog.cellsOf 91 = 1 ∧ Tryz.prog.bytesOf 91 = 24 ∧ (Tryz.prog.info? 91).isSome = true ∧ zeroCs Tryz.prog 91 = some [.fsl []] := ⟨by kernel_rfl, by kernel_rfl, by kernel_rfl, by kernel_rfl⟩
theorem ty92 : Tryz.prog.cellsOf 92 = 12 ∧ Tryz.prog.bytesOf 92 = 192 ∧ (Tryz.prog.info? 92).isSome = true ∧ zeroCs Tryz.prog 92 = some [.d (.s []), .fsl [], .d (.i .i64 0), .d (.s []), .fsl [], .fsl [], .d (.b false), .d (.b false), .d (.i .i64 0), .d (.s []), .fsl [], .fsl []] := ⟨by kernel_rfl, by kernel_rfl, by kernel_rfl, by kernel_rfl⟩
theorem ty93 : Tryz.prog.cellsOf 93 = 12 ∧ Tryz.prog.bytesOf 93 = 192 ∧ (Tryz.prog.info? 93).isSome = true ∧ zeroCs Tryz.prog 93 = some [.d (.s []), .fsl [], .d (.i .i64 0), .d (.s []), .fsl [], .fsl [], .d (.b false), .d (.b false), .d (.i .i64 0), .d (.s []), .fsl [], .fsl []] := ⟨by kernel_rfl, by kernel_rfl, by kernel_rfl, by kernel_rfl⟩
theorem ty95 : Tryz.prog.cellsOf 95 = 1 ∧ Tryz.prog.bytesOf 95 = 8 ∧ (Tryz.prog.info? 95).isSome = true ∧ zeroCs Tryz.prog 95 = some [.d (.o .nilFunc)] := ⟨by kernel_rfl, by kernel_rfl, by kernel_rfl, by kernel_rfl⟩
theorem ty96 : Tryz.prog.cellsOf 96 = 2 ∧ Tryz.prog.bytesOf 96 = 16 ∧ (Tryz.prog.info? 96).isSome = true ∧ zeroCs Tryz.prog 96 = some [.d (.i .i64 0), .d (.i .i64 0)] := ⟨by kernel_rfl, by kernel_rfl, by kernel_rfl, by kernel_rfl⟩
theorem ty97 : Tryz.prog.cellsOf 97 = 1 ∧ Tryz.prog.bytesOf 97 = 8 ∧ (Tryz.prog.info? 97).isSome = true ∧ zeroCs Tryz.prog 97 = some [.d (.o .nilFunc)] := ⟨by kernel_rfl, by kernel_rfl, by kernel_rfl, by kernel_rfl⟩
theorem ty98 : Tryz.prog.cellsOf 98 = 1 ∧ Tryz.prog.bytesOf 98 = 8 ∧ (Tryz.prog.info? 98).isSome = true ∧ zeroCs Tryz.prog 98 = some [.d (.o .nilFunc)] := ⟨by kernel_rfl, by kernel_rfl, by kernel_rfl, by kernel_rfl⟩
theorem ty99 : Tryz.prog.cellsOf 99 = 1 ∧ Tryz.prog.bytesOf 99 = 8 ∧ (Tryz.prog.info? 99).isSome = true ∧ zeroCs Tryz.prog 99 = some [.d (.o .nilFunc)] := ⟨by kernel_rfl, by kernel_rfl, by kernel_rfl, by kernel_rfl⟩
theorem ty100 : Tryz.prog.cellsOf 100 = 1 ∧ Tryz.prog.bytesOf 100 = 8 ∧ (Tryz.prog.info? 100).isSome = true ∧ zeroCs Tryz.prog 100 = some [.d (.o .nilFunc)] := ⟨by kernel_rfl, by kernel_rfl, by kernel_rfl, by kernel_rfl⟩
theorem ty101 : Tryz.prog.cellsOf 101 = 1 ∧ Tryz.prog.bytesOf 101 = 8 ∧ (Tryz.prog.info? 101).isSome = true ∧ zeroCs Tryz.prog 101 = some [.d (.o .nilFunc)] := ⟨by kernel_rfl, by kernel_rfl, by kernel_rfl, by kernel_rfl⟩
theorem ty102 : Tryz.prog.cellsOf 102 = 1 ∧ Tryz.prog.bytesOf 102 = 8 ∧ (Tryz.prog.info? 102).isSome = true ∧ zeroCs Tryz.prog 102 = some [.d (.o .nilFunc)] := ⟨by kernel_rfl, by kernel_rfl, by kernel_rfl, by kernel_rfl⟩
theorem ty103 : Tryz.prog.cellsOf 103 = 1 ∧ Tryz.prog.bytesOf 103 = 8 ∧ (Tryz.prog.info? 103).isSome = true ∧ zeroCs Tryz.prog 103 = some [.d (.o .nilFunc)] := ⟨by kernel_rfl, by kernel_rfl, by kernel_rfl, by kernel_rfl⟩
theorem ty104 : Tryz.prog.cellsOf 104 = 1 ∧ Tryz.prog.bytesOf 104 = 8 ∧ (Tryz.prog.info? 104).isSome = true ∧ zeroCs Tryz.prog 104 = some [.d (.o .nilFunc)] := ⟨by kernel_rfl, by kernel_rfl, by kernel_rfl, by kernel_rfl⟩
theorem ty105 : Tryz.prog.cellsOf 105 = 11 ∧ Tryz.prog.bytesOf 105 = 184 ∧ (Tryz.prog.info? 105).isSome = true ∧ zeroCs Tryz.prog 105 = some [.d (.s []), .fsl [], .d (.i .i64 0), .d (.s []), .d (.s []), .d (.i .i64 0), .d (.i .i64 0), .d (.s []), .fsl [], .fsl [], .fsl []] := ⟨by kernel_rfl, by kernel_rfl, by kernel_rfl, by kernel_rfl⟩
theorem ty106 : Tryz.prog.cellsOf 106 = 11 ∧ Tryz.prog.bytesOf 106 = 184 ∧ (Tryz.prog.info? 106).isSome = true ∧ zeroCs Tryz.prog 106 = some [.d (.s []), .fsl [], .d (.i .i64 0), .d (.s []), .d (.s []), .d (.i .i64 0), .d (.i .i64 0), .d (.s []), .fsl [], .fsl [], .fsl []] := ⟨by kernel_rfl, by kernel_rfl, by kernel_rfl, by kernel_rfl⟩
theorem ty107 : Tryz.prog.cellsOf 107 = 1 ∧ Tryz.prog.bytesOf 107 = 8 ∧ (Tryz.prog.info? 107).isSome = true ∧ zeroCs Tryz.prog 107 = some [.d (.o .nilFunc)] := ⟨by kernel_rfl, by kernel_rfl, by kernel_rfl, by kernel_rfl⟩
theorem ty108 : Tryz.prog.cellsOf 108 = 1 ∧ Tryz.prog.bytesOf 108 = 8 ∧ (Tryz.prog.info? 108).isSome = true ∧ zeroCs Tryz.prog 108 = some [.d (.o .nilFunc)] := ⟨by kernel_rfl, by kernel_rfl, by kernel_rfl, by kernel_rfl⟩
theorem ty109 : Tryz.prog.cellsOf 109 = 1 ∧ Tryz.prog.bytesOf 109 = 8 ∧ (Tryz.prog.info? 109).isSome = true ∧ zeroCs Tryz.prog 109 = some [.d (.o .nilFunc)] := ⟨by kernel_rfl, by kernel_rfl, by kernel_rfl, by kernel_rfl⟩
theorem ty110 : Tryz.prog.cellsOf 110 = 1 ∧ Tryz.prog.bytesOf 110 = 8 ∧ (Tryz.prog.info? 110).isSome = true ∧ zeroCs Tryz.prog 110 = some [.d (.o .nilFunc)] := ⟨by kernel_rfl, by kernel_rfl, by kernel_rfl, by kernel_rfl⟩
theorem ty111 : Tryz.prog.cellsOf 111 = 2 ∧ Tryz.prog.bytesOf 111 = 48 ∧ (Tryz.prog.info? 111).isSome = true ∧ zeroCs Tryz.prog 111 = some [.fsl [], .fsl []] := ⟨by kernel_rfl, by kernel_rfl, by kernel_rfl, by kernel_rfl⟩
theorem ty112 : Tryz.prog.cellsOf 112 = 2 ∧ Tryz.prog.bytesOf 112 = 48 ∧ (Tryz.prog.info? 112).isSome = true ∧ zeroCs Tryz.prog 112 = some [.fsl [], .fsl []] := ⟨by kernel_rfl, by kernel_rfl, by kernel_rfl, by kernel_rfl⟩
theorem ty113 : Tryz.prog.cellsOf 113 = 1 ∧ Tryz.prog.bytesOf 113 = 8 ∧ (Tryz.prog.info? 113).isSome = true ∧ zeroCs Tryz.prog 113 = some [.d (.o .nilFunc)] := ⟨by kernel_rfl, by kernel_rfl, by kernel_rfl, by kernel_rfl⟩
theorem ty114 : Tryz.prog.cellsOf 114 = 1 ∧ Tryz.prog.bytesOf 114 = 8 ∧ (Tryz.prog.info? 114).isSome = true ∧ zeroCs Tryz.prog 114 = some [.d (.o .nilFunc)] := ⟨by kernel_rfl, by kernel_rfl, by kernel_rfl, by kernel_rfl⟩
theorem ty115 : Tryz.prog.cellsOf 115 = 1 ∧ Tryz.prog.bytesOf 115 = 8 ∧ (Tryz.prog.info? 115).isSome = true ∧ zeroCs Tryz.prog 115 = some [.d (.o .nilFunc)] := ⟨by kernel_rfl, by kernel_rfl, by kernel_rfl, by kernel_rfl⟩
theorem ty116 : Tryz.prog.cellsOf 116 = 1 ∧ Tryz.prog.bytesOf 116 = 8 ∧ (Tryz.prog.info? 116).isSome = true ∧ zeroCs Tryz.prog 116 = some [.d (.o .nilFunc)] := ⟨by kernel_rfl, by kernel_rfl, by kernel_rfl, by kernel_rfl⟩
theorem ty117 : Tryz.prog.cellsOf 117 = 1 ∧ Tryz.prog.bytesOf 117 = 8 ∧ (Tryz.prog.info? 117).isSome = true ∧ zeroCs Tryz.prog 117 = some [.d (.o .nilFunc)] := ⟨by kernel_rfl, by kernel_rfl, by kernel_rfl, by kernel_rfl⟩
theorem ty118 : Tryz.prog.cellsOf 118 = 1 ∧ Tryz.prog.bytesOf 118 = 8 ∧ (Tryz.prog.info? 118).isSome = true ∧ zeroCs Tryz.prog 118 = some [.d (.o .nilFunc)] := ⟨by kernel_rfl, by kernel_rfl, by kernel_rfl, by kernel_rfl⟩
theorem ty119 : Tryz.prog.cellsOf 119 = 1 ∧ Tryz.prog.bytesOf 119 = 8 ∧ (Tryz.prog.info? 119).isSome = true ∧ zeroCs Tryz.prog 119 = some [.d (.o .nilFunc)] := ⟨by kernel_rfl, by kernel_rfl, by kernel_rfl, by kernel_rfl⟩
theorem ty120 : Tryz.prog.cellsOf 120 = 1 ∧ Tryz.prog.bytesOf 120 = 8 ∧ (Tryz.prog.info? 120).isSome = true ∧ zeroCs Tryz.prog 120 = some [.d (.o .nilFunc)] := ⟨by kernel_rfl, by kernel_rfl, by kernel_rfl, by kernel_rfl⟩
theorem ty121 : Tryz.prog.cellsOf 121 = 1 ∧ Tryz.prog.bytesOf 121 = 8 ∧ (Tryz.prog.info? 121).isSome = true ∧ zeroCs Tryz.prog 121 = some [.d (.o .nilFunc)] := ⟨by kernel_rfl, by kernel_rfl, by kernel_rfl, by kernel_rfl⟩
theorem ty122 : Tryz.prog.cellsOf 122 = 1 ∧ Tryz.prog.bytesOf 122 = 8 ∧ (Tryz.prog.info? 122).isSome = true ∧ zeroCs Tryz.prog 122 = some [.d (.o .nilFunc)] := ⟨by kernel_rfl, by kernel_rfl, by kernel_rfl, by kernel_rfl⟩
theorem ty123 : Tryz.prog.cellsOf 123 = 1 ∧ Tryz.prog.bytesOf 123 = 8 ∧ (Tryz.prog.info? 123).isSome = true ∧ zeroCs Tryz.prog 123 = some [.d (.o .nilFunc)] := ⟨by kernel_rfl, by kernel_rfl, by kernel_rfl, by kernel_rfl⟩
theorem ty125 : Tryz.prog.cellsOf 125 = 1 ∧ Tryz.prog.bytesOf 125 = 8 ∧ (Tryz.prog.info? 125).isSome = true ∧ zeroCs Tryz.prog 125 = some [.d (.o .nilFunc)] := ⟨by kernel_rfl, by kernel_rfl, by kernel_rfl, by kernel_rfl⟩
theorem ty126 : Tryz.prog.cellsOf 126 = 1 ∧ Tryz.prog.bytesOf 126 = 8 ∧ (Tryz.prog.info? 126).isSome = true ∧ zeroCs Tryz.prog 126 = some [.d (.o .nilFunc)] := ⟨by kernel_rfl, by kernel_rfl, by kernel_rfl, by kernel_rfl⟩
theorem ty127 : Tryz.prog.cellsOf 127 = 1 ∧ Tryz.prog.bytesOf 127 = 8 ∧ (Tryz.prog.info? 127).isSome = true ∧ zeroCs Tryz.prog 127 = some [.d (.o .nilFunc)] := ⟨by kernel_rfl, by kernel_rfl, by kernel_rfl, by kernel_rfl⟩
theorem ty128 : Tryz.prog.cellsOf 128 = 1 ∧ Tryz.prog.bytesOf 128 = 8 ∧ (Tryz.prog.info? 128).isSome = true ∧ zeroCs Tryz.prog 128 = some [.d (.o .nilFunc)] := ⟨by kernel_rfl, by kernel_rfl, by kernel_rfl, by kernel_rfl⟩
theorem ty129 : Tryz.prog.cellsOf 129 = 1 ∧ Tryz.prog.bytesOf 129 = 8 ∧ (Tryz.prog.info? 129).isSome = true ∧ zeroCs Tryz.prog 129 = some [.d (.o .nilFunc)] := ⟨by kernel_rfl, by kernel_rfl, by kernel_rfl, by kernel_rfl⟩
theorem ty130 : Tryz.prog.cellsOf 130 = 1 ∧ Tryz.prog.bytesOf 130 = 8 ∧ (Tryz.prog.info? 130).isSome = true ∧ zeroCs Tryz.prog 130 = some [.d (.o .nilFunc)] := ⟨by kernel_rfl, by kernel_rfl, by kernel_rfl, by kernel_rfl⟩
theorem ty131 : Tryz.prog.cellsOf 131 = 1 ∧ Tryz.prog.bytesOf 131 = 8 ∧ (Tryz.prog.info? 131).isSome = true ∧ zeroCs Tryz.prog 131 = some [.d (.o .nilFunc)] := ⟨by kernel_rfl, by kernel_rfl, by kernel_rfl, by kernel_rfl⟩
theorem ty132 : Tryz.prog.cellsOf 132 = 1 ∧ Tryz.prog.bytesOf 132 = 8 ∧ (Tryz.prog.info? 132).isSome = true ∧ zeroCs Tryz.prog 132 = some [.d (.o .nilFunc)] := ⟨by kernel_rfl, by kernel_rfl, by kernel_rfl, by kernel_rfl⟩
theorem ty133 : Tryz.prog.cellsOf 133 = 1 ∧ Tryz.prog.bytesOf 133 = 8 ∧ (Tryz.prog.info? 133).isSome = true ∧ zeroCs Tryz.prog 133 = some [.d (.o .nilFunc)] := ⟨by kernel_rfl, by kernel_rfl, by kernel_rfl, by kernel_rfl⟩
theorem ty134 : Tryz.prog.cellsOf 134 = 1 ∧ Tryz.prog.bytesOf 134 = 8 ∧ (Tryz.prog.info? 134).isSome = true ∧ zeroCs Tryz.prog 134 = some [.d (.o .nilFunc)] := ⟨by kernel_rfl, by kernel_rfl, by kernel_rfl, by kernel_rfl⟩
theorem ty135 : Tryz.prog.cellsOf 135 = 1 ∧ Tryz.prog.bytesOf 135 = 8 ∧ (Tryz.prog.info? 135).isSome = true ∧ zeroCs Tryz.prog 135 = some [.d (.o .nilFunc)] := ⟨by kernel_rfl, by kernel_rfl, by kernel_rfl, by kernel_rfl⟩
theorem ty136 : Tryz.prog.cellsOf 136 = 1 ∧ Tryz.prog.bytesOf 136 = 8 ∧ (Tryz.prog.info? 136).isSome = true ∧ zeroCs Tryz.prog 136 = some [.d (.o .nilFunc)] := ⟨by kernel_rfl, by kernel_rfl, by kernel_rfl, by kernel_rfl⟩
theorem ty137 : Tryz.prog.cellsOf 137 = 1 ∧ Tryz.prog.bytesOf 137 = 24 ∧ (Tryz.prog.info? 137).isSome = true ∧ zeroCs Tryz.prog 137 = some [.fsl []] := ⟨by kernel_rfl, by kernel_rfl, by kernel_rfl, by kernel_rfl⟩
theorem ty138 : Tryz.prog.cellsOf 138 = 5 ∧ Tryz.prog.bytesOf 138 = 72 ∧ (Tryz.prog.info? 138).isSome = true ∧ zeroCs Tryz.prog 138 = some [.d (.s []), .fsl [], .d (.b false), .d (.b false), .fsl []] := ⟨by kernel_rfl, by kernel_rfl, by kernel_rfl, by kernel_rfl⟩
theorem ty139 : Tryz.prog.cellsOf 139 = 5 ∧ Tryz.prog.bytesOf 139 = 72 ∧ (Tryz.prog.info? 139).isSome = true ∧ zeroCs Tryz.prog 139 = some [.d (.s []), .fsl [], .d (.b false), .d (.b false), .fsl []] := ⟨by kernel_rfl, by kernel_rfl, by kernel_rfl, by kernel_rfl⟩
theorem ty140 : Tryz.prog.cellsOf 140 = 1 ∧ Tryz.prog.bytesOf 140 = 8 ∧ (Tryz.prog.info? 140).isSome = true ∧ zeroCs Tryz.prog 140 = some [.d (.o .nilFunc)] := ⟨by kernel_rfl, by kernel_rfl, by kernel_rfl, by kernel_rfl⟩
theorem ty141 : Tryz.prog.cellsOf 141 = 1 ∧ Tryz.prog.bytesOf 141 = 8 ∧ (Tryz.prog.info? 141).isSome = true ∧ zeroCs Tryz.prog 141 = some [.d (.o .nilFunc)] := ⟨by kernel_rfl, by kernel_rfl, by kernel_rfl, by kernel_rfl⟩
theorem ty142 : Tryz.prog.cellsOf 142 = 1 ∧ Tryz.prog.bytesOf 142 = 8 ∧ (Tryz.prog.info? 142).isSome = true ∧ zeroCs Tryz.prog 142 = some [.d (.o .nilFunc)] := ⟨by kernel_rfl, by kernel_rfl, by kernel_rfl, by kernel_rfl⟩
theorem ty143 : Tryz.prog.cellsOf 143 = 1 ∧ Tryz.prog.bytesOf 143 = 24 ∧ (Tryz.prog.info? 143).isSome = true ∧ zeroCs Tryz.prog 143 = some [.fsl []] := ⟨by kernel_rfl, by kernel_rfl, by kernel_rfl, by kernel_rfl⟩
theorem ty144 : Tryz.prog.cellsOf 144 = 16 ∧ Tryz.prog.bytesOf 144 = 280 ∧ (Tryz.prog.info? 144).isSome = true ∧ zeroCs Tryz.prog 144 = some [.d (.s []), .fsl [], .fsl [], .fsl [], .d (.i .i64 0), .d (.s []), .fsl [], .d (.i .i64 0), .d (.s []), .d (.s []), .d (.i .i64 0), .d (.i .i64 0), .d (.s []), .fsl [], .fsl [], .fsl []] := ⟨by kernel_rfl, by kernel_rfl, by kernel_rfl, by kernel_rfl⟩
theorem ty145 : Tryz.prog.cellsOf 145 = 16 ∧ Tryz.prog.bytesOf 145 = 280 ∧ (Tryz.prog.info? 145).isSome = true ∧ zeroCs Tryz.prog 145 = some [.d (.s []), .fsl [], .fsl [], .fsl [], .d (.i .i64 0), .d (.s []), .fsl [], .d (.i .i64 0), .d (.s []), .d (.s []), .d (.i .i64 0), .d (.i .i64 0), .d (.s []), .fsl [], .fsl [], .fsl []] := ⟨by kernel_rfl, by kernel_rfl, by kernel_rfl, by kernel_rfl⟩
theorem ty146 : Tryz.prog.cellsOf 146 = 1 ∧ Tryz.prog.bytesOf 146 = 8 ∧ (Tryz.prog.info? 146).isSome = true ∧ zeroCs Tryz.prog 146 = some [.d (.o .nilFunc)] := ⟨by kernel_rfl, by kernel_rfl, by kernel_rfl, by kernel_rfl⟩
theorem ty147 : Tryz.prog.cellsOf 147 = 1 ∧ Tryz.prog.bytesOf 147 = 8 ∧ (Tryz.prog.info? 147).isSome = true ∧ zeroCs Tryz.prog 147 = some [.d (.o .nilFunc)] := ⟨by kernel_rfl, by kernel_rfl, by kernel_rfl, by kernel_rfl⟩
theorem ty148 : Tryz.prog.cellsOf 148 = 1 ∧ Tryz.prog.bytesOf 148 = 8 ∧ (Tryz.prog.info? 148).isSome = true ∧ zeroCs Tryz.prog 148 = some [.d (.o .nilFunc)] := ⟨by kernel_rfl, by kernel_rfl, by kernel_rfl, by kernel_rfl⟩
theorem ty149 : Tryz.prog.cellsOf 149 = 1 ∧ Tryz.prog.bytesOf 149 = 8 ∧ (Tryz.prog.info? 149).isSome = true ∧ zeroCs Tryz.prog 149 = some [.d (.o .nilFunc)] := ⟨by kernel_rfl, by kernel_rfl, by kernel_rfl, by kernel_rfl⟩
theorem ty150 : Tryz.prog.cellsOf 150 = 1 ∧ Tryz.prog.bytesOf 150 = 8 ∧ (Tryz.prog.info? 150).isSome = true ∧ zeroCs Tryz.prog 150 = some [.d (.o .nilFunc)] := ⟨by kernel_rfl, by kernel_rfl, by kernel_rfl, by kernel_rfl⟩
theorem ty151 : Tryz.prog.cellsOf 151 = 1 ∧ Tryz.prog.bytesOf 151 = 8 ∧ (Tryz.prog.info? 151).isSome = true ∧ zeroCs Tryz.prog 151 = some [.d (.o .nilFunc)] := ⟨by kernel_rfl, by kernel_rfl, by kernel_rfl, by kernel_rfl⟩
theorem ty152 : Tryz.prog.cellsOf 152 = 1 ∧ Tryz.prog.bytesOf 152 = 8 ∧ (Tryz.prog.info? 152).isSome = true ∧ zeroCs Tryz.prog 152 = some [.d (.o .nilFunc)] := ⟨by kernel_rfl, by kernel_rfl, by kernel_rfl, by kernel_rfl⟩
theorem ty153 : Tryz.prog.cellsOf 153 = 1 ∧ Tryz.prog.bytesOf 153 = 8 ∧ (Tryz.prog.info? 153).isSome = true ∧ zeroCs Tryz.prog 153 = some [.d (.o .nilFunc)] := ⟨by kernel_rfl, by kernel_rfl, by kernel_rfl, by kernel_rfl⟩
theorem ty154 : Tryz.prog.cellsOf 154 = 1 ∧ Tryz.prog.bytesOf 154 = 8 ∧ (Tryz.prog.info? 154).isSome = true ∧ zeroCs Tryz.prog 154 = some [.d (.o .nilFunc)] := ⟨by kernel_rfl, by kernel_rfl, by kernel_rfl, by kernel_rfl⟩
theorem ty155 : Tryz.prog.cellsOf 155 = 1 ∧ Tryz.prog.bytesOf 155 = 8 ∧ (Tryz.prog.info? 155).isSome = true ∧ zeroCs Tryz.prog 155 = some [.d (.o .nilFunc)] := ⟨by kernel_rfl, by kernel_rfl, by kernel_rfl, by kernel_rfl⟩
theorem ty156 : Tryz.prog.cellsOf 156 = 1 ∧ Tryz.prog.bytesOf 156 = 24 ∧ (Tryz.prog.info? 156).isSome = true ∧ zeroCs Tryz.prog 156 = some [.fsl []] := ⟨by kernel_rfl, by kernel_rfl, by kernel_rfl, by kernel_rfl⟩
theorem ty157 : Tryz.prog.cellsOf 157 = 1 ∧ Tryz.prog.bytesOf 157 = 8 ∧ (Tryz.prog.info? 157).isSome = true ∧ zeroCs Tryz.prog 157 = some [.d (.o .nilFunc)] := ⟨by kernel_rfl, by kernel_rfl, by kernel_rfl, by kernel_rfl⟩
theorem ty158 : Tryz.prog.cellsOf 158 = 1 ∧ Tryz.prog.bytesOf 158 = 24 ∧ (Tryz.prog.info? 158).isSome = true ∧ zeroCs Tryz.prog 158 = some [.fsl []] := ⟨by kernel_rfl, by kernel_rfl, by kernel_rfl, by kernel_rfl⟩
theorem ty159 : Tryz.prog.cellsOf 159 = 1 ∧ Tryz.prog.bytesOf 159 = 8 ∧ (Tryz.prog.info? 159).isSome = true ∧ zeroCs Tryz.prog 159 = some [.d (.o .nilFunc)] := ⟨by kernel_rfl, by kernel_rfl, by kernel_rfl, by kernel_rfl⟩
theorem ty160 : Tryz.prog.cellsOf 160 = 1 ∧ Tryz.prog.bytesOf 160 = 8 ∧ (Tryz.prog.info? 160).isSome = true ∧ zeroCs Tryz.prog 160 = some [.d (.o .nilFunc)] := ⟨by kernel_rfl, by kernel_rfl, by kernel_rfl, by kernel_rfl⟩
theorem ty161 : Tryz.prog.cellsOf 161 = 1 ∧ Tryz.prog.bytesOf 161 = 8 ∧ (Tryz.prog.info? 161).isSome = true ∧ zeroCs Tryz.prog 161 = some [.d (.o .nilFunc)] := ⟨by kernel_rfl, by kernel_rfl, by kernel_rfl, by kernel_rfl⟩
theorem ty162 : Tryz.prog.cellsOf 162 = 1 ∧ Tryz.prog.bytesOf 162 = 8 ∧ (Tryz.prog.info? 162).isSome = true ∧ zeroCs Tryz.prog 162 = some [.d (.o .nilFunc)] := ⟨by kernel_rfl, by kernel_rfl, by kernel_rfl, by kernel_rfl⟩
theorem ty163 : Tryz.prog.cellsOf 163 = 1 ∧ Tryz.prog.bytesOf 163 = 8 ∧ (Tryz.prog.info? 163).isSome = true ∧ zeroCs Tryz.prog 163 = some [.d (.o .nilFunc)] := ⟨by kernel_rfl, by kernel_rfl, by kernel_rfl, by kernel_rfl⟩
theorem ty164 : Tryz.prog.cellsOf 164 = 1 ∧ Tryz.prog.bytesOf 164 = 8 ∧ (Tryz.prog.info? 164).isSome = true ∧ zeroCs Tryz.prog 164 = some [.d (.o .nilFunc)] := ⟨by kernel_rfl, by kernel_rfl, by kernel_rfl, by kernel_rfl⟩
theorem ty165 : Tryz.prog.cellsOf 165 = 1 ∧ Tryz.prog.bytesOf 165 = 8 ∧ (Tryz.prog.info? 165).isSome = true ∧ zeroCs Tryz.prog 165 = some [.d (.o .nilFunc)] := ⟨by kernel_rfl, by kernel_rfl, by kernel_rfl, by kernel_rfl⟩
theorem ty166 : Tryz.prog.cellsOf 166 = 1 ∧ Tryz.prog.bytesOf 166 = 8 ∧ (Tryz.prog.info? 166).isSome = true ∧ zeroCs Tryz.prog 166 = some [.d (.o .nilFunc)] := ⟨by kernel_rfl, by kernel_rfl, by kernel_rfl, by kernel_rfl⟩
theorem ty167 : Tryz.prog.cellsOf 167 = 1 ∧ Tryz.prog.bytesOf 167 = 8 ∧ (Tryz.prog.info? 167).isSome = true ∧ zeroCs Tryz.prog 167 = some [.d (.o .nilFunc)] := ⟨by kernel_rfl, by kernel_rfl, by kernel_rfl, by kernel_rfl⟩
theorem ty168 : Tryz.prog.cellsOf 168 = 1 ∧ Tryz.prog.bytesOf 168 = 8 ∧ (Tryz.prog.info? 168).isSome = true ∧ zeroCs Tryz.prog 168 = some [.d (.o .nilFunc)] := ⟨by kernel_rfl, by kernel_rfl, by kernel_rfl, by kernel_rfl⟩
theorem ty169 : Tryz.prog.cellsOf 169 = 1 ∧ Tryz.prog.bytesOf 169 = 8 ∧ (Tryz.prog.info? 169).isSome = true ∧ zeroCs Tryz.prog 169 = some [.d (.o .nilFunc)] := ⟨by kernel_rfl, by kernel_rfl, by kernel_rfl, by kernel_rfl⟩
theorem ty170 : Tryz.prog.cellsOf 170 = 1 ∧ Tryz.prog.bytesOf 170 = 8 ∧ (Tryz.prog.info? 170).isSome = true ∧ zeroCs Tryz.prog 170 = some [.d (.o .nilFunc)] := ⟨by kernel_rfl, by kernel_rfl, by kernel_rfl, by kernel_rfl⟩
theorem ty171 : Tryz.prog.cellsOf 171 = 1 ∧ Tryz.prog.bytesOf 171 = 8 ∧ (Tryz.prog.info? 171).isSome = true ∧ zeroCs Tryz.prog 171 = some [.d (.o .nilFunc)] := ⟨by kernel_rfl, by kernel_rfl, by kernel_rfl, by kernel_rfl⟩
theorem ty172 : Tryz.prog.cellsOf 172 = 11 ∧ Tryz.prog.bytesOf 172 = 184 ∧ (Tryz.prog.info? 172).isSome = true ∧ zeroCs Tryz.prog 172 = some [.d (.s []), .fsl [], .d (.i .i64 0), .d (.s []), .d (.s []), .d (.i .i64 0), .d (.i .i64 0), .d (.s []), .fsl [], .fsl [], .fsl []] := ⟨by kernel_rfl, by kernel_rfl, by kernel_rfl, by kernel_rfl⟩
theorem ty173 : Tryz.prog.cellsOf 173 = 11 ∧ Tryz.prog.bytesOf 173 = 184 ∧ (Tryz.prog.info? 173).isSome = true ∧ zeroCs Tryz.prog 173 = some [.d (.s []), .fsl [], .d (.i .i64 0), .d (.s []), .d (.s []), .d (.i .i64 0), .d (.i .i64 0), .d (.s []), .fsl [], .fsl [], .fsl []] := ⟨by kernel_rfl, by kernel_rfl, by kernel_rfl, by kernel_rfl⟩
theorem ty175 : Tryz.prog.cellsOf 175 = 1 ∧ Tryz.prog.bytesOf 175 = 8 ∧ (Tryz.prog.info? 175).isSome = true ∧ zeroCs Tryz.prog 175 = some [.d (.o .nilFunc)] := ⟨by kernel_rfl, by kernel_rfl, by kernel_rfl, by kernel_rfl⟩
theorem ty176 : Tryz.prog.cellsOf 176 = 1 ∧ Tryz.prog.bytesOf 176 = 8 ∧ (Tryz.prog.info? 176).isSome = true ∧ zeroCs Tryz.prog 176 = some [.d (.o .nilFunc)] := ⟨by kernel_rfl, by kernel_rfl, by kernel_rfl, by kernel_rfl⟩
theorem ty178 : Tryz.prog.cellsOf 178 = 1 ∧ Tryz.prog.bytesOf 178 = 8 ∧ (Tryz.prog.info? 178).isSome = true ∧ zeroCs Tryz.prog 178 = some [.d (.o .nilFunc)] := ⟨by kernel_rfl, by kernel_rfl, by kernel_rfl, by kernel_rfl⟩
theorem ty179 : Tryz.prog.cellsOf 179 = 16 ∧ Tryz.prog.bytesOf 179 = 264 ∧ (Tryz.prog.info? 179).isSome = true ∧ zeroCs Tryz.prog 179 = some [.d (.s []), .fsl [], .d (.i .i64 0), .d (.s []), .fsl [], .d (.b false), .fsl [], .d (.i .i64 0), .d (.s []), .d (.s []), .d (.i .i64 0), .d (.i .i64 0), .d (.s []), .fsl [], .fsl [], .fsl []] := ⟨by kernel_rfl, by kernel_rfl, by kernel_rfl, by kernel_rfl⟩
theorem ty180 : Tryz.prog.cellsOf 180 = 16 ∧ Tryz.prog.bytesOf 180 = 264 ∧ (Tryz.prog.info? 180).isSome = true ∧ zeroCs Tryz.prog 180 = some [.d (.s []), .fsl [], .d (.i .i64 0), .d (.s []), .fsl [], .d (.b false), .fsl [], .d (.i .i64 0), .d (.s []), .d (.s []), .d (.i .i64 0), .d (.i .i64 0), .d (.s []), .fsl [], .fsl [], .fsl []] := ⟨by kernel_rfl, by kernel_rfl, by kernel_rfl, by kernel_rfl⟩
theorem ty182 : Tryz.prog.cellsOf 182 = 1 ∧ Tryz.prog.bytesOf 182 = 8 ∧ (Tryz.prog.info? 182).isSome = true ∧ zeroCs Tryz.prog 182 = some [.d (.o .nilFunc)] := ⟨by kernel_rfl, by kernel_rfl, by kernel_rfl, by kernel_rfl⟩
theorem ty183 : Tryz.prog.cellsOf 183 = 1 ∧ Tryz.prog.bytesOf 183 = 8 ∧ (Tryz.prog.info? 183).isSome = true ∧ zeroCs Tryz.prog 183 = some [.d (.o .nilFunc)] := ⟨by kernel_rfl, by kernel_rfl, by kernel_rfl, by kernel_rfl⟩
theorem ty184 : Tryz.prog.cellsOf 184 = 2 ∧ Tryz.prog.bytesOf 184 = 40 ∧ (Tryz.prog.info? 184).isSome = true ∧ zeroCs Tryz.prog 184 = some [.d (.s []), .fsl []] := ⟨by kernel_rfl, by kernel_rfl, by kernel_rfl, by kernel_rfl⟩
theorem ty185 : Tryz.prog.cellsOf 185 = 2 ∧ Tryz.prog.bytesOf 185 = 40 ∧ (Tryz.prog.info? 185).isSome = true ∧ zeroCs Tryz.prog 185 = some [.d (.s []), .fsl []] := ⟨by kernel_rfl, by kernel_rfl, by kernel_rfl, by kernel_rfl⟩
theorem ty186 : Tryz.prog.cellsOf 186 = 1 ∧ Tryz.prog.bytesOf 186 = 8 ∧ (Tryz.prog.info? 186).isSome = true ∧ zeroCs Tryz.prog 186 = some [.d (.o .nilFunc)] := ⟨by kernel_rfl, by kernel_rfl, by kernel_rfl, by kernel_rfl⟩
theorem ty187 : Tryz.prog.cellsOf 187 = 1 ∧ Tryz.prog.bytesOf 187 = 8 ∧ (Tryz.prog.info? 187).isSome = true ∧ zeroCs Tryz.prog 187 = some [.d (.o .nilFunc)] := ⟨by kernel_rfl, by kernel_rfl, by kernel_rfl, by kernel_rfl⟩
theorem ty188 : Tryz.prog.cellsOf 188 = 1 ∧ Tryz.prog.bytesOf 188 = 8 ∧ (Tryz.prog.info? 188).isSome = true ∧ zeroCs Tryz.prog 188 = some [.d (.o .nilFunc)] := ⟨by kernel_rfl, by kernel_rfl, by kernel_rfl, by kernel_rfl⟩
theorem ty189 : Tryz.prog.cellsOf 189 = 1 ∧ Tryz.prog.bytesOf 189 = 8 ∧ (Tryz.prog.info? 189).isSome = true ∧ zeroCs Tryz.prog 189 = some [.d (.o .nilFunc)] := ⟨by kernel_rfl, by kernel_rfl, by kernel_rfl, by kernel_rfl⟩
theorem ty190 : Tryz.prog.cellsOf 190 = 1 ∧ Tryz.prog.bytesOf 190 = 8 ∧ (Tryz.prog.info? 190).isSome = true ∧ zeroCs Tryz.prog 190 = some [.d (.o .nilFunc)] := ⟨by kernel_rfl, by kernel_rfl, by kernel_rfl, by kernel_rfl⟩
theorem ty191 : Tryz.prog.cellsOf 191 = 1 ∧ Tryz.prog.bytesOf 191 = 8 ∧ (Tryz.prog.info? 191).isSome = true ∧ zeroCs Tryz.prog 191 = some [.d (.o .nilFunc)] := ⟨by kernel_rfl, by kernel_rfl, by kernel_rfl, by kernel_rfl⟩
theorem ty192 : Tryz.prog.cellsOf 192 = 1 ∧ Tryz.prog.bytesOf 192 = 8 ∧ (Tryz.prog.info? 192).isSome = true ∧ zeroCs Tryz.prog 192 = some [.d (.o .nilFunc)] := ⟨by kernel_rfl, by kernel_rfl, by kernel_rfl, by kernel_rfl⟩
theorem ty193 : Tryz.prog.cellsOf 193 = 1 ∧ Tryz.prog.bytesOf 193 = 8 ∧ (Tryz.prog.info? 193).isSome = true ∧ zeroCs Tryz.prog 193 = some [.d (.o .nilFunc)] := ⟨by kernel_rfl, by kernel_rfl, by kernel_rfl, by kernel_rfl⟩
theorem ty194 : Tryz.prog.cellsOf 194 = 1 ∧ Tryz.prog.bytesOf 194 = 24 ∧ (Tryz.prog.info? 194).isSome = true ∧ zeroCs Tryz.prog 194 = some [.fsl []] := ⟨by kernel_rfl, by kernel_rfl, by kernel_rfl, by kernel_rfl⟩
theorem ty195 : Tryz.prog.cellsOf 195 = 5 ∧ Tryz.prog.bytesOf 195 = 72 ∧ (Tryz.prog.info? 195).isSome = true ∧ zeroCs Tryz.prog 195 = some [.d (.s []), .fsl [], .d (.b false), .d (.b false), .fsl []] := ⟨by kernel_rfl, by kernel_rfl, by kernel_rfl, by kernel_rfl⟩
theorem ty196 : Tryz.prog.cellsOf 196 = 5 ∧ Tryz.prog.bytesOf 196 = 72 ∧ (Tryz.prog.info? 196).isSome = true ∧ zeroCs Tryz.prog 196 = some [.d (.s []), .fsl [], .d (.b false), .d (.b false), .fsl []] := ⟨by kernel_rfl, by kernel_rfl, by kernel_rfl, by kernel_rfl⟩
theorem ty197 : Tryz.prog.cellsOf 197 = 1 ∧ Tryz.prog.bytesOf 197 = 8 ∧ (Tryz.prog.info? 197).isSome = true ∧ zeroCs Tryz.prog 197 = some [.d (.o .nilFunc)] := ⟨by kernel_rfl, by kernel_rfl, by kernel_rfl, by kernel_rfl⟩
theorem ty198 : Tryz.prog.cellsOf 198 = 1 ∧ Tryz.prog.bytesOf 198 = 24 ∧ (Tryz.prog.info? 198).isSome = true ∧ zeroCs Tryz.prog 198 = some [.fsl []] := ⟨by kernel_rfl, by kernel_rfl, by kernel_rfl, by kernel_rfl⟩
theorem ty199 : Tryz.prog.cellsOf 199 = 3 ∧ Tryz.prog.bytesOf 199 = 64 ∧ (Tryz.prog.info? 199).isSome = true ∧ zeroCs Tryz.prog 199 = some [.d (.s []), .fsl [], .fsl []] := ⟨by kernel_rfl, by kernel_rfl, by kernel_rfl, by kernel_rfl⟩
theorem ty200 : Tryz.prog.cellsOf 200 = 3 ∧ Tryz.prog.bytesOf 200 = 64 ∧ (Tryz.prog.info? 200).isSome = true ∧ zeroCs Tryz.prog 200 = some [.d (.s []), .fsl [], .fsl []] := ⟨by kernel_rfl, by kernel_rfl, by kernel_rfl, by kernel_rfl⟩
theorem ty201 : Tryz.prog.cellsOf 201 = 1 ∧ Tryz.prog.bytesOf 201 = 8 ∧ (Tryz.prog.info? 201).isSome = true ∧ zeroCs Tryz.prog 201 = some [.d (.o .nilFunc)] := ⟨by kernel_rfl, by kernel_rfl, by kernel_rfl, by kernel_rfl⟩
theorem ty202 : Tryz.prog.cellsOf 202 = 1 ∧ Tryz.prog.bytesOf 202 = 24 ∧ (Tryz.prog.info? 202).isSome = true ∧ zeroCs Tryz.prog 202 = some [.fsl []] := ⟨by kernel_rfl, by kernel_rfl, by kernel_rfl, by kernel_rfl⟩
theorem ty203 : Tryz.prog.cellsOf 203 = 1 ∧ Tryz.prog.bytesOf 203 = 24 ∧ (Tryz.prog.info? 203).isSome = true ∧ zeroCs Tryz.prog 203 = some [.fsl []] := ⟨by kernel_rfl, by kernel_rfl, by kernel_rfl, by kernel_rfl⟩
theorem ty204 : Tryz.prog.cellsOf 204 = 12 ∧ Tryz.prog.bytesOf 204 = 192 ∧ (Tryz.prog.info? 204).isSome = true ∧ zeroCs Tryz.prog 204 = some [.d (.s []), .fsl [], .d (.i .i64 0), .d (.s []), .fsl [], .fsl [], .d (.b false), .d (.b false), .d (.i .i64 0), .d (.s []), .fsl [], .fsl []] := ⟨by kernel_rfl, by kernel_rfl, by kernel_rfl, by kernel_rfl⟩
theorem ty205 : Tryz.prog.cellsOf 205 = 12 ∧ Tryz.prog.bytesOf 205 = 192 ∧ (Tryz.prog.info? 205).isSome = true ∧ zeroCs Tryz.prog 205 = some [.d (.s []), .fsl [], .d (.i .i64 0), .d (.s []), .fsl [], .fsl [], .d (.b false), .d (.b false), .d (.i .i64 0), .d (.s []), .fsl [], .fsl []] := ⟨by kernel_rfl, by kernel_rfl, by kernel_rfl, by kernel_rfl⟩
theorem ty206 : Tryz.prog.cellsOf 206 = 1 ∧ Tryz.prog.bytesOf 206 = 8 ∧ (Tryz.prog.info? 206).isSome = true ∧ zeroCs Tryz.prog 206 = some [.d (.o .nilFunc)] := ⟨by kernel_rfl, by kernel_rfl, by kernel_rfl, by kernel_rfl⟩
theorem ty207 : Tryz.prog.cellsOf 207 = 1 ∧ Tryz.prog.bytesOf 207 = 24 ∧ (Tryz.prog.info? 207).isSome = true ∧ zeroCs Tryz.prog 207 = some [.fsl []] := ⟨by kernel_rfl, by kernel_rfl, by kernel_rfl, by kernel_rfl⟩
theorem ty208 : Tryz.prog.cellsOf 208 = 16 ∧ Tryz.prog.bytesOf 208 = 280 ∧ (Tryz.prog.info? 208).isSome = true ∧ zeroCs Tryz.prog 208 = some [.d (.s []), .fsl [], .fsl [], .fsl [], .d (.i .i64 0), .d (.s []), .fsl [], .d (.i .i64 0), .d (.s []), .d (.s []), .d (.i .i64 0), .d (.i .i64 0), .d (.s []), .fsl [], .fsl [], .fsl []] := ⟨by kernel_rfl, by kernel_rfl, by kernel_rfl, by kernel_rfl⟩
theorem ty209 : Tryz.prog.cellsOf 209 = 16 ∧ Tryz.prog.bytesOf 209 = 280 ∧ (Tryz.prog.info? 209).isSome = true ∧ zeroCs Tryz.prog 209 = some [.d (.s []), .fsl [], .fsl [], .fsl [], .d (.i .i64 0), .d (.s []), .fsl [], .d (.i .i64 0), .d (.s []), .d (.s []), .d (.i .i64 0), .d (.i .i64 0), .d (.s []), .fsl [], .fsl [], .fsl []] := ⟨by kernel_rfl, by kernel_rfl, by kernel_rfl, by kernel_rfl⟩
theorem ty210 : Tryz.prog.cellsOf 210 = 1 ∧ Tryz.prog.bytesOf 210 = 8 ∧ (Tryz.prog.info? 210).isSome = true ∧ zeroCs Tryz.prog 210 = some [.d (.o .nilFunc)] := ⟨by kernel_rfl, by kernel_rfl, by kernel_rfl, by kernel_rfl⟩
theorem ty211 : Tryz.prog.cellsOf 211 = 1 ∧ Tryz.prog.bytesOf 211 = 8 ∧ (Tryz.prog.info? 211).isSome = true ∧ zeroCs Tryz.prog 211 = some [.d (.o .nilFunc)] := ⟨by kernel_rfl, by kernel_rfl, by kernel_rfl, by kernel_rfl⟩
theorem ty212 : Tryz.prog.cellsOf 212 = 1 ∧ Tryz.prog.bytesOf 212 = 8 ∧ (Tryz.prog.info? 212).isSome = true ∧ zeroCs Tryz.prog 212 = some [.d (.o .nilFunc)] := ⟨by kernel_rfl, by kernel_rfl, by kernel_rfl, by kernel_rfl⟩
theorem ty213 : Tryz.prog.cellsOf 213 = 1 ∧ Tryz.prog.bytesOf 213 = 8 ∧ (Tryz.prog.info? 213).isSome = true ∧ zeroCs Tryz.prog 213 = some [.d (.o .nilFunc)] := ⟨by kernel_rfl, by kernel_rfl, by kernel_rfl, by kernel_rfl⟩
theorem ty214 : Tryz.prog.cellsOf 214 = 1 ∧ Tryz.prog.bytesOf 214 = 8 ∧ (Tryz.prog.info? 214).isSome = true ∧ zeroCs Tryz.prog 214 = some [.d (.o .nilFunc)] := ⟨by kernel_rfl, by kernel_rfl, by kernel_rfl, by kernel_rfl⟩
theorem ty215 : Tryz.prog.cellsOf 215 = 1 ∧ Tryz.prog.bytesOf 215 = 8 ∧ (Tryz.prog.info? 215).isSome = true ∧ zeroCs Tryz.prog 215 = some [.d (.o .nilFunc)] := ⟨by kernel_rfl, by kernel_rfl, by kernel_rfl, by kernel_rfl⟩
theorem ty216 : Tryz.prog.cellsOf 216 = 4 ∧ Tryz.prog.bytesOf 216 = 96 ∧ (Tryz.prog.info? 216).isSome = true ∧ zeroCs Tryz.prog 216 = some [.fsl [], .fsl [], .fsl [], .fsl []] := ⟨by kernel_rfl, by kernel_rfl, by kernel_rfl, by kernel_rfl⟩
theorem ty217 : Tryz.prog.cellsOf 217 = 1 ∧ Tryz.prog.bytesOf 217 = 8 ∧ (Tryz.prog.info? 217).isSome = true ∧ zeroCs Tryz.prog 217 = some [.d (.o .nilFunc)] := ⟨by kernel_rfl, by kernel_rfl, by kernel_rfl, by kernel_rfl⟩
theorem ty218 : Tryz.prog.cellsOf 218 = 1 ∧ Tryz.prog.bytesOf 218 = 8 ∧ (Tryz.prog.info? 218).isSome = true ∧ zeroCs Tryz.prog 218 = some [.d (.o .nilFunc)] := ⟨by kernel_rfl, by kernel_rfl, by kernel_rfl, by kernel_rfl⟩
theorem ty219 : Tryz.prog.cellsOf 219 = 1 ∧ Tryz.prog.bytesOf 219 = 8 ∧ (Tryz.prog.info? 219).isSome = true ∧ zeroCs Tryz.prog 219 = some [.d (.o .nilFunc)] := ⟨by kernel_rfl, by kernel_rfl, by kernel_rfl, by kernel_rfl⟩
theorem ty220 : Tryz.prog.cellsOf 220 = 1 ∧ Tryz.prog.bytesOf 220 = 8 ∧ (Tryz.prog.info? 220).isSome = true ∧ zeroCs Tryz.prog 220 = some [.d (.o .nilFunc)] := ⟨by kernel_rfl, by kernel_rfl, by kernel_rfl, by kernel_rfl⟩
theorem ty221 : Tryz.prog.cellsOf 221 = 1 ∧ Tryz.prog.bytesOf 221 = 8 ∧ (Tryz.prog.info? 221).isSome = true ∧ zeroCs Tryz.prog 221 = some [.d (.o .nilFunc)] := ⟨by kernel_rfl, by kernel_rfl, by kernel_rfl, by kernel_rfl⟩
theorem ty222 : Tryz.prog.cellsOf 222 = 1 ∧ Tryz.prog.bytesOf 222 = 8 ∧ (Tryz.prog.info? 222).isSome = true ∧ zeroCs Tryz.prog 222 = some [.d (.o .nilFunc)] := ⟨by kernel_rfl, by kernel_rfl, by kernel_rfl, by kernel_rfl⟩
theorem ty223 : Tryz.prog.cellsOf 223 = 1 ∧ Tryz.prog.bytesOf 223 = 8 ∧ (Tryz.prog.info? 223).isSome = true ∧ zeroCs Tryz.prog 223 = some [.d (.o .nilFunc)] := ⟨by kernel_rfl, by kernel_rfl, by kernel_rfl, by kernel_rfl⟩
theorem ty224 : Tryz.prog.cellsOf 224 = 11 ∧ Tryz.prog.bytesOf 224 = 184 ∧ (Tryz.prog.info? 224).isSome = true ∧ zeroCs Tryz.prog 224 = some [.d (.s []), .fsl [], .d (.i .i64 0), .d (.s []), .d (.s []), .d (.i .i64 0), .d (.i .i64 0), .d (.s []), .fsl [], .fsl [], .fsl []] := ⟨by kernel_rfl, by kernel_rfl, by kernel_rfl, by kernel_rfl⟩
theorem ty225 : Tryz.prog.cellsOf 225 = 11 ∧ Tryz.prog.bytesOf 225 = 184 ∧ (Tryz.prog.info? 225).isSome = true ∧ zeroCs Tryz.prog 225 = some [.d (.s []), .fsl [], .d (.i .i64 0), .d (.s []), .d (.s []), .d (.i .i64 0), .d (.i .i64 0), .d (.s []), .fsl [], .fsl [], .fsl []] := ⟨by kernel_rfl, by kernel_rfl, by kernel_rfl, by kernel_rfl⟩
theorem ty226 : Tryz.prog.cellsOf 226 = 1 ∧ Tryz.prog.bytesOf 226 = 8 ∧ (Tryz.prog.info? 226).isSome = true ∧ zeroCs Tryz.prog 226 = some [.d (.o .nilFunc)] := ⟨by kernel_rfl, by kernel_rfl, by kernel_rfl, by kernel_rfl⟩
theorem ty227 : Tryz.prog.cellsOf 227 = 1 ∧ Tryz.prog.bytesOf 227 = 8 ∧ (Tryz.prog.info? 227).isSome = true ∧ zeroCs Tryz.prog 227 = some [.d (.o .nilFunc)] := ⟨by kernel_rfl, by kernel_rfl, by kernel_rfl, by kernel_rfl⟩
theorem ty228 : Tryz.prog.cellsOf 228 = 1 ∧ Tryz.prog.bytesOf 228 = 8 ∧ (Tryz.prog.info? 228).isSome = true ∧ zeroCs Tryz.prog 228 = some [.d (.o .nilFunc)] := ⟨by kernel_rfl, by kernel_rfl, by kernel_rfl, by kernel_rfl⟩
theorem ty229 : Tryz.prog.cellsOf 229 = 1 ∧ Tryz.prog.bytesOf 229 = 8 ∧ (Tryz.prog.info? 229).isSome = true ∧ zeroCs Tryz.prog 229 = some [.d (.o .nilFunc)] := ⟨by kernel_rfl, by kernel_rfl, by kernel_rfl, by kernel_rfl⟩
theorem ty230 : Tryz.prog.cellsOf 230 = 1 ∧ Tryz.prog.bytesOf 230 = 8 ∧ (Tryz.prog.info? 230).isSome = true ∧ zeroCs Tryz.prog 230 = some [.d (.o .nilFunc)] := ⟨by kernel_rfl, by kernel_rfl, by kernel_rfl, by kernel_rfl⟩
theorem ty231 : Tryz.prog.cellsOf 231 = 1 ∧ Tryz.prog.bytesOf 231 = 8 ∧ (Tryz.prog.info? 231).isSome = true ∧ zeroCs Tryz.prog 231 = some [.d (.o (.map none))] := ⟨by kernel_rfl, by kernel_rfl, by kernel_rfl, by kernel_rfl⟩
theorem ty232 : Tryz.prog.cellsOf 232 = 1 ∧ Tryz.prog.bytesOf 232 = 8 ∧ (Tryz.prog.info? 232).isSome = true ∧ zeroCs Tryz.prog 232 = some [.d (.o .nilFunc)] := ⟨by kernel_rfl, by kernel_rfl, by kernel_rfl, by kernel_rfl⟩
theorem ty233 : Tryz.prog.cellsOf 233 = 1 ∧ Tryz.prog.bytesOf 233 = 8 ∧ (Tryz.prog.info? 233).isSome = true ∧ zeroCs Tryz.prog 233 = some [.d (.o .nilFunc)] := ⟨by kernel_rfl, by kernel_rfl, by kernel_rfl, by kernel_rfl⟩
theorem ty234 : Tryz.prog.cellsOf 234 = 1 ∧ Tryz.prog.bytesOf 234 = 8 ∧ (Tryz.prog.info? 234).isSome = true ∧ zeroCs Tryz.prog 234 = some [.d (.o .nilFunc)] := ⟨by kernel_rfl, by kernel_rfl, by kernel_rfl, by kernel_rfl⟩
theorem ty235 : Tryz.prog.cellsOf 235 = 1 ∧ Tryz.prog.bytesOf 235 = 8 ∧ (Tryz.prog.info? 235).isSome = true ∧ zeroCs Tryz.prog 235 = some [.d (.o .nilFunc)] := ⟨by kernel_rfl, by kernel_rfl, by kernel_rfl, by kernel_rfl⟩
theorem ty236 : Tryz.prog.cellsOf 236 = 1 ∧ Tryz.prog.bytesOf 236 = 8 ∧ (Tryz.prog.info? 236).isSome = true ∧ zeroCs Tryz.prog 236 = some [.d (.o .nilFunc)] := ⟨by kernel_rfl, by kernel_rfl, by kernel_rfl, by kernel_rfl⟩
theorem ty237 : Tryz.prog.cellsOf 237 = 1 ∧ Tryz.prog.bytesOf 237 = 8 ∧ (Tryz.prog.info? 237).isSome = true ∧ zeroCs Tryz.prog 237 = some [.d (.o .nilFunc)] := ⟨by kernel_rfl, by kernel_rfl, by kernel_rfl, by kernel_rfl⟩
theorem ty238 : Tryz.prog.cellsOf 238 = 1 ∧ Tryz.prog.bytesOf 238 = 8 ∧ (Tryz.prog.info? 238).isSome = true ∧ zeroCs Tryz.prog 238 = some [.d (.o .nilFunc)] := ⟨by kernel_rfl, by kernel_rfl, by kernel_rfl, by kernel_rfl⟩
theorem ty239 : Tryz.prog.cellsOf 239 = 1 ∧ Tryz.prog.bytesOf 239 = 8 ∧ (Tryz.prog.info? 239).isSome = true ∧ zeroCs Tryz.prog 239 = some [.d (.o .nilFunc)] := ⟨by kernel_rfl, by kernel_rfl, by kernel_rfl, by kernel_rfl⟩
theorem ty240 : Tryz.prog.cellsOf 240 = 1 ∧ Tryz.prog.bytesOf 240 = 8 ∧ (Tryz.prog.info? 240).isSome = true ∧ zeroCs Tryz.prog 240 = some [.d (.o .nilFunc)] := ⟨by kernel_rfl, by kernel_rfl, by kernel_rfl, by kernel_rfl⟩
theorem ty241 : Tryz.prog.cellsOf 241 = 1 ∧ Tryz.prog.bytesOf 241 = 8 ∧ (Tryz.prog.info? 241).isSome = true ∧ zeroCs Tryz.prog 241 = some [.d (.o .nilFunc)] := ⟨by kernel_rfl, by kernel_rfl, by kernel_rfl, by kernel_rfl⟩
theorem ty242 : Tryz.prog.cellsOf 242 = 1 ∧ Tryz.prog.bytesOf 242 = 8 ∧ (Tryz.prog.info? 242).isSome = true ∧ zeroCs Tryz.prog 242 = some [.d (.o .nilFunc)] := ⟨by kernel_rfl, by kernel_rfl, by kernel_rfl, by kernel_rfl⟩
theorem ty243 : Tryz.prog.cellsOf 243 = 1 ∧ Tryz.prog.bytesOf 243 = 8 ∧ (Tryz.prog.info? 243).isSome = true ∧ zeroCs Tryz.prog 243 = some [.d (.o .nilFunc)] := ⟨by kernel_rfl, by kernel_rfl, by kernel_rfl, by kernel_rfl⟩
theorem ty244 : Tryz.prog.cellsOf 244 = 1 ∧ Tryz.prog.bytesOf 244 = 8 ∧ (Tryz.prog.info? 244).isSome = true ∧ zeroCs Tryz.prog 244 = some [.d (.o .nilFunc)] := ⟨by kernel_rfl, by kernel_rfl, by kernel_rfl, by kernel_rfl⟩
theorem ty245 : Tryz.prog.cellsOf 245 = 4 ∧ Tryz.prog.bytesOf 245 = 64 ∧ (Tryz.prog.info? 245).isSome = true ∧ zeroCs Tryz.prog 245 = some [.d (.s []), .d (.i .i64 0), .d (.s []), .fsl []] := ⟨by kernel_rfl, by kernel_rfl, by kernel_rfl, by kernel_rfl⟩
theorem ty246 : Tryz.prog.cellsOf 246 = 4 ∧ Tryz.prog.bytesOf 246 = 64 ∧ (Tryz.prog.info? 246).isSome = true ∧ zeroCs Tryz.prog 246 = some [.d (.s []), .d (.i .i64 0), .d (.s []), .fsl []] := ⟨by kernel_rfl, by kernel_rfl, by kernel_rfl, by kernel_rfl⟩
theorem ty247 : Tryz.prog.cellsOf 247 = 1 ∧ Tryz.prog.bytesOf 247 = 8 ∧ (Tryz.prog.info? 247).isSome = true ∧ zeroCs Tryz.prog 247 = some [.d (.o .nilFunc)] := ⟨by kernel_rfl, by kernel_rfl, by kernel_rfl, by kernel_rfl⟩
theorem ty248 : Tryz.prog.cellsOf 248 = 1 ∧ Tryz.prog.bytesOf 248 = 8 ∧ (Tryz.prog.info? 248).isSome = true ∧ zeroCs Tryz.prog 248 = some [.d (.o .nilFunc)] := ⟨by kernel_rfl, by kernel_rfl, by kernel_rfl, by kernel_rfl⟩
theorem ty249 : Tryz.prog.cellsOf 249 = 1 ∧ Tryz.prog.bytesOf 249 = 8 ∧ (Tryz.prog.info? 249).isSome = true ∧ zeroCs Tryz.prog 249 = some [.d (.o .nilFunc)] := ⟨by kernel_rfl, by kernel_rfl, by kernel_rfl, by kernel_rfl⟩
theorem ty251 : Tryz.prog.cellsOf 251 = 1 ∧ Tryz.prog.bytesOf 251 = 8 ∧ (Tryz.prog.info? 251).isSome = true ∧ zeroCs Tryz.prog 251 = some [.d (.o .nilFunc)] := ⟨by kernel_rfl, by kernel_rfl, by kernel_rfl, by kernel_rfl⟩
theorem ty253 : Tryz.prog.cellsOf 253 = 1 ∧ Tryz.prog.bytesOf 253 = 8 ∧ (Tryz.prog.info? 253).isSome = true ∧ zeroCs Tryz.prog 253 = some [.d (.o .nilFunc)] := ⟨by kernel_rfl, by kernel_rfl, by kernel_rfl, by kernel_rfl⟩
theorem ty254 : Tryz.prog.cellsOf 254 = 1 ∧ Tryz.prog.bytesOf 254 = 8 ∧ (Tryz.prog.info? 254).isSome = true ∧ zeroCs Tryz.prog 254 = some [.d (.o .nilFunc)] := ⟨by kernel_rfl, by kernel_rfl, by kernel_rfl, by kernel_rfl⟩
theorem ty256 : Tryz.prog.cellsOf 256 = 1 ∧ Tryz.prog.bytesOf 256 = 8 ∧ (Tryz.prog.info? 256).isSome = true ∧ zeroCs Tryz.prog 256 = some [.d (.o .nilFunc)] := ⟨by kernel_rfl, by kernel_rfl, by kernel_rfl, by kernel_rfl⟩
theorem ty257 : Tryz.prog.cellsOf 257 = 1 ∧ Tryz.prog.bytesOf 257 = 8 ∧ (Tryz.prog.info? 257).isSome = true ∧ zeroCs Tryz.prog 257 = some [.d (.o .nilFunc)] := ⟨by kernel_rfl, by kernel_rfl, by kernel_rfl, by kernel_rfl⟩
theorem ty258 : Tryz.prog.cellsOf 258 = 1 ∧ Tryz.prog.bytesOf 258 = 8 ∧ (Tryz.prog.info? 258).isSome = true ∧ zeroCs Tryz.prog 258 = some [.d (.o .nilFunc)] := ⟨by kernel_rfl, by kernel_rfl, by kernel_rfl, by kernel_rfl⟩
theorem ty259 : Tryz.prog.cellsOf 259 = 1 ∧ Tryz.prog.bytesOf 259 = 8 ∧ (Tryz.prog.info? 259).isSome = true ∧ zeroCs Tryz.prog 259 = some [.d (.o .nilFunc)] := ⟨by kernel_rfl, by kernel_rfl, by kernel_rfl, by kernel_rfl⟩
theorem ty260 : Tryz.prog.cellsOf 260 = 1 ∧ Tryz.prog.bytesOf 260 = 8 ∧ (Tryz.prog.info? 260).isSome = true ∧ zeroCs Tryz.prog 260 = some [.d (.o .nilFunc)] := ⟨by kernel_rfl, by kernel_rfl, by kernel_rfl, by kernel_rfl⟩
theorem ty261 : Tryz.prog.cellsOf 261 = 1 ∧ Tryz.prog.bytesOf 261 = 8 ∧ (Tryz.prog.info? 261).isSome = true ∧ zeroCs Tryz.prog 261 = some [.d (.o .nilFunc)] := ⟨by kernel_rfl, by kernel_rfl, by kernel_rfl, by kernel_rfl⟩
theorem ty262 : Tryz.prog.cellsOf 262 = 1 ∧ Tryz.prog.bytesOf 262 = 8 ∧ (Tryz.prog.info? 262).isSome = true ∧ zeroCs Tryz.prog 262 = some [.d (.o .nilFunc)] := ⟨by kernel_rfl, by kernel_rfl, by kernel_rfl, by kernel_rfl⟩
theorem ty263 : Tryz.prog.cellsOf 263 = 1 ∧ Tryz.prog.bytesOf 263 = 8 ∧ (Tryz.prog.info? 263).isSome = true ∧ zeroCs Tryz.prog 263 = some [.d (.o .nilFunc)] := ⟨by kernel_rfl, by kernel_rfl, by kernel_rfl, by kernel_rfl⟩
theorem ty264 : Tryz.prog.cellsOf 264 = 1 ∧ Tryz.prog.bytesOf 264 = 8 ∧ (Tryz.prog.info? 264).isSome = true ∧ zeroCs Tryz.prog 264 = some [.d (.o .nilFunc)] := ⟨by kernel_rfl, by kernel_rfl, by kernel_rfl, by kernel_rfl⟩
theorem ty265 : Tryz.prog.cellsOf 265 = 1 ∧ Tryz.prog.bytesOf 265 = 8 ∧ (Tryz.prog.info? 265).isSome = true ∧ zeroCs Tryz.prog 265 = some [.d (.o .nilFunc)] := ⟨by kernel_rfl, by kernel_rfl, by kernel_rfl, by kernel_rfl⟩
theorem ty266 : Tryz.prog.cellsOf 266 = 4 ∧ Tryz.prog.bytesOf 266 = 64 ∧ (Tryz.prog.info? 266).isSome = true ∧ zeroCs Tryz.prog 266 = some [.d (.s []), .d (.i .i64 0), .d (.s []), .fsl []] := ⟨by kernel_rfl, by kernel_rfl, by kernel_rfl, by kernel_rfl⟩
theorem ty267 : Tryz.prog.cellsOf 267 = 4 ∧ Tryz.prog.bytesOf 267 = 64 ∧ (Tryz.prog.info? 267).isSome = true ∧ zeroCs Tryz.prog 267 = some [.d (.s []), .d (.i .i64 0), .d (.s []), .fsl []] := ⟨by kernel_rfl, by kernel_rfl, by kernel_rfl, by kernel_rfl⟩
theorem ty268 : Tryz.prog.cellsOf 268 = 1 ∧ Tryz.prog.bytesOf 268 = 8 ∧ (Tryz.prog.info? 268).isSome = true ∧ zeroCs Tryz.prog 268 = some [.d (.o .nilFunc)] := ⟨by kernel_rfl, by kernel_rfl, by kernel_rfl, by kernel_rfl⟩
theorem ty269 : Tryz.prog.cellsOf 269 = 1 ∧ Tryz.prog.bytesOf 269 = 8 ∧ (Tryz.prog.info? 269).isSome = true ∧ zeroCs Tryz.prog 269 = some [.d (.o .nilFunc)] := ⟨by kernel_rfl, by kernel_rfl, by kernel_rfl, by kernel_rfl⟩
theorem ty270 : Tryz.prog.cellsOf 270 = 1 ∧ Tryz.prog.bytesOf 270 = 8 ∧ (Tryz.prog.info? 270).isSome = true ∧ zeroCs Tryz.prog 270 = some [.d (.o .nilFunc)] := ⟨by kernel_rfl, by kernel_rfl, by kernel_rfl, by kernel_rfl⟩
theorem ty271 : Tryz.prog.cellsOf 271 = 1 ∧ Tryz.prog.bytesOf 271 = 8 ∧ (Tryz.prog.info? 271).isSome = true ∧ zeroCs Tryz.prog 271 = some [.d (.o .nilFunc)] := ⟨by kernel_rfl, by kernel_rfl, by kernel_rfl, by kernel_rfl⟩
theorem ty272 : Tryz.prog.cellsOf 272 = 1 ∧ Tryz.prog.bytesOf 272 = 8 ∧ (Tryz.prog.info? 272).isSome = true ∧ zeroCs Tryz.prog 272 = some [.d (.o .nilFunc)] := ⟨by kernel_rfl, by kernel_rfl, by kernel_rfl, by kernel_rfl⟩
theorem ty273 : Tryz.prog.cellsOf 273 = 1 ∧ Tryz.prog.bytesOf 273 = 8 ∧ (Tryz.prog.info? 273).isSome = true ∧ zeroCs Tryz.prog 273 = some [.d (.o .nilFunc)] := ⟨by kernel_rfl, by kernel_rfl, by kernel_rfl, by kernel_rfl⟩
theorem ty274 : Tryz.prog.cellsOf 274 = 1 ∧ Tryz.prog.bytesOf 274 = 8 ∧ (Tryz.prog.info? 274).isSome = true ∧ zeroCs Tryz.prog 274 = some [.d (.o .nilFunc)] := ⟨by kernel_rfl, by kernel_rfl, by kernel_rfl, by kernel_rfl⟩
theorem ty275 : Tryz.prog.cellsOf 275 = 1 ∧ Tryz.prog.bytesOf 275 = 8 ∧ (Tryz.prog.info? 275).isSome = true ∧ zeroCs Tryz.prog 275 = some [.d (.o .nilFunc)] := ⟨by kernel_rfl, by kernel_rfl, by kernel_rfl, by kernel_rfl⟩
theorem ty276 : Tryz.prog.cellsOf 276 = 1 ∧ Tryz.prog.bytesOf 276 = 8 ∧ (Tryz.prog.info? 276).isSome = true ∧ zeroCs Tryz.prog 276 = some [.d (.o .nilFunc)] := ⟨by kernel_rfl, by kernel_rfl, by kernel_rfl, by kernel_rfl⟩
theorem ty277 : Tryz.prog.cellsOf 277 = 1 ∧ Tryz.prog.bytesOf 277 = 8 ∧ (Tryz.prog.info? 277).isSome = true ∧ zeroCs Tryz.prog 277 = some [.d (.o .nilFunc)] := ⟨by kernel_rfl, by kernel_rfl, by kernel_rfl, by kernel_rfl⟩
theorem ty278 : Tryz.prog.cellsOf 278 = 1 ∧ Tryz.prog.bytesOf 278 = 8 ∧ (Tryz.prog.info? 278).isSome = true ∧ zeroCs Tryz.prog 278 = some [.d (.o .nilFunc)] := ⟨by kernel_rfl, by kernel_rfl, by kernel_rfl, by kernel_rfl⟩
theorem ty279 : Tryz.prog.cellsOf 279 = 1 ∧ Tryz.prog.bytesOf 279 = 8 ∧ (Tryz.prog.info? 279).isSome = true ∧ zeroCs Tryz.prog 279 = some [.d (.o .nilFunc)] := ⟨by kernel_rfl, by kernel_rfl, by kernel_rfl, by kernel_rfl⟩
theorem ty280 : Tryz.prog.cellsOf 280 = 1 ∧ Tryz.prog.bytesOf 280 = 8 ∧ (Tryz.prog.info? 280).isSome = true ∧ zeroCs Tryz.prog 280 = some [.d (.o .nilFunc)] := ⟨by kernel_rfl, by kernel_rfl, by kernel_rfl, by kernel_rfl⟩
theorem ty281 : Tryz.prog.cellsOf 281 = 1 ∧ Tryz.prog.bytesOf 281 = 8 ∧ (Tryz.prog.info? 281).isSome = true ∧ zeroCs Tryz.prog 281 = some [.d (.o .nilFunc)] := ⟨by kernel_rfl, by kernel_rfl, by kernel_rfl, by kernel_rfl⟩
theorem ty282 : Tryz.prog.cellsOf 282 = 1 ∧ Tryz.prog.bytesOf 282 = 8 ∧ (Tryz.prog.info? 282).isSome = true ∧ zeroCs Tryz.prog 282 = some [.d (.o .nilFunc)] := ⟨by kernel_rfl, by kernel_rfl, by kernel_rfl, by kernel_rfl⟩
theorem ty283 : Tryz.prog.cellsOf 283 = 1 ∧ Tryz.prog.bytesOf 283 = 8 ∧ (Tryz.prog.info? 283).isSome = true ∧ zeroCs Tryz.prog 283 = some [.d (.o .nilFunc)] := ⟨by kernel_rfl, by kernel_rfl, by kernel_rfl, by kernel_rfl⟩
theorem ty284 : Tryz.prog.cellsOf 284 = 1 ∧ Tryz.prog.bytesOf 284 = 24 ∧ (Tryz.prog.info? 284).isSome = true ∧ zeroCs Tryz.prog 284 = some [.fsl []] := ⟨by kernel_rfl, by kernel_rfl, by kernel_rfl, by kernel_rfl⟩
theorem ty285 : Tryz.prog.cellsOf 285 = 1 ∧ Tryz.prog.bytesOf 285 = 8 ∧ (Tryz.prog.info? 285).isSome = true ∧ zeroCs Tryz.prog 285 = some [.d (.o .nilFunc)] := ⟨by kernel_rfl, by kernel_rfl, by kernel_rfl, by kernel_rfl⟩
theorem ty286 : Tryz.prog.cellsOf 286 = 1 ∧ Tryz.prog.bytesOf 286 = 8 ∧ (Tryz.prog.info? 286).isSome = true ∧ zeroCs Tryz.prog 286 = some [.d (.o .nilFunc)] := ⟨by kernel_rfl, by kernel_rfl, by kernel_rfl, by kernel_rfl⟩
theorem ty287 : Tryz.prog.cellsOf 287 = 1 ∧ Tryz.prog.bytesOf 287 = 8 ∧ (Tryz.prog.info? 287).isSome = true ∧ zeroCs Tryz.prog 287 = some [.d (.o .nilFunc)] := ⟨by kernel_rfl, by kernel_rfl, by kernel_rfl, by kernel_rfl⟩
theorem ty289 : Tryz.prog.cellsOf 289 = 1 ∧ Tryz.prog.bytesOf 289 = 8 ∧ (Tryz.prog.info? 289).isSome = true ∧ zeroCs Tryz.prog 289 = some [.d (.o .nilFunc)] := ⟨by kernel_rfl, by kernel_rfl, by kernel_rfl, by kernel_rfl⟩
theorem ty290 : Tryz.prog.cellsOf 290 = 1 ∧ Tryz.prog.bytesOf 290 = 8 ∧ (Tryz.prog.info? 290).isSome = true ∧ zeroCs Tryz.prog 290 = some [.d (.o .nilFunc)] := ⟨by kernel_rfl, by kernel_rfl, by kernel_rfl, by kernel_rfl⟩
theorem ty291 : Tryz.prog.cellsOf 291 = 1 ∧ Tryz.prog.bytesOf 291 = 8 ∧ (Tryz.prog.info? 291).isSome = true ∧ zeroCs Tryz.prog 291 = some [.d (.o .nilFunc)] := ⟨by kernel_rfl, by kernel_rfl, by kernel_rfl, by kernel_rfl⟩
theorem ty292 : Tryz.prog.cellsOf 292 = 1 ∧ Tryz.prog.bytesOf 292 = 8 ∧ (Tryz.prog.info? 292).isSome = true ∧ zeroCs Tryz.prog 292 = some [.d (.o .nilFunc)] := ⟨by kernel_rfl, by kernel_rfl, by kernel_rfl, by kernel_rfl⟩
theorem ty293 : Tryz.prog.cellsOf 293 = 1 ∧ Tryz.prog.bytesOf 293 = 8 ∧ (Tryz.prog.info? 293).isSome = true ∧ zeroCs Tryz.prog 293 = some [.d (.o .nilFunc)] := ⟨by kernel_rfl, by kernel_rfl, by kernel_rfl, by kernel_rfl⟩
theorem ty294 : Tryz.prog.cellsOf 294 = 1 ∧ Tryz.prog.bytesOf 294 = 8 ∧ (Tryz.prog.info? 294).isSome = true ∧ zeroCs Tryz.prog 294 = some [.d (.o .nilFunc)] := ⟨by kernel_rfl, by kernel_rfl, by kernel_rfl, by kernel_rfl⟩
theorem ty295 : Tryz.prog.cellsOf 295 = 1 ∧ Tryz.prog.bytesOf 295 = 8 ∧ (Tryz.prog.info? 295).isSome = true ∧ zeroCs Tryz.prog 295 = some [.d (.o .nilFunc)] := ⟨by kernel_rfl, by kernel_rfl, by kernel_rfl, by kernel_rfl⟩
theorem ty296 : Tryz.prog.cellsOf 296 = 16 ∧ Tryz.prog.bytesOf 296 = 264 ∧ (Tryz.prog.info? 296).isSome = true ∧ zeroCs Tryz.prog 296 = some [.d (.s []), .fsl [], .d (.i .i64 0), .d (.s []), .fsl [], .d (.b false), .fsl [], .d (.i .i64 0), .d (.s []), .d (.s []), .d (.i .i64 0), .d (.i .i64 0), .d (.s []), .fsl [], .fsl [], .fsl []] := ⟨by kernel_rfl, by kernel_rfl, by kernel_rfl, by kernel_rfl⟩
theorem ty297 : Tryz.prog.cellsOf 297 = 16 ∧ Tryz.prog.bytesOf 297 = 264 ∧ (Tryz.prog.info? 297).isSome = true ∧ zeroCs Tryz.prog 297 = some [.d (.s []), .fsl [], .d (.i .i64 0), .d (.s []), .fsl [], .d (.b false), .fsl [], .d (.i .i64 0), .d (.s []), .d (.s []), .d (.i .i64 0), .d (.i .i64 0), .d (.s []), .fsl [], .fsl [], .fsl []] := ⟨by kernel_rfl, by kernel_rfl, by kernel_rfl, by kernel_rfl⟩
theorem ty298 : Tryz.prog.cellsOf 298 = 1 ∧ Tryz.prog.bytesOf 298 = 8 ∧ (Tryz.prog.info? 298).isSome = true ∧ zeroCs Tryz.prog 298 = some [.d (.o .nilFunc)] := ⟨by kernel_rfl, by kernel_rfl, by kernel_rfl, by kernel_rfl⟩
theorem ty299 : Tryz.prog.cellsOf 299 = 2 ∧ Tryz.prog.bytesOf 299 = 40 ∧ (Tryz.prog.info? 299).isSome = true ∧ zeroCs Tryz.prog 299 = some [.d (.s []), .fsl []] := ⟨by kernel_rfl, by kernel_rfl, by kernel_rfl, by kernel_rfl⟩
theorem ty300 : Tryz.prog.cellsOf 300 = 2 ∧ Tryz.prog.bytesOf 300 = 40 ∧ (Tryz.prog.info? 300).isSome = true ∧ zeroCs Tryz.prog 300 = some [.d (.s []), .fsl []] := ⟨by kernel_rfl, by kernel_rfl, by kernel_rfl, by kernel_rfl⟩
theorem ty301 : Tryz.prog.cellsOf 301 = 1 ∧ Tryz.prog.bytesOf 301 = 8 ∧ (Tryz.prog.info? 301).isSome = true ∧ zeroCs Tryz.prog 301 = some [.d (.o .nilFunc)] := ⟨by kernel_rfl, by kernel_rfl, by kernel_rfl, by kernel_rfl⟩
theorem ty302 : Tryz.prog.cellsOf 302 = 4 ∧ Tryz.prog.bytesOf 302 = 64 ∧ (Tryz.prog.info? 302).isSome = true ∧ zeroCs Tryz.prog 302 = some [.d (.s []), .d (.i .i64 0), .d (.s []), .fsl []] := ⟨by kernel_rfl, by kernel_rfl, by kernel_rfl, by kernel_rfl⟩
theorem ty303 : Tryz.prog.cellsOf 303 = 4 ∧ Tryz.prog.bytesOf 303 = 64 ∧ (Tryz.prog.info? 303).isSome = true ∧ zeroCs Tryz.prog 303 = some [.d (.s []), .d (.i .i64 0), .d (.s []), .fsl []] := ⟨by kernel_rfl, by kernel_rfl, by kernel_rfl, by kernel_rfl⟩
theorem ty304 : Tryz.prog.cellsOf 304 = 1 ∧ Tryz.prog.bytesOf 304 = 8 ∧ (Tryz.prog.info? 304).isSome = true ∧ zeroCs Tryz.prog 304 = some [.d (.o .nilFunc)] := ⟨by kernel_rfl, by kernel_rfl, by kernel_rfl, by kernel_rfl⟩
theorem ty305 : Tryz.prog.cellsOf 305 = 11 ∧ Tryz.prog.bytesOf 305 = 184 ∧ (Tryz.prog.info? 305).isSome = true ∧ zeroCs Tryz.prog 305 = some [.d (.s []), .fsl [], .d (.i .i64 0), .d (.s []), .d (.s []), .d (.i .i64 0), .d (.i .i64 0), .d (.s []), .fsl [], .fsl [], .fsl []] := ⟨by kernel_rfl, by kernel_rfl, by kernel_rfl, by kernel_rfl⟩
theorem ty306 : Tryz.prog.cellsOf 306 = 11 ∧ Tryz.prog.bytesOf 306 = 184 ∧ (Tryz.prog.info? 306).isSome = true ∧ zeroCs Tryz.prog 306 = some [.d (.s []), .fsl [], .d (.i .i64 0), .d (.s []), .d (.s []), .d (.i .i64 0), .d (.i .i64 0), .d (.s []), .fsl [], .fsl [], .fsl []] := ⟨by kernel_rfl, by kernel_rfl, by kernel_rfl, by kernel_rfl⟩
theorem ty307 : Tryz.prog.cellsOf 307 = 1 ∧ Tryz.prog.bytesOf 307 = 8 ∧ (Tryz.prog.info? 307).isSome = true ∧ zeroCs Tryz.prog 307 = some [.d (.o .nilFunc)] := ⟨by kernel_rfl, by kernel_rfl, by kernel_rfl, by kernel_rfl⟩
theorem ty308 : Tryz.prog.cellsOf 308 = 4 ∧ Tryz.prog.bytesOf 308 = 64 ∧ (Tryz.prog.info? 308).isSome = true ∧ zeroCs Tryz.prog 308 = some [.d (.s []), .d (.i .i64 0), .d (.s []), .fsl []] := ⟨by kernel_rfl, by kernel_rfl, by kernel_rfl, by kernel_rfl⟩
theorem ty309 : Tryz.prog.cellsOf 309 = 4 ∧ Tryz.prog.bytesOf 309 = 64 ∧ (Tryz.prog.info? 309).isSome = true ∧ zeroCs Tryz.prog 309 = some [.d (.s []), .d (.i .i64 0), .d (.s []), .fsl []] := ⟨by kernel_rfl, by kernel_rfl, by kernel_rfl, by kernel_rfl⟩
theorem ty310 : Tryz.prog.cellsOf 310 = 1 ∧ Tryz.prog.bytesOf 310 = 8 ∧ (Tryz.prog.info? 310).isSome = true ∧ zeroCs Tryz.prog 310 = some [.d (.o .nilFunc)] := ⟨by kernel_rfl, by kernel_rfl, by kernel_rfl, by kernel_rfl⟩
theorem ty311 : Tryz.prog.cellsOf 311 = 1 ∧ Tryz.prog.bytesOf 311 = 8 ∧ (Tryz.prog.info? 311).isSome = true ∧ zeroCs Tryz.prog 311 = some [.d (.o .nilFunc)] := ⟨by kernel_rfl, by kernel_rfl, by kernel_rfl, by kernel_rfl⟩
theorem ty312 : Tryz.prog.cellsOf 312 = 1 ∧ Tryz.prog.bytesOf 312 = 8 ∧ (Tryz.prog.info? 312).isSome = true ∧ zeroCs Tryz.prog 312 = some [.d (.o .nilFunc)] := ⟨by kernel_rfl, by kernel_rfl, by kernel_rfl, by kernel_rfl⟩
theorem ty313 : Tryz.prog.cellsOf 313 = 1 ∧ Tryz.prog.bytesOf 313 = 8 ∧ (Tryz.prog.info? 313).isSome = true ∧ zeroCs Tryz.prog 313 = some [.d (.o .nilFunc)] := ⟨by kernel_rfl, by kernel_rfl, by kernel_rfl, by kernel_rfl⟩
theorem ty314 : Tryz.prog.cellsOf 314 = 1 ∧ Tryz.prog.bytesOf 314 = 8 ∧ (Tryz.prog.info? 314).isSome = true ∧ zeroCs Tryz.prog 314 = some [.d (.o .nilFunc)] := ⟨by kernel_rfl, by kernel_rfl, by kernel_rfl, by kernel_rfl⟩
theorem ty315 : Tryz.prog.cellsOf 315 = 1 ∧ Tryz.prog.bytesOf 315 = 8 ∧ (Tryz.prog.info? 315).isSome = true ∧ zeroCs Tryz.prog 315 = some [.d (.o .nilFunc)] := ⟨by kernel_rfl, by kernel_rfl, by kernel_rfl, by kernel_rfl⟩
theorem ty316 : Tryz.prog.cellsOf 316 = 1 ∧ Tryz.prog.bytesOf 316 = 8 ∧ (Tryz.prog.info? 316).isSome = true ∧ zeroCs Tryz.prog 316 = some [.d (.o .nilFunc)] := ⟨by kernel_rfl, by kernel_rfl, by kernel_rfl, by kernel_rfl⟩
theorem ty317 : Tryz.prog.cellsOf 317 = 1 ∧ Tryz.prog.bytesOf 317 = 8 ∧ (Tryz.prog.info? 317).isSome = true ∧ zeroCs Tryz.prog 317 = some [.d (.o .nilFunc)] := ⟨by kernel_rfl, by kernel_rfl, by kernel_rfl, by kernel_rfl⟩
theorem ty318 : Tryz.prog.cellsOf 318 = 1 ∧ Tryz.prog.bytesOf 318 = 8 ∧ (Tryz.prog.info? 318).isSome = true ∧ zeroCs Tryz.prog 318 = some [.d (.o .nilFunc)] := ⟨by kernel_rfl, by kernel_rfl, by kernel_rfl, by kernel_rfl⟩
theorem ty319 : Tryz.prog.cellsOf 319 = 1 ∧ Tryz.prog.bytesOf 319 = 8 ∧ (Tryz.prog.info? 319).isSome = true ∧ zeroCs Tryz.prog 319 = some [.d (.o .nilFunc)] := ⟨by kernel_rfl, by kernel_rfl, by kernel_rfl, by kernel_rfl⟩
theorem ty320 : Tryz.prog.cellsOf 320 = 1 ∧ Tryz.prog.bytesOf 320 = 8 ∧ (Tryz.prog.info? 320).isSome = true ∧ zeroCs Tryz.prog 320 = some [.d (.o .nilFunc)] := ⟨by kernel_rfl, by kernel_rfl, by kernel_rfl, by kernel_rfl⟩
theorem ty321 : Tryz.prog.cellsOf 321 = 1 ∧ Tryz.prog.bytesOf 321 = 8 ∧ (Tryz.prog.info? 321).isSome = true ∧ zeroCs Tryz.prog 321 = some [.d (.o .nilFunc)] := ⟨by kernel_rfl, by kernel_rfl, by kernel_rfl, by kernel_rfl⟩
theorem ty322 : Tryz.prog.cellsOf 322 = 1 ∧ Tryz.prog.bytesOf 322 = 8 ∧ (Tryz.prog.info? 322).isSome = true ∧ zeroCs Tryz.prog 322 = some [.d (.o .nilFunc)] := ⟨by kernel_rfl, by kernel_rfl, by kernel_rfl, by kernel_rfl⟩
theorem ty323 : Tryz.prog.cellsOf 323 = 1 ∧ Tryz.prog.bytesOf 323 = 8 ∧ (Tryz.prog.info? 323).isSome = true ∧ zeroCs Tryz.prog 323 = some [.d (.o .nilFunc)] := ⟨by kernel_rfl, by kernel_rfl, by kernel_rfl, by kernel_rfl⟩
theorem ty324 : Tryz.prog.cellsOf 324 = 1 ∧ Tryz.prog.bytesOf 324 = 8 ∧ (Tryz.prog.info? 324).isSome = true ∧ zeroCs Tryz.prog 324 = some [.d (.o .nilFunc)] := ⟨by kernel_rfl, by kernel_rfl, by kernel_rfl, by kernel_rfl⟩
theorem ty325 : Tryz.prog.cellsOf 325 = 1 ∧ Tryz.prog.bytesOf 325 = 8 ∧ (Tryz.prog.info? 325).isSome = true ∧ zeroCs Tryz.prog 325 = some [.d (.o .nilFunc)] := ⟨by kernel_rfl, by kernel_rfl, by kernel_rfl, by kernel_rfl⟩
theorem ty326 : Tryz.prog.cellsOf 326 = 1 ∧ Tryz.prog.bytesOf 326 = 8 ∧ (Tryz.prog.info? 326).isSome = true ∧ zeroCs Tryz.prog 326 = some [.d (.o .nilFunc)] := ⟨by kernel_rfl, by kernel_rfl, by kernel_rfl, by kernel_rfl⟩
theorem ty327 : Tryz.prog.cellsOf 327 = 1 ∧ Tryz.prog.bytesOf 327 = 8 ∧ (Tryz.prog.info? 327).isSome = true ∧ zeroCs Tryz.prog 327 = some [.d (.o .nilFunc)] := ⟨by kernel_rfl, by kernel_rfl, by kernel_rfl, by kernel_rfl⟩
theorem ty328 : Tryz.prog.cellsOf 328 = 1 ∧ Tryz.prog.bytesOf 328 = 8 ∧ (Tryz.prog.info? 328).isSome = true ∧ zeroCs Tryz.prog 328 = some [.d (.o .nilFunc)] := ⟨by kernel_rfl, by kernel_rfl, by kernel_rfl, by kernel_rfl⟩
theorem ty329 : Tryz.prog.cellsOf 329 = 1 ∧ Tryz.prog.bytesOf 329 = 8 ∧ (Tryz.prog.info? 329).isSome = true ∧ zeroCs Tryz.prog 329 = some [.d (.o .nilFunc)] := ⟨by kernel_rfl, by kernel_rfl, by kernel_rfl, by kernel_rfl⟩
theorem ty330 : Tryz.prog.cellsOf 330 = 1 ∧ Tryz.prog.bytesOf 330 = 8 ∧ (Tryz.prog.info? 330).isSome = true ∧ zeroCs Tryz.prog 330 = some [.d (.o .nilFunc)] := ⟨by kernel_rfl, by kernel_rfl, by kernel_rfl, by kernel_rfl⟩
theorem ty331 : Tryz.prog.cellsOf 331 = 1 ∧ Tryz.prog.bytesOf 331 = 8 ∧ (Tryz.prog.info? 331).isSome = true ∧ zeroCs Tryz.prog 331 = some [.d (.o .nilFunc)] := ⟨by kernel_rfl, by kernel_rfl, by kernel_rfl, by kernel_rfl⟩
theorem ty332 : Tryz.prog.cellsOf 332 = 1 ∧ Tryz.prog.bytesOf 332 = 8 ∧ (Tryz.prog.info? 332).isSome = true ∧ zeroCs Tryz.prog 332 = some [.d (.o .nilFunc)] := ⟨by kernel_rfl, by kernel_rfl, by kernel_rfl, by kernel_rfl⟩
theorem ty333 : Tryz.prog.cellsOf 333 = 1 ∧ Tryz.prog.bytesOf 333 = 8 ∧ (Tryz.prog.info? 333).isSome = true ∧ zeroCs Tryz.prog 333 = some [.d (.o .nilFunc)] := ⟨by kernel_rfl, by kernel_rfl, by kernel_rfl, by kernel_rfl⟩
theorem ty334 : Tryz.prog.cellsOf 334 = 1 ∧ Tryz.prog.bytesOf 334 = 8 ∧ (Tryz.prog.info? 334).isSome = true ∧ zeroCs Tryz.prog 334 = some [.d (.o .nilFunc)] := ⟨by kernel_rfl, by kernel_rfl, by kernel_rfl, by kernel_rfl⟩
theorem ty336 : Tryz.prog.cellsOf 336 = 1 ∧ Tryz.prog.bytesOf 336 = 8 ∧ (Tryz.prog.info? 336).isSome = true ∧ zeroCs Tryz.prog 336 = some [.d (.o .nilFunc)] := ⟨by kernel_rfl, by kernel_rfl, by kernel_rfl, by kernel_rfl⟩
theorem ty337 : Tryz.prog.cellsOf 337 = 1 ∧ Tryz.prog.bytesOf 337 = 8 ∧ (Tryz.prog.info? 337).isSome = true ∧ zeroCs Tryz.prog 337 = some [.d (.o .nilFunc)] := ⟨by kernel_rfl, by kernel_rfl, by kernel_rfl, by kernel_rfl⟩
theorem ty339 : Tryz.prog.cellsOf 339 = 1 ∧ Tryz.prog.bytesOf 339 = 8 ∧ (Tryz.prog.info? 339).isSome = true ∧ zeroCs Tryz.prog 339 = some [.d (.o .nilFunc)] := ⟨by kernel_rfl, by kernel_rfl, by kernel_rfl, by kernel_rfl⟩
theorem ty340 : Tryz.prog.cellsOf 340 = 1 ∧ Tryz.prog.bytesOf 340 = 8 ∧ (Tryz.prog.info? 340).isSome = true ∧ zeroCs Tryz.prog 340 = some [.d (.o .nilFunc)] := ⟨by kernel_rfl, by kernel_rfl, by kernel_rfl, by kernel_rfl⟩
theorem ty341 : Tryz.prog.cellsOf 341 = 1 ∧ Tryz.prog.bytesOf 341 = 24 ∧ (Tryz.prog.info? 341).isSome = true ∧ zeroCs Tryz.prog 341 = some [.fsl []] := ⟨by kernel_rfl, by kernel_rfl, by kernel_rfl, by kernel_rfl⟩
theorem ty342 : Tryz.prog.cellsOf 342 = 1 ∧ Tryz.prog.bytesOf 342 = 8 ∧ (Tryz.prog.info? 342).isSome = true ∧ zeroCs Tryz.prog 342 = some [.d (.o .nilFunc)] := ⟨by kernel_rfl, by kernel_rfl, by kernel_rfl, by kernel_rfl⟩
theorem ty343 : Tryz.prog.cellsOf 343 = 1 ∧ Tryz.prog.bytesOf 343 = 8 ∧ (Tryz.prog.info? 343).isSome = true ∧ zeroCs Tryz.prog 343 = some [.d (.o .nilFunc)] := ⟨by kernel_rfl, by kernel_rfl, by kernel_rfl, by kernel_rfl⟩
theorem ty344 : Tryz.prog.cellsOf 344 = 1 ∧ Tryz.prog.bytesOf 344 = 8 ∧ (Tryz.prog.info? 344).isSome = true ∧ zeroCs Tryz.prog 344 = some [.d (.o .nilFunc)] := ⟨by kernel_rfl, by kernel_rfl, by kernel_rfl, by kernel_rfl⟩
theorem ty345 : Tryz.prog.cellsOf 345 = 1 ∧ Tryz.prog.bytesOf 345 = 8 ∧ (Tryz.prog.info? 345).isSome = true ∧ zeroCs Tryz.prog 345 = some [.d (.o .nilFunc)] := ⟨by kernel_rfl, by kernel_rfl, by kernel_rfl, by kernel_rfl⟩
theorem ty346 : Tryz.prog.cellsOf 346 = 1 ∧ Tryz.prog.bytesOf 346 = 8 ∧ (Tryz.prog.info? 346).isSome = true ∧ zeroCs Tryz.prog 346 = some [.d (.o .nilFunc)] := ⟨by kernel_rfl, by kernel_rfl, by kernel_rfl, by kernel_rfl⟩
theorem ty347 : Tryz.prog.cellsOf 347 = 1 ∧ Tryz.prog.bytesOf 347 = 8 ∧ (Tryz.prog.info? 347).isSome = true ∧ zeroCs Tryz.prog 347 = some [.d (.i .u64 0)] := ⟨by kernel_rfl, by kernel_rfl, by kernel_rfl, by kernel_rfl⟩
theorem ty348 : Tryz.prog.cellsOf 348 = 1 ∧ Tryz.prog.bytesOf 348 = 4 ∧ (Tryz.prog.info? 348).isSome = true ∧ zeroCs Tryz.prog 348 = some [.d (.i .u32 0)] := ⟨by kernel_rfl, by kernel_rfl, by kernel_rfl, by kernel_rfl⟩
theorem ty350 : Tryz.prog.cellsOf 350 = 1 ∧ Tryz.prog.bytesOf 350 = 8 ∧ (Tryz.prog.info? 350).isSome = true ∧ zeroCs Tryz.prog 350 = some [.d (.o .nilFunc)] := ⟨by kernel_rfl, by kernel_rfl, by kernel_rfl, by kernel_rfl⟩
theorem ty351 : Tryz.prog.cellsOf 351 = 1 ∧ Tryz.prog.bytesOf 351 = 8 ∧ (Tryz.prog.info? 351).isSome = true ∧ zeroCs Tryz.prog 351 = some [.d (.o .nilFunc)] := ⟨by kernel_rfl, by kernel_rfl, by kernel_rfl, by kernel_rfl⟩
theorem ty357 : Tryz.prog.cellsOf 357 = 1 ∧ Tryz.prog.bytesOf 357 = 8 ∧ (Tryz.prog.info? 357).isSome = true ∧ zeroCs Tryz.prog 357 = some [.d (.o .nilFunc)] := ⟨by kernel_rfl, by kernel_rfl, by kernel_rfl, by kernel_rfl⟩
theorem ty361 : Tryz.prog.cellsOf 361 = 1 ∧ Tryz.prog.bytesOf 361 = 8 ∧ (Tryz.prog.info? 361).isSome = true ∧ zeroCs Tryz.prog 361 = some [.d (.o (.pointer none))] := ⟨by kernel_rfl, by kernel_rfl, by kernel_rfl, by kernel_rfl⟩
theorem ty366 : Tryz.prog.cellsOf 366 = 1 ∧ Tryz.prog.bytesOf 366 = 8 ∧ (Tryz.prog.info? 366).isSome = true ∧ zeroCs Tryz.prog 366 = some [.d (.o .nilFunc)] := ⟨by kernel_rfl, by kernel_rfl, by kernel_rfl, by kernel_rfl⟩
theorem ty367 : Tryz.prog.cellsOf 367 = 1 ∧ Tryz.prog.bytesOf 367 = 8 ∧ (Tryz.prog.info? 367).isSome = true ∧ zeroCs Tryz.prog 367 = some [.d (.o .nilFunc)] := ⟨by kernel_rfl, by kernel_rfl, by kernel_rfl, by kernel_rfl⟩
theorem laidOut : laidOutB Tryz.prog = true := by kernel_rfl
theorem own : ownKnob Tryz.prog.godebug = none := by kernel_rfl
attribute [go_sem] ty1 Tryz.underlying1 ty2 Tryz.underlying2 ty3 Tryz.underlying3 ty4 Tryz.underlying4 zval4 ty5 Tryz.underlying5 ty9 Tryz.underlying9 ty12 Tryz.underlying12 ty20 Tryz.underlying20 ty21 Tryz.underlying21 ty22 Tryz.underlying22 ty23 Tryz.underlying23 ty24 Tryz.underlying24 ty25 Tryz.underlying25 ty26 Tryz.underlying26 ty27 Tryz.underlying27 ty28 Tryz.underlying28 ty29 Tryz.underlying29 ty30 Tryz.underlying30 ty31 Tryz.underlying31 ty32 Tryz.underlying32 ty33 Tryz.underlying33 ty34 Tryz.underlying34 ty35 Tryz.underlying35 ty36 Tryz.underlying36 ty37 Tryz.underlying37 ty38 Tryz.underlying38 ty39 Tryz.underlying39 ty40 Tryz.underlying40 ty41 Tryz.underlying41 ty42 Tryz.underlying42 ty43 Tryz.underlying43 ty44 Tryz.underlying44 ty45 Tryz.underlying45 ty46 Tryz.underlying46 ty47 Tryz.underlying47 ty48 Tryz.underlying48 ty49 Tryz.underlying49 ty50 Tryz.underlying50 ty51 Tryz.underlying51 ty52 Tryz.underlying52 ty53 Tryz.underlying53 ty54 Tryz.underlying54 ty55 Tryz.underlying55 ty56 Tryz.underlying56 ty57 Tryz.underlying57 ty58 Tryz.underlying58 ty59 Tryz.underlying59 ty60 Tryz.underlying60 ty61 Tryz.underlying61 ty62 Tryz.underlying62 ty63 Tryz.underlying63 ty64 Tryz.underlying64 ty65 Tryz.underlying65 ty66 Tryz.underlying66 ty67 Tryz.underlying67 ty68 Tryz.underlying68 ty69 Tryz.underlying69 ty70 Tryz.underlying70 ty71 Tryz.underlying71 ty72 Tryz.underlying72 ty73 Tryz.underlying73 ty74 Tryz.underlying74 ty75 Tryz.underlying75 ty76 Tryz.underlying76 ty77 Tryz.underlying77 ty78 Tryz.underlying78 ty79 Tryz.underlying79 ty80 Tryz.underlying80 ty81 Tryz.underlying81 ty82 Tryz.underlying82 ty84 Tryz.underlying84 ty85 Tryz.underlying85 ty86 Tryz.underlying86 ty87 Tryz.underlying87 ty88 Tryz.underlying88 ty89 Tryz.underlying89 ty90 Tryz.underlying90 ty91 Tryz.underlying91 ty92 Tryz.underlying92 ty93 Tryz.underlying93 ty95 Tryz.underlying95 ty96 Tryz.underlying96 ty97 Tryz.underlying97 ty98 Tryz.underlying98 ty99 Tryz.underlying99 ty100 Tryz.underlying100 ty101 Tryz.underlying101 ty102 Tryz.underlying102 ty103 Tryz.underlying103 ty104 Tryz.underlying104 ty105 Tryz.underlying105 ty106 Tryz.underlying106 ty107 Tryz.underlying107 ty108 Tryz.underlying108 ty109 Tryz.underlying109 ty110 Tryz.underlying110 ty111 Tryz.underlying111 ty112 Tryz.underlying112 ty113 Tryz.underlying113 ty114 Tryz.underlying114 ty115 Tryz.underlying115 ty116 Tryz.underlying116 ty117 Tryz.underlying117 ty118 Tryz.underlying118 ty119 Tryz.underlying119 ty120 Tryz.underlying120 ty121 Tryz.underlying121 ty122 Tryz.underlying122 ty123 Tryz.underlying123 ty125 Tryz.underlying125 ty126 Tryz.underlying126 ty127 Tryz.underlying127 ty128 Tryz.underlying128 ty129 Tryz.underlying129 ty130 Tryz.underlying130 ty131 Tryz.underlying131 ty132 Tryz.underlying132 ty133 Tryz.underlying133 ty134 Tryz.underlying134 ty135 Tryz.underlying135 ty136 Tryz.underlying136 ty137 Tryz.underlying137 ty138 Tryz.underlying138 ty139 Tryz.underlying139 ty140 Tryz.underlying140 ty141 Tryz.underlying141 ty142 Tryz.underlying142 ty143 Tryz.underlying143 ty144 Tryz.underlying144 ty145 Tryz.underlying145 ty146 Tryz.underlying146 ty147 Tryz.underlying147 ty148 Tryz.underlying148 ty149 Tryz.underlying149 ty150 Tryz.underlying150 ty151 Tryz.underlying151 ty152 Tryz.underlying152 ty153 Tryz.underlying153 ty154 Tryz.underlying154 ty155 Tryz.underlying155 ty156 Tryz.underlying156 ty157 Tryz.underlying157 ty158 Tryz.underlying158 ty159 Tryz.underlying159 ty160 Tryz.underlying160 ty161 Tryz.underlying161 ty162 Tryz.underlying162 ty163 Tryz.underlying163 ty164 Tryz.underlying164 ty165 Tryz.underlying165 ty166 Tryz.underlying166 ty167 Tryz.underlying167 ty168 Tryz.underlying168 ty169 Tryz.underlying169 ty170 Tryz.underlying170 ty171 Tryz.underlying171 ty172 Tryz.underlying172 ty173 Tryz.underlying173 ty175 Tryz.underlying175 ty176 Tryz.underlying176 ty178 Tryz.underlying178 ty179 Tryz.underlying179 ty180 Tryz.underlying180 ty182 Tryz.underlying182 ty183 Tryz.underlying183 ty184 Tryz.underlying184 ty185 Tryz.underlying185 ty186 Tryz.underlying186 ty187 Tryz.underlying187 ty188 Tryz.underlying188 ty189 Tryz.underlying189 ty190 Tryz.underlying190 ty191 Tryz.underlying191 ty192 Tryz.underlying192 ty193 Tryz.underlying193 ty194 Tryz.underlying194 ty195 Tryz.underlying195 ty196 Tryz.underlying196 ty197 Tryz.underlying197 ty198 Tryz.underlying198 ty199 Tryz.underlying199 ty200 Tryz.underlying200 ty201 Tryz.underlying201 ty202 Tryz.underlying202 ty203 Tryz.underlying203 ty204 Tryz.underlying204 ty205 Tryz.underlying205 ty206 Tryz.underlying206 ty207 Tryz.underlying207 ty208 Tryz.underlying208 ty209 Tryz.underlying209 ty210 Tryz.underlying210 ty211 Tryz.underlying211 ty212 Tryz.underlying212 ty213 Tryz.underlying213 ty214 Tryz.underlying214 ty215 Tryz.underlying215 ty216 Tryz.underlying216 ty217 Tryz.underlying217 ty218 Tryz.underlying218 ty219 Tryz.underlying219 ty220 Tryz.underlying220 ty221 Tryz.underlying221 ty222 Tryz.underlying222 ty223 Tryz.underlying223 ty224 Tryz.underlying224 ty225 Tryz.underlying225 ty226 Tryz.underlying226 ty227 Tryz.underlying227 ty228 Tryz.underlying228 ty229 Tryz.underlying229 ty230 Tryz.underlying230 ty231 Tryz.underlying231 ty232 Tryz.underlying232 ty233 Tryz.underlying233 ty234 Tryz.underlying234 ty235 Tryz.underlying235 ty236 Tryz.underlying236 ty237 Tryz.underlying237 ty238 Tryz.underlying238 ty239 Tryz.underlying239 ty240 Tryz.underlying240 ty241 Tryz.underlying241 ty242 Tryz.underlying242 ty243 Tryz.underlying243 ty244 Tryz.underlying244 ty245 Tryz.underlying245 ty246 Tryz.underlying246 ty247 Tryz.underlying247 ty248 Tryz.underlying248 ty249 Tryz.underlying249 ty251 Tryz.underlying251 ty253 Tryz.underlying253 ty254 Tryz.underlying254 ty256 Tryz.underlying256 ty257 Tryz.underlying257 ty258 Tryz.underlying258 ty259 Tryz.underlying259 ty260 Tryz.underlying260 ty261 Tryz.underlying261 ty262 Tryz.underlying262 ty263 Tryz.underlying263 ty264 Tryz.underlying264 ty265 Tryz.underlying265 ty266 Tryz.underlying266 ty267 Tryz.underlying267 ty268 Tryz.underlying268 ty269 Tryz.underlying269 ty270 Tryz.underlying270 ty271 Tryz.underlying271 ty272 Tryz.underlying272 ty273 Tryz.underlying273 ty274 Tryz.underlying274 ty275 Tryz.underlying275 ty276 Tryz.underlying276 ty277 Tryz.underlying277 ty278 Tryz.underlying278 ty279 Tryz.underlying279 ty280 Tryz.underlying280 ty281 Tryz.underlying281 ty282 Tryz.underlying282 ty283 Tryz.underlying283 ty284 Tryz.underlying284 ty285 Tryz.underlying285 ty286 Tryz.underlying286 ty287 Tryz.underlying287 ty289 Tryz.underlying289 ty290 Tryz.underlying290 ty291 Tryz.underlying291 ty292 Tryz.underlying292 ty293 Tryz.underlying293 ty294 Tryz.underlying294 ty295 Tryz.underlying295 ty296 Tryz.underlying296 ty297 Tryz.underlying297 ty298 Tryz.underlying298 ty299 Tryz.underlying299 ty300 Tryz.underlying300 ty301 Tryz.underlying301 ty302 Tryz.underlying302 ty303 Tryz.underlying303 ty304 Tryz.underlying304 ty305 Tryz.underlying305 ty306 Tryz.underlying306 ty307 Tryz.underlying307 ty308 Tryz.underlying308 ty309 Tryz.underlying309 ty310 Tryz.underlying310 ty311 Tryz.underlying311 ty312 Tryz.underlying312 ty313 Tryz.underlying313 ty314 Tryz.underlying314 ty315 Tryz.underlying315 ty316 Tryz.underlying316 ty317 Tryz.underlying317 ty318 Tryz.underlying318 ty319 Tryz.underlying319 ty320 Tryz.underlying320 ty321 Tryz.underlying321 ty322 Tryz.underlying322 ty323 Tryz.underlying323 ty324 Tryz.underlying324 ty325 Tryz.underlying325 ty326 Tryz.underlying326 ty327 Tryz.underlying327 ty328 Tryz.underlying328 ty329 Tryz.underlying329 ty330 Tryz.underlying330 ty331 Tryz.underlying331 ty332 Tryz.underlying332 ty333 Tryz.underlying333 ty334 Tryz.underlying334 ty336 Tryz.underlying336 ty337 Tryz.underlying337 ty339 Tryz.underlying339 ty340 Tryz.underlying340 ty341 Tryz.underlying341 ty342 Tryz.underlying342 ty343 Tryz.underlying343 ty344 Tryz.underlying344 ty345 Tryz.underlying345 ty346 Tryz.underlying346 ty347 Tryz.underlying347 ty348 Tryz.underlying348 ty350 Tryz.underlying350 ty351 Tryz.underlying351 ty357 Tryz.underlying357 ty361 Tryz.underlying361 ty366 Tryz.underlying366 ty367 Tryz.underlying367
end Go.Proofs.YtnleocfkdidhoaaGreat.Fa

namespace Go.Proofs.YtnleocfkdidhoaaGreat
open Go Go.Ab
theorem szStringS_ok (xs : List (List UInt8)) (left : Int) (h0 : 0 ≤ left) (h1 : left ≤ 1048576) (hf : (D.sl (xs.map encS)).Fit) :
    PCall Tryz.prog 62 [.c (.d (.sl (xs.map encS))), .c (.d (.i .i64 left))] (.c (.d (.i .i64 (sub1 left (xs.length + szRows (xs.map encS)))))) := by
  intro S
  obtain ⟨hf1, hf2⟩ := fit_sl hf
  rw [List.length_map] at hf1
  refine acall_cw (rs := [.tmp 4]) Tryz.checked.mixed Tryz.func62 Tryz.ntmps62 rfl rfl rfl rfl rfl ?_
  simp -implicitDefEqProofs (disch := omega) only [go_sem]
  with_reducible refine split2 (fun hb => ?_) (fun hb => ?_) <;> have h := hb <;> (try simp only [wf_preprocess] at h) <;> simp -implicitDefEqProofs (disch := omega) only [go_sem, hb] <;> (repeat (with_reducible refine And.intro ?_ ?_; focus first | omega | rfl | assumption | exact ⟨_, rfl, rfl⟩ | (simp; omega) | (simp; done)))
  · exact int_eq (sub1_no (by omega)).symm
  refine loop_at (ι := Nat × Int) Tryz.checked.mixed rfl [0, 1, 5] (fun y => [.c (.d (.sl (xs.map encS))), .c (.d (.i .i64 y.2)), .c (.d (.i .i64 y.1))]) (fun _ => [] :: S)
    (fun y => y.1 ≤ xs.length ∧ 0 ≤ y.2 ∧ y.2 ≤ 1048576 ∧ sub1 y.2 (szRows ((xs.map encS).drop y.1)) = sub1 left (xs.length + szRows (xs.map encS))) (fun y => xs.length - y.1) (0, left - xs.length) rfl rfl ⟨by omega, by omega, by omega, ?_⟩ ?_
  · unfold sub1
    rw [List.drop_zero]
    split <;> split <;> omega
  rintro ⟨i, l⟩ ⟨p1, p2, p3, p4⟩
  simp only at p1 p2 p3 p4
  simp -implicitDefEqProofs (disch := omega) only [go_sem]
  with_reducible refine split2 (fun hb => ?_) (fun hb => ?_) <;> have h := hb <;> (try simp only [wf_preprocess] at h) <;> simp -implicitDefEqProofs (disch := omega) only [go_sem, hb] <;> (repeat (with_reducible refine And.intro ?_ ?_; focus first | omega | rfl | assumption | exact ⟨_, rfl, rfl⟩ | (simp; omega) | (simp; done)))
  · have hi : i < xs.length := by omega
    have hl : xs[i].length ≤ 9223372036854775807 := fit_s (hf2 (encS xs[i]) (List.mem_map_of_mem (List.getElem_mem hi)) (.s xs[i]) (by simp [encS]))
    rw [List.drop_eq_getElem_cons (by rw [List.length_map]; exact hi), szRows, List.getElem_map] at p4
    simp only [encS, szRow, D.sz] at p4
    simp -implicitDefEqProofs (disch := omega) only [go_sem]
    (repeat (with_reducible refine And.intro ?_ ?_; focus first | omega | rfl | assumption | exact ⟨_, rfl, rfl⟩ | (simp; omega) | (simp; done)))
    with_reducible refine split2 (fun hb => ?_) (fun hb => ?_) <;> have h := hb <;> (try simp only [wf_preprocess] at h) <;> simp -implicitDefEqProofs (disch := omega) only [go_sem, hb] <;> (repeat (with_reducible refine And.intro ?_ ?_; focus first | omega | rfl | assumption | exact ⟨_, rfl, rfl⟩ | (simp; omega) | (simp; done)))
    · rw [← p4, sub1_no (by omega)]
    · refine inv_at (i + 1, l - xs[i].length) (by simp only; omega) rfl rfl ⟨by simp only; omega, by simp only; omega, by simp only; omega, ?_⟩
      simp only
      rw [← p4]
      unfold sub1
      split <;> split <;> omega
  · have hi : i = xs.length := by omega
    rw [hi, List.drop_of_length_le (by simp), szRows, sub1_yes (by omega)] at p4
    rw [← p4]
    refine int_eq ?_
    omega
theorem toStringS_ok (xs : List (List UInt8)) (hsz : xs.length + szRows (xs.map encS) ≤ 1048576) : PCall Tryz.prog 73 [.c (.d (.sl (xs.map encS)))] (.c (.d (.sl (xs.map encS)))) := by
  intro S
  refine acall_cw (rs := [.tmp 2]) Tryz.checked.mixed Tryz.func73 Tryz.ntmps73 rfl rfl rfl rfl rfl ?_
  simp -implicitDefEqProofs (disch := omega) only [go_sem]
  (repeat (with_reducible refine And.intro ?_ ?_; focus first | omega | rfl | assumption | exact ⟨_, rfl, rfl⟩ | (simp; omega) | (simp; done)))
  refine loop_at (ι := Nat × List (List D)) Tryz.checked.mixed rfl [0, 3, 4] (fun y => [.c (.d (.sl (xs.map encS))), .c (.msl (0, 0)), .c (.d (.i .i64 y.1))]) (fun y => [.mrow 1 y.2] :: S)
    (fun y => y.1 ≤ xs.length ∧ Filled 1 y.1 y.2 (xs.map encS)) (fun y => xs.length - y.1) (0, _) rfl rfl ⟨Nat.zero_le _, Filled.start (by simp) rfl⟩ ?_
  rintro ⟨i, R⟩ ⟨p1, p2⟩
  simp only at p1 p2
  simp -implicitDefEqProofs (disch := omega) only [go_sem]
  with_reducible refine split2 (fun hb => ?_) (fun hb => ?_) <;> have h := hb <;> (try simp only [wf_preprocess] at h) <;> simp -implicitDefEqProofs (disch := omega) only [go_sem, hb] <;> (repeat (with_reducible refine And.intro ?_ ?_; focus first | omega | rfl | assumption | exact ⟨_, rfl, rfl⟩ | (simp; omega) | (simp; done)))
  · have hi : i < xs.length := by omega
    have hR := p2.1
    rw [List.length_map] at hR
    (repeat (with_reducible refine And.intro ?_ ?_; focus first | omega | rfl | assumption | exact ⟨_, rfl, rfl⟩ | (simp; omega) | (simp; done)))
    refine inv_at (i + 1, _) (by simp only; omega) rfl rfl ⟨by simp only; omega, p2.step (by simp [hi, encS]) rfl⟩
  · have hi : i = xs.length := by omega
    rw [p2.done (by rw [List.length_map]; omega)]
theorem eqStringS_ok (xs ys : List (List UInt8)) (hsz : xs.length ≤ 1048576) : PCall Tryz.prog 86 [.c (.d (.sl (xs.map encS))), .c (.d (.sl (ys.map encS)))] (.c (.d (.b (dec (xs = ys))))) := by
  intro S
  refine acall_cw (rs := [.tmp 4]) Tryz.checked.mixed Tryz.func86 Tryz.ntmps86 rfl rfl rfl rfl rfl ?_
  simp -implicitDefEqProofs (disch := omega) only [go_sem]
  with_reducible refine split2 (fun hb => ?_) (fun hb => ?_) <;> have h := hb <;> (try simp only [wf_preprocess] at h) <;> simp -implicitDefEqProofs (disch := omega) only [go_sem, hb] <;> (repeat (with_reducible refine And.intro ?_ ?_; focus first | omega | rfl | assumption | exact ⟨_, rfl, rfl⟩ | (simp; omega) | (simp; done)))
  · exact bool_eq (dec_false (fun e => h (by rw [e]))).symm
  have hl : xs.length = ys.length := by omega
  refine loop_at (ι := Nat) Tryz.checked.mixed rfl [0, 1, 5] (fun y => [.c (.d (.sl (xs.map encS))), .c (.d (.sl (ys.map encS))), .c (.d (.i .i64 y))]) (fun y => [] :: S)
    (fun i => i ≤ xs.length ∧ ∀ j, j < i → xs[j]? = ys[j]?) (fun y => xs.length - y) 0 rfl rfl ⟨Nat.zero_le _, fun j h => by omega⟩ ?_
  rintro i ⟨p1, p2⟩
  simp -implicitDefEqProofs (disch := omega) only [go_sem]
  with_reducible refine split2 (fun hb => ?_) (fun hb => ?_) <;> have h := hb <;> (try simp only [wf_preprocess] at h) <;> simp -implicitDefEqProofs (disch := omega) only [go_sem, hb] <;> (repeat (with_reducible refine And.intro ?_ ?_; focus first | omega | rfl | assumption | exact ⟨_, rfl, rfl⟩ | (simp; omega) | (simp; done)))
  · have hi : i < xs.length := by omega
    have hi' : i < ys.length := by omega
    (repeat (with_reducible refine And.intro ?_ ?_; focus first | omega | rfl | assumption | exact ⟨_, rfl, rfl⟩ | (simp; omega) | (simp; done)))
    with_reducible refine split2 (fun hb => ?_) (fun hb => ?_) <;> have h := hb <;> (try simp only [wf_preprocess] at h) <;> simp -implicitDefEqProofs (disch := omega) only [go_sem, hb] <;> (repeat (with_reducible refine And.intro ?_ ?_; focus first | omega | rfl | assumption | exact ⟨_, rfl, rfl⟩ | (simp; omega) | (simp; done)))
    · exact bool_eq (dec_false (fun e => h (by simp only [e]))).symm
    refine inv_at (i + 1) (by omega) rfl rfl ⟨by omega, fun j hj => ?_⟩
    by_cases e : j = i
    · subst e
      rw [List.getElem?_eq_getElem hi, List.getElem?_eq_getElem hi', h]
    · exact p2 j (by omega)
  · have hi : i = xs.length := by omega
    refine bool_eq (dec_true (List.ext_getElem? fun j => ?_)).symm
    by_cases hj : j < i
    · exact p2 j hj
    · rw [List.getElem?_eq_none (by omega), List.getElem?_eq_none (by omega)]
end Go.Proofs.YtnleocfkdidhoaaGreat

