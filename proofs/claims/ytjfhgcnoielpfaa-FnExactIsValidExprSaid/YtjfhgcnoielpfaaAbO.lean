/-
  ABSTRACT VALUES FOR A WALK, PART 15: into a function and out of it.
-/
import Derived.Test.YtjfhgcnoielpfaaAbN
set_option linter.unusedSimpArgs false
set_option linter.unusedVariables false
namespace Go.Ab

def argTm : List V → Nat → List (Nat × V)
  | [], _ => []
  | v :: vs, i => (i, v) :: argTm vs (i + 1)

def C.ret : C → Option C
  | .tsl (0, _) es => some (.d (.sl es))
  | c => c.down 1

def retComp (y : Bool × List C) : Option (Bool × List C) := (y.2.mapM C.ret).map fun cs => (y.1, cs)

def V.ret : V → Option V
  | .c x => (x.ret).map .c
  | .agg cs => (cs.mapM C.ret).map .agg
  | .tup xs => (xs.mapM retComp).map .tup
  | .any => some .any

def oneRes (P : Program) (s : St) : ResultVar → R
  | .tmp t => (True, look s.tm t)
  | .cell a t => loadV P s.st t (look s.tm a)

def compV : V → Option (Bool × List C)
  | .c x => some (false, [x])
  | .agg cs => some (true, cs)
  | _ => none

def allRes (P : Program) (s : St) : List ResultVar → Prop × Option (List (Bool × List C))
  | [] => (True, some [])
  | x :: xs => ((oneRes P s x).1 ∧ (allRes P s xs).1, (compV (oneRes P s x).2).bind fun y => (allRes P s xs).2.map fun ys => y :: ys)

def resV (P : Program) (rs : List ResultVar) (s : St) : R :=
  match rs with
  | [x] => oneRes P s x
  | xs => match (allRes P s xs).2 with
    | some ys => ((allRes P s xs).1, .tup ys)
    | none => no

/-- What is asked where a function ends. -/
def retQ (P : Program) (rs : List ResultVar) (post : V → Store → Prop) (e : Exit) (s : St) : Prop :=
  match e with
  | .normal | .ret => (resV P rs s).1 ∧ match (resV P rs s).2.ret with
    | some r => post r (tail1 s.st)
    | none => False
  | _ => False

section
variable {P : Program} {w w' : World} {σ σ' : Nat → Nat} {S : Store} {β β' : Hs} {N : Nat} {s : St} {a : Act}

theorem rep_upCs {cs : List C} {vs : List Value} (n : Nat) (h : RepCs w σ (S.drop n) (β.drop n) cs vs) : RepCs w σ S β (cs.map (C.up n)) vs :=
  ⟨by simpa using h.1, fun j x hx => by
    rw [List.getElem?_map] at hx
    cases hc : cs[j]? with
    | none => rw [hc] at hx; cases hx
    | some y =>
      rw [hc] at hx; cases hx
      obtain ⟨v, hv, hr, ho⟩ := h.2 j y hc
      exact ⟨v, hv, hr.up n, ho⟩⟩

theorem rep_upV {x : V} {v : Value} (n : Nat) (h : RepV w σ (S.drop n) (β.drop n) x v) : RepV w σ S β (x.up n) v := by
  cases x with
  | c x => exact ⟨h.1.up n, h.2⟩
  | agg cs => obtain ⟨ar, ha, hc⟩ := h; exact ⟨ar, ha, rep_upCs n hc⟩
  | tup xs =>
    obtain ⟨ar, ha, hl, h2⟩ := h
    refine ⟨ar, ha, by simpa using hl, fun j y hy => ?_⟩
    rw [List.getElem?_map] at hy
    cases hc : xs[j]? with
    | none => rw [hc] at hy; cases hy
    | some z =>
      rw [hc] at hy; cases hy
      obtain ⟨u, hu, h3⟩ := h2 j z hc
      refine ⟨u, hu, ?_⟩
      obtain ⟨b, cs⟩ := z
      cases b with
      | true => obtain ⟨a', e, hcs⟩ := h3; exact ⟨a', e, rep_upCs n hcs⟩
      | false => obtain ⟨x, e, hx, ho⟩ := h3; subst e; exact ⟨_, rfl, hx.up n, ho⟩
  | any => exact trivial

theorem rep_retC {c c' : C} {v : Value} (h : c.ret = some c') (hc : RepC w σ S β c v) : RepC w σ (S.drop 1) (β.drop 1) c' v := by
  unfold C.ret at h
  split at h
  · cases h; exact hc.1
  · exact rep_down h hc

theorem rep_retCs {xs ys : List C} {vs : List Value} (h : xs.mapM C.ret = some ys) (hc : RepCs w σ S β xs vs) : RepCs w σ (S.drop 1) (β.drop 1) ys vs := by
  induction xs generalizing ys vs with
  | nil => simp at h; subst h; exact ⟨hc.1, fun j d hd => by simp at hd⟩
  | cons x xs ih =>
    rw [List.mapM_cons] at h
    cases hd : C.ret x with
    | none => rw [hd] at h; simp at h
    | some y =>
      cases hm : xs.mapM C.ret with
      | none => rw [hd, hm] at h; simp at h
      | some ys' =>
        rw [hd, hm] at h
        simp at h
        subst h
        cases vs with
        | nil => have := hc.1; simp at this
        | cons v vs =>
          obtain ⟨l, r⟩ := ih hm (vs := vs) ⟨by have := hc.1; simpa using this, fun j y hy => hc.2 (j + 1) y hy⟩
          refine ⟨by simp [l], fun j e he => ?_⟩
          cases j with
          | zero =>
            simp at he; subst he
            obtain ⟨u, hu, hr, ho⟩ := hc.2 0 x rfl
            simp at hu; subst hu
            exact ⟨v, rfl, rep_retC hd hr, ho⟩
          | succ j => exact r j e he

theorem mapM_get {α γ : Type} (f : α → Option γ) : ∀ (xs : List α) (ys : List γ), xs.mapM f = some ys → ys.length = xs.length ∧ ∀ (j : Nat) (y : γ), ys[j]? = some y → ∃ x, xs[j]? = some x ∧ f x = some y
  | [], ys, h => by simp at h; subst h; exact ⟨rfl, fun j y hy => by simp at hy⟩
  | x :: xs, ys, h => by
    rw [List.mapM_cons] at h
    cases hd : f x with
    | none => rw [hd] at h; simp at h
    | some y =>
      cases hm : xs.mapM f with
      | none => rw [hd, hm] at h; simp at h
      | some ys' =>
        rw [hd, hm] at h
        simp at h
        subst h
        obtain ⟨l, r⟩ := mapM_get f xs ys' hm
        refine ⟨by simp [l], fun j e he => ?_⟩
        cases j with
        | zero => simp at he; subst he; exact ⟨x, rfl, hd⟩
        | succ j => exact r j e he

theorem rep_retV {x y : V} {v : Value} (h : x.ret = some y) (hx : RepV w σ S β x v) : RepV w σ (S.drop 1) (β.drop 1) y v := by
  cases x with
  | c x =>
    simp only [V.ret] at h
    cases hc : x.ret with
    | none => rw [hc] at h; cases h
    | some c => rw [hc] at h; cases h; exact ⟨rep_retC hc hx.1, hx.2⟩
  | agg cs =>
    simp only [V.ret] at h
    cases hc : cs.mapM C.ret with
    | none => rw [hc] at h; cases h
    | some c => rw [hc] at h; cases h; obtain ⟨ar, ha, h2⟩ := hx; exact ⟨ar, ha, rep_retCs hc h2⟩
  | tup xs =>
    simp only [V.ret] at h
    cases hc : xs.mapM retComp with
    | none => rw [hc] at h; cases h
    | some ys =>
      rw [hc] at h; cases h
      obtain ⟨ar, ha, hl, h2⟩ := hx
      obtain ⟨l, r⟩ := mapM_get _ _ _ hc
      refine ⟨ar, ha, by rw [l]; exact hl, fun j y hy => ?_⟩
      obtain ⟨z, hz, hzy⟩ := r j y hy
      obtain ⟨u, hu, h3⟩ := h2 j z hz
      refine ⟨u, hu, ?_⟩
      obtain ⟨b, cs⟩ := z
      simp only [retComp] at hzy
      cases hm : cs.mapM C.ret with
      | none => rw [hm] at hzy; cases hzy
      | some cs' =>
        rw [hm] at hzy; cases hzy
        cases b with
        | true => obtain ⟨a', e, hcs⟩ := h3; exact ⟨a', e, rep_retCs hm hcs⟩
        | false =>
          obtain ⟨x, e, hx, ho⟩ := h3
          subst e
          rw [List.mapM_cons] at hm
          cases hx' : C.ret x with
          | none => rw [hx'] at hm; simp at hm
          | some x' =>
            rw [hx'] at hm
            simp at hm
            exact ⟨x', hm.symm, rep_retC hx' hx, ho⟩
  | any => cases h; exact trivial

theorem one_res {x : ResultVar} (hR : Rep N s a w σ β) (h : (oneRes P s x).1) :
    ∃ v, (match x with | .tmp t => pure (a.tmps.getD t undef) | .cell b t => do loadVar t (← asAddr (a.tmps.getD b undef)) : Sem Value).run P w = .ok v w ∧ RepV w σ s.st β (oneRes P s x).2 v := by
  cases x with
  | tmp t => exact ⟨_, rfl, hR.T t⟩
  | cell b t =>
    obtain ⟨v, hrun, hv⟩ := here_load (P := P) (t := t) hR.S (hR.T b) h
    refine ⟨v, ?_, hv⟩
    show (do loadVar t (← asAddr (a.tmps.getD b undef)) : Sem Value).run P w = .ok v w
    generalize a.tmps.getD b undef = bv at hrun ⊢
    cases bv with
    | pointer o =>
      cases o with
      | none => simp [Instr.loadAt, Instr.sureAddr] at hrun
      | some ad => simpa [Instr.loadAt, Instr.sureAddr, asAddr] using hrun
    | _ => simp [Instr.loadAt, Instr.sureAddr] at hrun

theorem rep_comp {x : V} {y : Bool × List C} {v : Value} (h : compV x = some y) (hx : RepV w σ S β x v) : CompRep w σ S β y v := by
  cases x with
  | c x => cases h; exact ⟨x, rfl, hx.1, hx.2⟩
  | agg cs => cases h; exact hx
  | tup => cases h
  | any => cases h

theorem all_res (hR : Rep N s a w σ β) : ∀ (xs : List ResultVar) (ys : List (Bool × List C)), (allRes P s xs).1 → (allRes P s xs).2 = some ys →
    ∃ vs : List Value, (xs.mapM fun x => (match x with | .tmp t => pure (a.tmps.getD t undef) | .cell b t => do loadVar t (← asAddr (a.tmps.getD b undef)) : Sem Value)).run P w = .ok vs w ∧ ys.length = vs.length ∧
      ∀ (j : Nat) (y : Bool × List C), ys[j]? = some y → ∃ u, vs[j]? = some u ∧ CompRep w σ s.st β y u
  | [], ys, _, h => by simp only [allRes] at h; cases h; exact ⟨[], by simp, rfl, fun j y hy => by simp at hy⟩
  | x :: xs, ys, h1, h2 => by
    simp only [allRes] at h1 h2
    cases hc : compV (oneRes P s x).2 with
    | none => rw [hc] at h2; cases h2
    | some y =>
      cases hr : (allRes P s xs).2 with
      | none => rw [hc, hr] at h2; cases h2
      | some ys' =>
        rw [hc, hr] at h2; cases h2
        obtain ⟨v, hv, hrep⟩ := one_res (P := P) (x := x) hR h1.1
        obtain ⟨vs, hvs, hl, hj⟩ := all_res hR xs ys' h1.2 hr
        refine ⟨v :: vs, ?_, by simp [hl], fun j z hz => ?_⟩
        · rw [List.mapM_cons]
          simp only [Sem.run_bind, Result.andThen_ok, Sem.run_pure]
          rw [hv]
          simp only [Result.andThen_ok]
          rw [hvs]; rfl
        · cases j with
          | zero => simp at hz; subst hz; exact ⟨v, rfl, rep_comp hc hrep⟩
          | succ j => exact hj j z hz

theorem res_sound {fn : Func} (hR : Rep N s a w σ β) (h : (resV P fn.results.toList s).1) : ∃ v, (results fn a.tmps).run P w = .ok v w ∧ RepV w σ s.st β (resV P fn.results.toList s).2 v := by
  have hres : fn.results = fn.results.toList.toArray := by simp
  have hrun : ∀ vs : List Value, (fn.results.toList.mapM fun x => (match x with | .tmp t => pure (a.tmps.getD t undef) | .cell b t => do loadVar t (← asAddr (a.tmps.getD b undef)) : Sem Value)).run P w = .ok vs w →
      (results fn a.tmps).run P w = .ok (if h : vs.toArray.size = 1 then vs.toArray[0] else .tuple vs.toArray) w := by
    intro vs hvs
    unfold results
    rw [hres, List.mapM_toArray]
    simp only [Sem.run_bind, Sem.run_map]
    have : (fun x => (match x with | .tmp t => pure (a.tmps.getD t undef) | .cell b t => do loadVar t (← asAddr (a.tmps.getD b undef)) : Sem Value)) = fun (x : ResultVar) => (match x with | .tmp t => pure (a.tmps.getD t undef) | .cell b t => do loadVar t (← asAddr (a.tmps.getD b undef)) : Sem Value) := rfl
    erw [hvs]
    rfl
  unfold resV at h ⊢
  split at h
  · rename_i x hx
    rw [hx] at hrun
    obtain ⟨v, hv, hrep⟩ := one_res (P := P) (x := x) hR h
    refine ⟨v, ?_, hrep⟩
    have := hrun [v] (by
      rw [List.mapM_cons]
      simp only [Sem.run_bind, List.mapM_nil, Result.andThen_ok, Sem.run_pure]
      rw [hv]; rfl)
    simpa using this
  · rename_i hne
    split at h
    · rename_i ys hys
      obtain ⟨vs, hvs, hl, hj⟩ := all_res (P := P) hR _ ys h hys
      have h1 := hrun vs hvs
      have hlen : ¬ (vs.toArray.size = 1) := by
        intro e
        have hl2 : ys.length = fn.results.toList.length := by
          clear hj hvs h1 hrun hne e hl h
          generalize fn.results.toList = l at hys
          induction l generalizing ys with
          | nil => simp only [allRes] at hys; cases hys; rfl
          | cons x xs ih =>
            simp only [allRes] at hys
            cases hc : compV (oneRes P s x).2 with
            | none => rw [hc] at hys; cases hys
            | some y =>
              cases hr : (allRes P s xs).2 with
              | none => rw [hc, hr] at hys; cases hys
              | some ys' => rw [hc, hr] at hys; cases hys; simp [ih ys' hr]
        simp at e
        have : fn.results.toList.length = 1 := by omega
        obtain ⟨x, hx⟩ := List.length_eq_one_iff.1 this
        exact hne x hx
      rw [dif_neg hlen] at h1
      exact ⟨_, h1, vs.toArray, rfl, by simpa using hl, fun j y hy => by simpa using hj j y hy⟩
    · exact h.elim

theorem RepS.down1 {own : List Obj} {Ω : Store} {bo : List Value} {bΩ : Hs} (h : RepS w σ (own :: Ω) (bo :: bΩ)) : RepS w σ Ω bΩ := by
  refine ⟨fun k o ho => ?_, fun k k' o o' h1 h2 b e1 e2 e3 e4 e5 e6 => ?_, ⟨by have := h.shape.1; simpa using this, fun l fr hl => h.shape.2 (l + 1) fr hl⟩, h.live⟩
  · obtain ⟨l, j⟩ := k
    obtain ⟨hv, hh, hr⟩ := h.obj (l + 1, j) o (by rw [getO_succ]; exact ho)
    rw [getO_succ] at hh
    exact ⟨hv, hh, hr⟩
  · obtain ⟨l, j⟩ := k
    obtain ⟨l', j'⟩ := k'
    have := h.apart (l + 1, j) (l' + 1, j') o o' h1 h2 b (by rw [getO_succ]; exact e1) (by rw [getO_succ]; exact e2) e3 (by rw [getO_succ]; exact e4) (by rw [getO_succ]; exact e5) e6
    cases this; rfl

theorem RepS.up1 (h : RepS w σ S β) : RepS w σ ([] :: S) ([] :: β) := by
  refine ⟨fun k o ho => ?_, fun k k' o o' h1 h2 b e1 e2 e3 e4 e5 e6 => ?_, ⟨by simp [h.shape.1], fun l fr hl => ?_⟩, h.live⟩
  · obtain ⟨l, j⟩ := k
    cases l with
    | zero => rw [getO_zero] at ho; simp at ho
    | succ l =>
      rw [getO_succ] at ho
      obtain ⟨hv, hh, hr⟩ := h.obj (l, j) o ho
      exact ⟨hv, by rw [getO_succ]; exact hh, hr⟩
  · obtain ⟨l, j⟩ := k
    obtain ⟨l', j'⟩ := k'
    cases l with
    | zero => rw [getO_zero] at e1; simp at e1
    | succ l =>
      cases l' with
      | zero => rw [getO_zero] at e4; simp at e4
      | succ l' =>
        rw [getO_succ] at e1 e2 e4 e5
        have := h.apart (l, j) (l', j') o o' h1 h2 b e1 e2 e3 e4 e5 e6
        cases this; rfl
  · cases l with
    | zero => simp at hl; subst hl; exact ⟨[], rfl, rfl⟩
    | succ l => exact h.shape.2 l fr hl

theorem own_up1 {b : Nat} (h : Own ([] :: S) ([] :: β) b) : Own S β b := by
  obtain ⟨⟨l, j⟩, o, hv, h1, h2, h3⟩ := h
  cases l with
  | zero => rw [getO_zero] at h1; simp at h1
  | succ l => rw [getO_succ] at h1 h2; exact ⟨(l, j), o, hv, h1, h2, h3⟩

theorem own_down1 {own : List Obj} {Ω : Store} {bo : List Value} {bΩ : Hs} {b : Nat} (h : Own Ω bΩ b) : Own (own :: Ω) (bo :: bΩ) b := by
  obtain ⟨⟨l, j⟩, o, hv, h1, h2, h3⟩ := h
  exact ⟨(l + 1, j), o, hv, by rw [getO_succ]; exact h1, by rw [getO_succ]; exact h2, h3⟩

theorem look_argTm : ∀ (args : List V) (i t : Nat), look (argTm args i) t = if i ≤ t then (args[t - i]?).getD .any else .any
  | [], i, t => by simp [argTm, look]
  | v :: args, i, t => by
    rw [argTm, look, look_argTm args (i + 1) t]
    by_cases h1 : i = t
    · subst h1; simp
    · rw [if_neg h1]
      by_cases h2 : i + 1 ≤ t
      · rw [if_pos h2, if_pos (by omega)]
        rw [show t - i = (t - (i + 1)) + 1 from by omega]
        rfl
      · rw [if_neg h2, if_neg (by omega)]

/-- A function, by a walk of its text in abstract values. -/
theorem acall_enter {f : FuncId} {fn : Func} {c : Code} {args : List V} {post : V → Store → Prop} (hf : P.funcs[f]? = some fn) (hb : fn.body = some c) (hn : (fn.name == "runtime.NumGoroutine") = false)
    (hl : args.length ≤ fn.ntmps) (h : AW P fn.ntmps c (retQ P fn.results.toList post) ⟨argTm (args.map (V.up 1)) 0, [] :: S⟩) : ACall P f args S post := by
  refine ⟨⟨fn, hf, hn, by simp [hb]⟩, fun w σ β vs hS hargs => ?_⟩
  refine calls_of_wp hf hb ?_
  have hlen : vs.length = args.length := hargs.1.symm
  have hRep : Rep fn.ntmps ⟨argTm (args.map (V.up 1)) 0, [] :: S⟩ { tmps := vs.toArray ++ Array.replicate (fn.ntmps - vs.toArray.size) undef, defers := [] } w σ ([] :: β) := by
    refine ⟨by simp; omega, rfl, hS.up1, fun t => ?_⟩
    show RepV w σ ([] :: S) ([] :: β) (look (argTm (args.map (V.up 1)) 0) t) _
    rw [look_argTm, if_pos (Nat.zero_le _), Nat.sub_zero, List.getElem?_map]
    cases ha : args[t]? with
    | none => exact trivial
    | some x =>
      obtain ⟨v, hv, hr⟩ := hargs.2 t x ha
      have ht := (List.getElem?_eq_some_iff.1 hv).1
      have : (vs.toArray ++ Array.replicate (fn.ntmps - vs.toArray.size) undef).getD t undef = v := by
        rw [Array.getD_eq_getD_getElem?, Array.getElem?_append_left (by simpa using ht)]
        simp [hv]
      rw [this]
      exact rep_upV (S := [] :: S) (β := [] :: β) 1 hr
  refine wp_mono (h _ w σ ([] :: β) hRep) ?_
  rintro e a' w' ⟨s', σ', β', hR, hst, hkp, hq⟩
  have main : (resV P fn.results.toList s').1 ∧ (match (resV P fn.results.toList s').2.ret with | some r => post r (tail1 s'.st) | none => False) →
      a'.defers = [] ∧ ∃ v, (results fn a'.tmps).run P w' = .ok v w' ∧ ∃ v_1 r S' σ' β', Ending.returned v = Ending.returned v_1 ∧ RepS w' σ' S' β' ∧ Keep S β S' β' ∧ Step S β σ w S' β' σ' w' ∧ RepV w' σ' S' β' r v_1 ∧ post r S' := by
    rintro ⟨q1, q2⟩
    obtain ⟨v, hv, hrep⟩ := res_sound (fn := fn) hR q1
    split at q2
    · rename_i r hr
      obtain ⟨tm, st⟩ := s'
      have hrep2 := rep_retV hr hrep
      refine ⟨hR.defers, v, hv, v, r, tail1 st, σ', tail1 β', rfl, ?_, hkp, ?_, hrep2, q2⟩
      · cases st with
        | nil =>
          cases β' with
          | nil => exact hR.S
          | cons => have := hR.S.shape.1; simp at this
        | cons own Ω =>
          cases β' with
          | nil => have := hR.S.shape.1; simp at this
          | cons bo bΩ => exact hR.S.down1
      · refine ⟨hst.size, hst.os, hst.output, fun b hb ho => hst.far b hb (fun x => ho (own_up1 x)), hst.near, fun b hb => ?_⟩
        cases st with
        | nil => obtain ⟨k, o, hv, h1, _⟩ := hb; simp [tail1, getO_nil] at h1
        | cons own Ω =>
          cases β' with
          | nil => obtain ⟨k, o, hv, h1, h2, _⟩ := hb; simp [tail1, getO_nil] at h2
          | cons bo bΩ => exact (hst.own b (own_down1 hb)).imp own_up1 id
    · exact q2.elim
  cases e with
  | normal => exact main hq
  | ret => exact main hq
  | _ => exact hq.elim

end
end Go.Ab
