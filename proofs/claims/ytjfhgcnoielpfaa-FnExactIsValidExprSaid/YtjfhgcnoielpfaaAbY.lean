/-
  ABSTRACT VALUES FOR A WALK, PART 25: what is told of a call's end may be told as less: an object as gone, a component as anything.
-/
import Derived.Test.YtjfhgcnoielpfaaAbX
set_option linter.unusedSimpArgs false
set_option linter.unusedVariables false
namespace Go.Ab

section
variable {P : Program} {S S' : Store} {N : Nat} {s : St}

theorem keep_kill (S : Store) (β : Hs) (k : Key) : Keep S β (setO S k .dead) β := by
  intro k' o ho
  by_cases e : k = k'
  · subst e
    exact ⟨.dead, getO_setO_eq _ _ _ _ ho, .inl rfl⟩
  · exact ⟨o, by rw [getO_setO_ne _ _ _ _ e]; exact ho, KeepO.refl _ _⟩

theorem getO_kill {k k' : Key} {o : Obj} (h : getO (setO S k .dead) k' = some o) : (k = k' ∧ o = .dead) ∨ getO S k' = some o := by
  by_cases e : k = k'
  · subst e
    cases hg : getO S k with
    | none =>
      have : ∀ (S : Store) (k : Key), getO S k = none → setO S k .dead = S := by
        intro S
        induction S with
        | nil => intro k _; rfl
        | cons fr S ih =>
          rintro ⟨l, j⟩ h
          cases l with
          | zero =>
            rw [getO_zero] at h
            rw [setO, List.set_eq_of_length_le (List.getElem?_eq_none_iff.1 h)]
          | succ l => rw [getO_succ] at h; rw [setO, ih _ h]
      rw [this S k hg, hg] at h
      cases h
    | some y =>
      rw [getO_setO_eq _ _ _ _ hg] at h
      cases h
      exact .inl ⟨rfl, rfl⟩
  · rw [getO_setO_ne _ _ _ _ e] at h
    exact .inr h

theorem setO_len (x : Obj) : ∀ (S : Store) (k : Key), (setO S k x).length = S.length
  | [], k => rfl
  | fr :: S, (0, j) => by rw [setO]; simp
  | fr :: S, (l + 1, j) => by rw [setO, List.length_cons, setO_len x S, List.length_cons]

theorem setO_fr (x : Obj) : ∀ (S : Store) (k : Key) (l : Nat) (fr : List Obj), (setO S k x)[l]? = some fr → ∃ fr0, S[l]? = some fr0 ∧ fr0.length = fr.length
  | [], k, l, fr, h => by simp [setO] at h
  | f :: S, (0, j), 0, fr, h => by rw [setO] at h; simp at h; subst h; exact ⟨f, rfl, by simp⟩
  | f :: S, (0, j), l + 1, fr, h => by rw [setO] at h; exact ⟨fr, by simpa using h, rfl⟩
  | f :: S, (i + 1, j), 0, fr, h => by rw [setO] at h; exact ⟨fr, by simpa using h, rfl⟩
  | f :: S, (i + 1, j), l + 1, fr, h => by
    rw [setO] at h
    simpa using setO_fr x S (i, j) l fr (by simpa using h)

theorem kill_rep {w : World} {σ : Nat → Nat} {β : Hs} (k : Key) (hS : RepS w σ S β) : RepS w σ (setO S k .dead) β := by
  have hn : Near w σ w σ := (Grow.refl hS.live).near
  refine ⟨fun k' o ho => ?_, fun k1 k2 o1 o2 h1 h2 b e1 e2 e3 e4 e5 e6 => ?_, ⟨by rw [setO_len]; exact hS.shape.1, fun l fr hl => ?_⟩, hS.live⟩
  · rcases getO_kill ho with ⟨rfl, rfl⟩ | ho'
    · cases hg : getO S k with
      | none =>
        exfalso
        have := keep_kill S β k
        rcases getO_kill (S := S) (k := k) (k' := k) ho with ⟨_, _⟩ | h
        · -- the object is there
          have hne : getO (setO S k .dead) k = none := by
            have : ∀ (S : Store) (k : Key), getO S k = none → getO (setO S k Obj.dead) k = none := by
              intro S
              induction S with
              | nil => intro k _; rw [setO, getO_nil]
              | cons fr S ih =>
                rintro ⟨l, j⟩ h
                cases l with
                | zero =>
                  rw [getO_zero] at h
                  rw [setO, getO_zero, List.set_eq_of_length_le (List.getElem?_eq_none_iff.1 h)]
                  exact h
                | succ l => rw [getO_succ] at h; rw [setO, getO_succ]; exact ih _ h
            exact this S k hg
          rw [hne] at ho; cases ho
        · rw [hg] at h; cases h
      | some y =>
        obtain ⟨h, hh, _⟩ := hS.obj k y hg
        exact ⟨h, hh, trivial⟩
    · obtain ⟨h, hh, hr⟩ := hS.obj k' o ho'
      exact ⟨h, hh, hr.mono hn ((keep_kill S β k).drop k'.1) fun b _ => ⟨rfl, rfl⟩⟩
  · rcases getO_kill e1 with ⟨_, rfl⟩ | e1'
    · cases e3
    · rcases getO_kill e4 with ⟨_, rfl⟩ | e4'
      · cases e6
      · exact hS.apart k1 k2 o1 o2 h1 h2 b e1' e2 e3 e4' e5 e6
  · obtain ⟨fr0, h1, h2⟩ := setO_fr _ S k l fr hl
    obtain ⟨gr, h3, h4⟩ := hS.shape.2 l fr0 h1
    exact ⟨gr, h3, by omega⟩

/-- Less is told. -/
def Less (r r' : V) : Prop := ∀ w σ S β v, RepV w σ S β r v → RepV w σ S β r' v

theorem Less.refl (r : V) : Less r r := fun _ _ _ _ _ h => h

theorem less_tup {xs ys : List (Bool × List C)} (hl : xs.length = ys.length) (h : ∀ (j : Nat) (x y : Bool × List C), xs[j]? = some x → ys[j]? = some y → x = y ∨ (∃ c, x = (false, [c])) ∧ y = (false, [.any])) : Less (.tup xs) (.tup ys) := by
  intro w σ S β v hv
  obtain ⟨a, rfl, hlen, hc⟩ := hv
  refine ⟨a, rfl, by omega, fun j y hy => ?_⟩
  have hj := (List.getElem?_eq_some_iff.1 hy).1
  obtain ⟨u, hu, hr⟩ := hc j _ (List.getElem?_eq_getElem (by omega))
  refine ⟨u, hu, ?_⟩
  rcases h j _ y (List.getElem?_eq_getElem (by omega)) hy with e | ⟨⟨c, e⟩, e'⟩
  · rw [← e]; exact hr
  · rw [e] at hr
    rw [e']
    obtain ⟨x, _, _, ho⟩ := hr
    exact ⟨.any, rfl, trivial, ho⟩

theorem less_first {c : C} {ys : List (Bool × List C)} : Less (.tup ((false, [c]) :: ys)) (.tup ((false, [.any]) :: ys)) := less_tup rfl fun j x y hx hy => by
  cases j with
  | zero => cases hx; cases hy; exact .inr ⟨⟨c, rfl⟩, rfl⟩
  | succ j => rw [List.getElem?_cons_succ] at hx hy; rw [hx] at hy; cases hy; exact .inl rfl

/-- At the end of a call: an object told as gone, the result told as less. -/
theorem ACall.kill {f : FuncId} {args : List V} {post post' : V → Store → Prop} (k : Key) (h : ACall P f args S post) (hp : ∀ r S', post r S' → ∃ r', Less r r' ∧ (post' r' S' ∨ post' r' (setO S' k .dead))) : ACall P f args S post' := by
  refine ⟨h.1, fun w σ β vs hS hv => (h.2 w σ β vs hS hv).mono fun e w' ⟨v, r, S', σ', β', h1, h2, h3, h4, h5, h6⟩ => ?_⟩
  obtain ⟨r', hl, hp | hp⟩ := hp r S' h6
  · exact ⟨v, r', S', σ', β', h1, h2, h3, h4, hl _ _ _ _ _ h5, hp⟩
  · have hkeep := keep_kill S' β' k
    refine ⟨v, r', setO S' k .dead, σ', β', h1, kill_rep k h2, h3.trans hkeep, ⟨h4.size, h4.os, h4.output, h4.far, h4.near, fun b hb => ?_⟩, hl _ _ _ _ _ (h5.mono (Grow.refl h2.live).near hkeep), hp⟩
    obtain ⟨k', o, hv, e1, e2, e3⟩ := hb
    rcases getO_kill e1 with ⟨_, rfl⟩ | e1'
    · cases e3
    · exact h4.own b ⟨k', o, hv, e1', e2, e3⟩

theorem setO_twice {x y : Obj} : ∀ (S : Store) (k : Key), setO (setO S k x) k y = setO S k y
  | [], k => rfl
  | fr :: S, (0, j) => by rw [setO, setO, setO]; simp
  | fr :: S, (l + 1, j) => by rw [setO, setO, setO, setO_twice S]

theorem setO_self {x : Obj} : ∀ (S : Store) (k : Key), getO S k = some x → setO S k x = S
  | [], k, _ => rfl
  | fr :: S, (0, j), h => by
    rw [getO_zero] at h
    rw [setO]
    congr 1
    exact List.ext_getElem? fun i => by
      rw [List.getElem?_set]
      split
      · rename_i e; subst e
        obtain ⟨h1, h2⟩ := List.getElem?_eq_some_iff.1 h
        simp [h1, h2]
      · rfl
  | fr :: S, (l + 1, j), h => by rw [getO_succ] at h; rw [setO, setO_self S _ h]

/-- Arguments told as borrowed, but for those that are marked. -/
def borM : List Bool → List V → List V
  | true :: m, v :: vs => v :: borM m vs
  | false :: m, v :: vs => v.bor :: borM m vs
  | [], vs => vs.map V.bor
  | _, [] => []

theorem borM_len : ∀ (m : List Bool) (vs : List V), vs.length = (borM m vs).length
  | true :: m, v :: vs => by rw [borM, List.length_cons, List.length_cons, borM_len m vs]
  | false :: m, v :: vs => by rw [borM, List.length_cons, List.length_cons, borM_len m vs]
  | [], vs => by simp [borM]
  | true :: m, [] => rfl
  | false :: m, [] => rfl

theorem borM_at : ∀ (m : List Bool) (vs : List V) (j : Nat) (x y : V), vs[j]? = some x → (borM m vs)[j]? = some y → y = x ∨ y = x.bor
  | true :: m, v :: vs, 0, x, y, h1, h2 => by rw [borM] at h2; cases h1; cases h2; exact .inl rfl
  | false :: m, v :: vs, 0, x, y, h1, h2 => by rw [borM] at h2; cases h1; cases h2; exact .inr rfl
  | true :: m, v :: vs, j + 1, x, y, h1, h2 => by rw [borM] at h2; exact borM_at m vs j x y h1 h2
  | false :: m, v :: vs, j + 1, x, y, h1, h2 => by rw [borM] at h2; exact borM_at m vs j x y h1 h2
  | [], vs, j, x, y, h1, h2 => by rw [borM, List.getElem?_map, h1] at h2; cases h2; exact .inr rfl
  | true :: m, [], j, x, y, h1, h2 => by simp at h1
  | false :: m, [], j, x, y, h1, h2 => by simp at h1

theorem ACall.borM (m : List Bool) {f : FuncId} {args : List V} {post : V → Store → Prop} (h : ACall P f (Go.Ab.borM m args) S post) : ACall P f args S post :=
  h.weaken (borM_len m args) fun j x y hx hy w σ β v hr => by
    rcases borM_at m args j x y hx hy with e | e
    · rw [e]; exact hr
    · rw [e]; exact rep_borV hr

/-- A call that comes to one state, some arguments lent. -/
theorem call_m (m : List Bool) {dr : Option Bool} {f : FuncId} {args : List V} {dst : Option Nat} {K : St → Prop} {r : V} {S1 : Store} (hm : effOk dr = true) (h : ACall P f (borM m args) s.st (fun r' S' => r' = r ∧ S' = S1)) (hK : K (St.put ⟨s.tm, S1⟩ dst r)) : CallG P dr f args s dst K :=
  call_d hm (h.borM m) hK
end
end Go.Ab
