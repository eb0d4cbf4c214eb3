/-
  SEVERAL TEXTS IN ONE (merged by program): contracts and models, each with its own heading.
-/
import Derived.Test.YtnceiannponbjaaGreatPartDibB
import Derived.Carry
import Derived.WideKeyArgs
import Derived.ProofKit
import Derived.OpenShut
import Derived.WalkKit
import Derived.Test.YtnceiannponbjaaGreatChecked
import Derived.Eval
import Derived.KernelRfl
set_option linter.unusedSimpArgs false
set_option linter.unusedVariables false
set_option maxRecDepth 4000
set_option maxRecDepth 100000
namespace Go.Ab
section
variable {P : Program} {S S' : Store} {N : Nat} {s : St}
theorem getO_up1 {α : Type} {fr : List α} {S : List (List α)} {l j : Nat} : getO (fr :: S) (1 + l, j) = getO S (l, j) := by rw [Nat.add_comm, getO_succ]
theorem setO_up1 {α : Type} {fr : List α} {S : List (List α)} {l j : Nat} {x : α} : setO (fr :: S) (1 + l, j) x = fr :: setO S (l, j) x := by rw [Nat.add_comm, setO]
theorem upK_mk {n l j : Nat} : upK n (l, j) = (n + l, j) := rfl
theorem ret_tsl_up {l j : Nat} {es : List (List D)} : C.ret (.tsl (1 + l, j) es) = some (.tsl (l, j) es) := by
  rw [Nat.add_comm]
  show C.down 1 (.tsl (l + 1, j) es) = _
  simp [C.down]
theorem ret_tsl_0 {j : Nat} {es : List (List D)} : C.ret (.tsl (0, j) es) = some (.d (.sl es)) := rfl
theorem ret_d {x : D} : C.ret (.d x) = some (.d x) := rfl
theorem ret_any : C.ret .any = some .any := rfl
theorem ret_fsl {es : List (List D)} : C.ret (.fsl es) = some (.fsl es) := rfl
theorem ret_lfl {n : Nat} {es : List (List D)} : C.ret (.lfl n es) = some (.lfl n es) := rfl
theorem ret_rptr {cs : List D} : C.ret (.rptr cs) = some (.rptr cs) := rfl
theorem ret_ptr {l j off : Nat} : C.ret (.ptr (1 + l, j) off) = some (.ptr (l, j) off) := by
  rw [Nat.add_comm]
  show C.down 1 (.ptr (l + 1, j) off) = _
  simp [C.down]
theorem frz_tsl {j : Nat} {es es' : List (List D)} {k : Key} : C.frz j es (.tsl k es') = .tsl k es' := rfl
theorem bor_d {x : D} : C.bor (.d x) = .d x := rfl
theorem bor_any : C.bor .any = .any := rfl
theorem bor_ptr {k : Key} {off : Nat} : C.bor (.ptr k off) = .ptr k off := rfl
theorem bor_fn {f : Nat} {caps : List (Key × Nat)} : C.bor (.fn f caps) = .fn f caps := rfl
theorem bor_msl {k : Key} : C.bor (.msl k) = .msl k := rfl
theorem bor_rptr {cs : List D} : C.bor (.rptr cs) = .rptr cs := rfl
theorem frz_d {j : Nat} {es : List (List D)} {x : D} : C.frz j es (.d x) = .d x := rfl
theorem frz_any {j : Nat} {es : List (List D)} : C.frz j es .any = .any := rfl
theorem frz_fsl {j : Nat} {es es' : List (List D)} : C.frz j es (.fsl es') = .fsl es' := rfl
theorem frz_ptr {j : Nat} {es : List (List D)} {k : Key} {off : Nat} : C.frz j es (.ptr k off) = .ptr k off := rfl
theorem frz_fn {j : Nat} {es : List (List D)} {f : Nat} {caps : List (Key × Nat)} : C.frz j es (.fn f caps) = .fn f caps := rfl
theorem frz_lfl {j n : Nat} {es es' : List (List D)} : C.frz j es (.lfl n es') = .lfl n es' := rfl
theorem bor_lfl {n : Nat} {es : List (List D)} : C.bor (.lfl n es) = .lfl n es := rfl
theorem frz_rptr {j : Nat} {es : List (List D)} {cs : List D} : C.frz j es (.rptr cs) = .rptr cs := rfl
theorem frz_msl {j i : Nat} {es : List (List D)} : C.frz j es (.msl (0, i)) = if i = j then .d (.sl es) else .msl (0, i) := rfl
theorem ACall.tok0 {f : FuncId} (i : Nat) {es : List (List D)} {esz : Nat} {args : List V} {post post' : V → Store → Prop} (hi : args[i]? = some (.c (.fsl es))) (hes : ∀ e ∈ es, e.length = esz)
    (h : ACall P f ((args.map (V.up 1)).set i (.c (.tsl (0, 0) es))) ([.tok esz es] :: S) post)
    (hp : ∀ r fr S', post r (fr :: S') → ∃ r', r.ret = some r' ∧ post' r' S') : ACall P f args S post' := by
  refine ⟨h.1, fun w σ β vs hS hargs => ?_⟩
  obtain ⟨v, hv0, ⟨hd, ad, n, hval⟩, hone⟩ := hargs.2 i _ hi
  · have hn : n = es.length := by rw [hval] at hd; cases hd <;> rfl
    have hg : Grow w σ w σ := Grow.refl hS.live
    obtain ⟨hS', hk, hst⟩ := hS.up1.push (o := .tok esz es) (h := v) hg rfl ⟨hd, hes, ad, n, by rw [hval, hn], by omega, .inl hn⟩ (fun b hb => by
      rw [hval, hn] at hb
      cases ad <;> simp [owns, blk] at hb)
    have hargs' : RepVs w σ ([.tok esz es] :: S) ([v] :: β) ((args.map (V.up 1)).set i (.c (.tsl (0, 0) es))) vs := by
      refine ⟨by have := hargs.1; simpa using this, fun j x hx => ?_⟩
      rw [List.getElem?_set] at hx
      by_cases e : i = j
      · subst e
        rw [if_pos rfl] at hx
        split at hx
        · cases hx
          refine ⟨v, hv0, ⟨hd, .tok esz es, rfl, fun a b e => ?_⟩, hone⟩
          obtain ⟨_, rfl⟩ := istok_of (lab := none) e
          exact ⟨Nat.le_refl _, fun _ => rfl⟩
        · cases hx
      · rw [if_neg e, List.getElem?_map] at hx
        cases ha : args[j]? with
        | none => rw [ha] at hx; cases hx
        | some y =>
          rw [ha] at hx; cases hx
          obtain ⟨u, hu, hr⟩ := hargs.2 j y ha
          exact ⟨u, hu, rep_upV (S := [.tok esz es] :: S) (β := [v] :: β) 1 hr⟩
    refine (h.2 w σ ([v] :: β) vs hS' hargs').mono fun e w' ⟨v', r, S1, σ', β', he, hS1, hk1, hst1, hr1, hpost⟩ => ?_
    have hO : ∀ b, Own ([.tok esz es] :: S) ([v] :: β) b → Own S β b := by
      rintro b ⟨⟨l, j⟩, o, hv, h1, h2, h3⟩
      cases l with
      | zero =>
        rw [getO_zero] at h1 h2
        cases j with
        | zero =>
          cases h1; cases h2
          rw [hval, hn] at h3
          cases ad <;> simp [owns, blk] at h3
        | succ j => simp at h1
      | succ l => rw [getO_succ] at h1 h2; exact ⟨(l, j), o, hv, h1, h2, h3⟩
    cases S1 with
    | nil =>
      obtain ⟨o', h1, _⟩ := hk1 (0, 0) _ rfl
      rw [getO_nil] at h1; cases h1
    | cons fr S1 =>
      cases β' with
      | nil => have := hS1.shape.1; simp at this
      | cons bo bΩ =>
        obtain ⟨r', hr', hp'⟩ := hp r fr S1 hpost
        refine ⟨v', r', S1, σ', bΩ, he, hS1.down1, hk1.drop 1, ⟨hst1.size, hst1.os, hst1.output, fun b hb ho => hst1.far b hb (fun x => ho (hO b x)), hst1.near, fun b hb => (hst1.own b (own_down1 hb)).imp (hO b) id⟩, rep_retV hr' hr1, hp'⟩
end
attribute [go_sem] getO_up1 setO_up1 upK_mk ret_tsl_up ret_tsl_0 ret_d ret_any ret_fsl ret_rptr ret_ptr frz_tsl bor_d bor_any bor_ptr bor_fn bor_msl bor_rptr frz_d frz_any frz_fsl frz_ptr frz_fn frz_rptr frz_msl ret_lfl frz_lfl bor_lfl
end Go.Ab

namespace Go.Ab
section
variable {P : Program} {S S' : Store} {N : Nat} {s : St}
theorem keep_kill (S : Store) (β : Hs) (k : Key) : Keep S β (setO S k .dead) β := by
  intro k' o ho
  by_cases e : k = k'
  · subst e
    exact ⟨.dead, getO_setO_eq _ _ _ _ ho, .inl rfl⟩
  · exact ⟨o, by rw [getO_setO_ne _ _ _ _ e]; exact ho, KeepO.refl _ _⟩
theorem getO_kill {k k' : Key} {o : Obj} (h : getO (setO S k .dead) k' = some o) : (k = k' ∧ o = .dead) ∨ getO S k' = some o := by
  by_cases e : k = k'
  · subst e
    cases hg : getO S k with
    | none =>
      have : ∀ (S : Store) (k : Key), getO S k = none → setO S k .dead = S := by
        intro S
        induction S with
        | nil => intro k _; rfl
        | cons fr S ih =>
          rintro ⟨l, j⟩ h
          cases l with
          | zero =>
            rw [getO_zero] at h
            rw [setO, List.set_eq_of_length_le (List.getElem?_eq_none_iff.1 h)]
          | succ l => rw [getO_succ] at h; rw [setO, ih _ h]
      rw [this S k hg, hg] at h
      cases h
    | some y =>
      rw [getO_setO_eq _ _ _ _ hg] at h
      cases h
      exact .inl ⟨rfl, rfl⟩
  · rw [getO_setO_ne _ _ _ _ e] at h
    exact .inr h
theorem setO_len (x : Obj) : ∀ (S : Store) (k : Key), (setO S k x).length = S.length
  | [], k => rfl
  | fr :: S, (0, j) => by rw [setO]; simp
  | fr :: S, (l + 1, j) => by rw [setO, List.length_cons, setO_len x S, List.length_cons]
theorem setO_fr (x : Obj) : ∀ (S : Store) (k : Key) (l : Nat) (fr : List Obj), (setO S k x)[l]? = some fr → ∃ fr0, S[l]? = some fr0 ∧ fr0.length = fr.length
  | [], k, l, fr, h => by simp [setO] at h
  | f :: S, (0, j), 0, fr, h => by rw [setO] at h; simp at h; subst h; exact ⟨f, rfl, by simp⟩
  | f :: S, (0, j), l + 1, fr, h => by rw [setO] at h; exact ⟨fr, by simpa using h, rfl⟩
  | f :: S, (i + 1, j), 0, fr, h => by rw [setO] at h; exact ⟨fr, by simpa using h, rfl⟩
  | f :: S, (i + 1, j), l + 1, fr, h => by
    rw [setO] at h
    simpa using setO_fr x S (i, j) l fr (by simpa using h)
theorem kill_rep {w : World} {σ : Nat → Nat} {β : Hs} (k : Key) (hS : RepS w σ S β) : RepS w σ (setO S k .dead) β := by
  have hn : Near w σ w σ := (Grow.refl hS.live).near
  refine ⟨fun k' o ho => ?_, fun k1 k2 o1 o2 h1 h2 b e1 e2 e3 e4 e5 e6 => ?_, ⟨by rw [setO_len]; exact hS.shape.1, fun l fr hl => ?_⟩, hS.live, hS.glob⟩
  · rcases getO_kill ho with ⟨rfl, rfl⟩ | ho'
    · cases hg : getO S k with
      | none =>
        exfalso
        have := keep_kill S β k
        rcases getO_kill (S := S) (k := k) (k' := k) ho with ⟨_, _⟩ | h
        · -- the object is there
          have hne : getO (setO S k .dead) k = none := by
            have : ∀ (S : Store) (k : Key), getO S k = none → getO (setO S k Obj.dead) k = none := by
              intro S
              induction S with
              | nil => intro k _; rw [setO, getO_nil]
              | cons fr S ih =>
                rintro ⟨l, j⟩ h
                cases l with
                | zero =>
                  rw [getO_zero] at h
                  rw [setO, getO_zero, List.set_eq_of_length_le (List.getElem?_eq_none_iff.1 h)]
                  exact h
                | succ l => rw [getO_succ] at h; rw [setO, getO_succ]; exact ih _ h
            exact this S k hg
          rw [hne] at ho; cases ho
        · rw [hg] at h; cases h
      | some y =>
        obtain ⟨h, hh, _⟩ := hS.obj k y hg
        exact ⟨h, hh, trivial⟩
    · obtain ⟨h, hh, hr⟩ := hS.obj k' o ho'
      exact ⟨h, hh, hr.mono hn ((keep_kill S β k).drop k'.1) fun b _ => ⟨rfl, rfl⟩⟩
  · rcases getO_kill e1 with ⟨_, rfl⟩ | e1'
    · cases e3
    · rcases getO_kill e4 with ⟨_, rfl⟩ | e4'
      · cases e6
      · exact hS.apart k1 k2 o1 o2 h1 h2 b e1' e2 e3 e4' e5 e6
  · obtain ⟨fr0, h1, h2⟩ := setO_fr _ S k l fr hl
    obtain ⟨gr, h3, h4⟩ := hS.shape.2 l fr0 h1
    exact ⟨gr, h3, by omega⟩
def Less (r r' : V) : Prop := ∀ w σ S β v, RepV w σ S β r v → RepV w σ S β r' v
theorem Less.refl (r : V) : Less r r := fun _ _ _ _ _ h => h
theorem ACall.kill {f : FuncId} {args : List V} {post post' : V → Store → Prop} (k : Key) (h : ACall P f args S post) (hp : ∀ r S', post r S' → ∃ r', Less r r' ∧ (post' r' S' ∨ post' r' (setO S' k .dead))) : ACall P f args S post' := by
  refine ⟨h.1, fun w σ β vs hS hv => (h.2 w σ β vs hS hv).mono fun e w' ⟨v, r, S', σ', β', h1, h2, h3, h4, h5, h6⟩ => ?_⟩
  obtain ⟨r', hl, hp | hp⟩ := hp r S' h6
  · exact ⟨v, r', S', σ', β', h1, h2, h3, h4, hl _ _ _ _ _ h5, hp⟩
  · have hkeep := keep_kill S' β' k
    refine ⟨v, r', setO S' k .dead, σ', β', h1, kill_rep k h2, h3.trans hkeep, ⟨h4.size, h4.os, h4.output, h4.far, h4.near, fun b hb => ?_⟩, hl _ _ _ _ _ (h5.mono (Grow.refl h2.live).near hkeep), hp⟩
    obtain ⟨k', o, hv, e1, e2, e3⟩ := hb
    rcases getO_kill e1 with ⟨_, rfl⟩ | e1'
    · cases e3
    · exact h4.own b ⟨k', o, hv, e1', e2, e3⟩
theorem setO_twice {x y : Obj} : ∀ (S : Store) (k : Key), setO (setO S k x) k y = setO S k y
  | [], k => rfl
  | fr :: S, (0, j) => by rw [setO, setO, setO]; simp
  | fr :: S, (l + 1, j) => by rw [setO, setO, setO, setO_twice S]
theorem setO_self {x : Obj} : ∀ (S : Store) (k : Key), getO S k = some x → setO S k x = S
  | [], k, _ => rfl
  | fr :: S, (0, j), h => by
    rw [getO_zero] at h
    rw [setO]
    congr 1
    exact List.ext_getElem? fun i => by
      rw [List.getElem?_set]
      split
      · rename_i e; subst e
        obtain ⟨h1, h2⟩ := List.getElem?_eq_some_iff.1 h
        simp [h1, h2]
      · rfl
  | fr :: S, (l + 1, j), h => by rw [getO_succ] at h; rw [setO, setO_self S _ h]
def borM : List Bool → List V → List V
  | true :: m, v :: vs => v :: borM m vs
  | false :: m, v :: vs => v.bor :: borM m vs
  | [], vs => vs.map V.bor
  | _, [] => []
theorem borM_len : ∀ (m : List Bool) (vs : List V), vs.length = (borM m vs).length
  | true :: m, v :: vs => by rw [borM, List.length_cons, List.length_cons, borM_len m vs]
  | false :: m, v :: vs => by rw [borM, List.length_cons, List.length_cons, borM_len m vs]
  | [], vs => by simp [borM]
  | true :: m, [] => rfl
  | false :: m, [] => rfl
theorem borM_at : ∀ (m : List Bool) (vs : List V) (j : Nat) (x y : V), vs[j]? = some x → (borM m vs)[j]? = some y → y = x ∨ y = x.bor
  | true :: m, v :: vs, 0, x, y, h1, h2 => by rw [borM] at h2; cases h1; cases h2; exact .inl rfl
  | false :: m, v :: vs, 0, x, y, h1, h2 => by rw [borM] at h2; cases h1; cases h2; exact .inr rfl
  | true :: m, v :: vs, j + 1, x, y, h1, h2 => by rw [borM] at h2; exact borM_at m vs j x y h1 h2
  | false :: m, v :: vs, j + 1, x, y, h1, h2 => by rw [borM] at h2; exact borM_at m vs j x y h1 h2
  | [], vs, j, x, y, h1, h2 => by rw [borM, List.getElem?_map, h1] at h2; cases h2; exact .inr rfl
  | true :: m, [], j, x, y, h1, h2 => by simp at h1
  | false :: m, [], j, x, y, h1, h2 => by simp at h1
theorem ACall.borM (m : List Bool) {f : FuncId} {args : List V} {post : V → Store → Prop} (h : ACall P f (Go.Ab.borM m args) S post) : ACall P f args S post :=
  h.weaken (borM_len m args) fun j x y hx hy w σ β v hr => by
    rcases borM_at m args j x y hx hy with e | e
    · rw [e]; exact hr
    · rw [e]; exact rep_borV hr
theorem call_m (m : List Bool) {dr : Option Nat} {f : FuncId} {args : List V} {dst : Option Nat} {K : St → Prop} {r : V} {S1 : Store} (hm : effOk dr = true) (h : ACall P f (borM m args) s.st (fun r' S' => r' = r ∧ S' = S1)) (hK : K (St.put ⟨s.tm, S1⟩ dst r)) : CallG P dr f args s dst K :=
  call_d hm (h.borM m) hK
end
theorem PCall.less {P : Program} {f : FuncId} {args : List V} {r r' : V} (h : PCall P f args r) (hl : Less r r') : PCall P f args r' :=
  fun S => (h S).kill (0, 0) fun r1 S' e => ⟨r', by rw [e.1]; exact hl, .inl ⟨rfl, e.2⟩⟩
end Go.Ab

namespace Go.Ab
section
variable {P : Program} {S : Store}
def upCaps (n : Nat) (caps : List (Key × Nat)) : List (Key × Nat) := caps.map fun y => (upK n y.1, y.2)
theorem upCaps_nil {n : Nat} : upCaps n [] = [] := rfl
theorem upCaps_cons {n l j off : Nat} {caps : List (Key × Nat)} : upCaps n (((l, j), off) :: caps) = ((n + l, j), off) :: upCaps n caps := rfl
theorem upCaps_up {m n : Nat} {caps : List (Key × Nat)} : upCaps m (upCaps n caps) = upCaps (m + n) caps := by
  unfold upCaps
  rw [List.map_map]
  refine List.map_congr_left fun y _ => ?_
  simp only [Function.comp, upK, Prod.mk.injEq, and_true]
  omega
theorem refs_upCaps {n m g : Nat} {caps : List (Key × Nat)} : C.refs n (.fn g (upCaps (m + 1) caps)) = true := by
  simp only [C.refs, upCaps, List.all_map, List.all_eq_true]
  intro x _
  have h : 0 < m + 1 + x.1.1 := by omega
  simp [Function.comp, refK, upK, h]
theorem refs_upCaps1 {n : Nat} {caps : List (Key × Nat)} : ((upCaps 1 caps).all fun x => refK n x.fst) = true := refs_upCaps (m := 0) (g := 0)
theorem getO_app : ∀ (F S : Store) (l j : Nat), getO (F ++ S) (F.length + l, j) = getO S (l, j)
  | [], S, l, j => by simp
  | fr :: F, S, l, j => by
    rw [List.cons_append, List.length_cons, show F.length + 1 + l = (F.length + l) + 1 from by omega, getO_succ, getO_app F S l j]
theorem setO_app (x : Obj) : ∀ (F S : Store) (l j : Nat), setO (F ++ S) (F.length + l, j) x = F ++ setO S (l, j) x
  | [], S, l, j => by simp
  | fr :: F, S, l, j => by
    rw [List.cons_append, List.length_cons, show F.length + 1 + l = (F.length + l) + 1 from by omega, setO, setO_app x F S l j, List.cons_append]
theorem getO_app0 {F S : Store} {j : Nat} : getO (F ++ S) (F.length, j) = getO S (0, j) := getO_app F S 0 j
theorem setO_app0 {F S : Store} {j : Nat} {x : Obj} : setO (F ++ S) (F.length, j) x = F ++ setO S (0, j) x := setO_app x F S 0 j
attribute [go_sem] getO_app0 setO_app0 upCaps_nil upCaps_cons
def FPure (P : Program) (g : Nat) (caps : List (Key × Nat)) (S : Store) (xs : List V) (r : V) : Prop :=
  ∀ F : Store, ACall P g (xs ++ capV (upCaps F.length caps)) (F ++ S) (fun r' S' => r' = r ∧ S' = F ++ S)
theorem FPure.push {g : Nat} {caps : List (Key × Nat)} {xs : List V} {r : V} (h : FPure P g caps S xs r) (fr : List Obj) : FPure P g (upCaps 1 caps) (fr :: S) xs r := fun F => by
  have := h (F ++ [fr])
  rw [upCaps_up]
  simpa using this
theorem FPure.of_pure {g : Nat} {xs : List V} {r : V} (h : PCall P g xs r) : FPure P g [] S xs r := fun F => by
  have := h (F ++ S)
  simpa [upCaps, capV] using this
def FStep (P : Program) (g : Nat) (caps : List (Key × Nat)) {α X : Type} (st : α → Store) (I : Nat → α → Prop) (f : α → X → α) (xv : X → V) (ok : X → Prop) : Prop :=
  ∀ n a u, I (n + 1) a → ok u → I n (f a u) ∧ ∀ F : Store, ACall P g (xv u :: capV (upCaps F.length caps)) (F ++ st a) (fun r' S' => r' = .tup [] ∧ S' = F ++ st (f a u))
theorem FStep.push {g : Nat} {caps : List (Key × Nat)} {α X : Type} {st : α → Store} {I : Nat → α → Prop} {f : α → X → α} {xv : X → V} {ok : X → Prop} (h : FStep P g caps st I f xv ok) (fr : List Obj) :
    FStep P g (upCaps 1 caps) (fun a => fr :: st a) I f xv ok := fun n a u ha hu => ⟨(h n a u ha hu).1, fun F => by
  have := (h n a u ha hu).2 (F ++ [fr])
  rw [upCaps_up]
  simpa using this⟩
theorem aw_tokbox {N : Nat} {c : Code} {Q : Exit → St → Prop} {tm : List (Nat × V)} {own : List Obj} {Ω : Store} (j i esz : Nat) (es : List (List D)) (cs : List C) (hj : own[j]? = some (.box cs)) (hi : cs[i]? = some (.fsl es)) (hes : ∀ e ∈ es, e.length = esz)
    (h : AW P N c Q ⟨tm, (own.set j (.box (cs.set i (.tsl (0, own.length) es))) ++ [.tok esz es]) :: Ω⟩) : AW P N c Q ⟨tm, own :: Ω⟩ := by
  refine aw_ghost h fun a w σ β hR => ?_
  obtain ⟨bo, bΩ, rfl, hlen⟩ := frames hR
  have hjl := (List.getElem?_eq_some_iff.1 hj).1
  have hg0 : getO (own :: Ω) (0, j) = some (.box cs) := by rw [getO_zero]; exact hj
  obtain ⟨hb, hbo, hr⟩ := hR.S.obj (0, j) _ hg0
  obtain ⟨b, cv, ty, rfl, hbc, hσ, hcs⟩ := hr
  have hcs : RepCs w σ (own :: Ω) (bo :: bΩ) cs cv.toList := hcs
  obtain ⟨v, hv, ⟨hd, ad, n, hval⟩, hone⟩ := hcs.2 i _ hi
  have hn : n = es.length := by rw [hval] at hd; cases hd <;> rfl
  have hg : Grow w σ w σ := Grow.refl hR.S.live
  obtain ⟨hS', hk, hst⟩ := hR.S.push (o := .tok esz es) (h := v) hg hlen ⟨hd, hes, ad, n, by rw [hval, hn], by omega, .inl hn⟩ (fun b hb => by
    rw [hval, hn] at hb
    cases ad <;> simp [owns, blk] at hb)
  have hk1 : getO ((own ++ [.tok esz es]) :: Ω) (0, j) = some (.box cs) := getO_push _ _ _ _ _ hg0
  have hh1 : getO ((bo ++ [v]) :: bΩ) (0, j) = some (.pointer (some ⟨b, 0, none⟩)) := getO_push _ _ _ _ _ hbo
  have hko : KeepO (.box cs) (some (Value.pointer (some ⟨b, 0, none⟩))) (.box (cs.set i (.tsl (0, own.length) es))) (some (Value.pointer (some ⟨b, 0, none⟩))) := .inr ⟨⟨_, rfl⟩, rfl⟩
  have hK : Keep ((own ++ [.tok esz es]) :: Ω) ((bo ++ [v]) :: bΩ) (setO ((own ++ [.tok esz es]) :: Ω) (0, j) (.box (cs.set i (.tsl (0, own.length) es)))) (setO ((bo ++ [v]) :: bΩ) (0, j) (.pointer (some ⟨b, 0, none⟩))) := by
    intro k1 o1 e1
    by_cases e : k1 = (0, j)
    · subst e
      rw [hk1] at e1; cases e1
      exact ⟨_, getO_setO_eq _ _ _ _ hk1, by rw [hh1, getO_setO_eq _ _ _ _ hh1]; exact hko⟩
    · exact ⟨o1, (getO_setO_ne _ _ _ _ (Ne.symm e)).trans e1, by rw [getO_setO_ne _ _ _ _ (Ne.symm e)]; exact .refl _ _⟩
  have hne : (0, own.length) ≠ (0, j) := fun e => by injection e with _ e; omega
  obtain ⟨hS2, hk2, hst2⟩ := hS'.set (w' := w) (σ' := σ) (o' := .box (cs.set i (.tsl (0, own.length) es))) (h' := .pointer (some ⟨b, 0, none⟩)) hk1 hh1 (Nat.le_refl _) rfl rfl (Near.refl _ _) hS'.live (fun _ _ _ => ⟨rfl, rfl⟩) hko
    ⟨b, cv, ty, rfl, hbc, hσ, by
      refine ⟨by rw [List.length_set]; exact hcs.1, fun m x hm => ?_⟩
      rw [List.getElem?_set] at hm
      by_cases e : i = m
      · subst e
        rw [if_pos rfl] at hm
        split at hm
        · cases hm
          refine ⟨v, hv, ⟨hd, .tok esz es, ?_, fun a1 b1 e1 => ?_⟩, hone⟩
          · show getO (setO _ (0, j) _) (0, own.length) = _
            rw [getO_setO_ne _ _ _ _ (Ne.symm hne), getO_push_new]
          · obtain ⟨_, rfl⟩ := istok_of (lab := none) e1
            refine ⟨Nat.le_refl _, fun _ => ?_⟩
            show getO (setO _ (0, j) _) (0, own.length) = _
            rw [getO_setO_ne _ _ _ _ (Ne.symm hne), ← hlen, getO_push_new]
        · cases hm
      · rw [if_neg e] at hm
        obtain ⟨u, hu, hc, ho⟩ := hcs.2 m x hm
        exact ⟨u, hu, (hc.mono (Near.refl _ _) hk).mono (Near.refl _ _) hK, ho⟩⟩ (fun _ e => .inl e)
  have est : setO ((own ++ [.tok esz es]) :: Ω) (0, j) (.box (cs.set i (.tsl (0, own.length) es))) = (own.set j (.box (cs.set i (.tsl (0, own.length) es))) ++ [.tok esz es]) :: Ω := by
    rw [setO, List.set_append_left _ _ hjl]
  rw [est] at hS2 hk2 hst2
  exact ⟨σ, _, ⟨hR.size, hR.defers, hS2, fun u => ((hR.T u).mono (Near.refl _ _) hk).mono (Near.refl _ _) hk2⟩, hst.trans hst2, by
    have := hk.trans hk2
    exact this.tail⟩
end
end Go.Ab

namespace Go.Ab
inductive D.Fit : D → Prop
  | b (x) : Fit (.b x)
  | i (k n) : Fit (.i k n)
  | s (l) (h : l.length ≤ 9223372036854775807) : Fit (.s l)
  | sl (es) (h : es.length ≤ 9223372036854775807) (hh : ∀ e ∈ es, ∀ d ∈ e, Fit d) : Fit (.sl es)
  | o (v) : Fit (.o v)
def FitL (cs : List D) : Prop := ∀ d ∈ cs, d.Fit
theorem fitL_nil : FitL [] := fun d h => by cases h
theorem fitL_cons {d : D} {ds : List D} : FitL (d :: ds) ↔ d.Fit ∧ FitL ds := by simp [FitL]
theorem fitL_append {a b : List D} : FitL (a ++ b) ↔ FitL a ∧ FitL b := by
  simp only [FitL, List.mem_append]
  exact ⟨fun h => ⟨fun d hd => h d (.inl hd), fun d hd => h d (.inr hd)⟩, fun h d hd => hd.elim (h.1 d) (h.2 d)⟩
def WTF (P : Program) (W : TypeId → List D → Prop) : List Field → List D → Prop
  | [], ds => ds = []
  | f :: fs, ds => ∃ a b, ds = a ++ b ∧ a.length = P.cellsOf f.type ∧ W f.type a ∧ WTF P W fs b
def WT (P : Program) : Nat → TypeId → List D → Prop
  | 0, _, _ => False
  | n + 1, t, ds =>
    match P.underlying t with
    | some .bool => ∃ b, ds = [.b b]
    | some (.int k) => ∃ x, ds = [.i k x] ∧ (Lit.int k x).wf = true
    | some .string => ∃ l, ds = [.s l] ∧ l.length ≤ 9223372036854775807
    | some (.slice e) => ∃ es, ds = [.sl es] ∧ es.length ≤ 9223372036854775807 ∧ ∀ x ∈ es, x.length = P.cellsOf e ∧ WT P n e x
    | some (.struct fs) => WTF P (WT P n) fs.toList ds
    | _ => False
def tiles (P : Program) : List Field → Nat → Nat → Bool
  | [], a, b => a == b
  | f :: fs, a, b => f.offset == a && tiles P fs (a + P.cellsOf f.type) b
def closedB (P : Program) (L : List TypeId) : Bool :=
  L.all fun t => match P.underlying t with
    | some .bool | some (.int _) | some .string => P.cellsOf t == 1
    | some (.slice e) => P.cellsOf t == 1 && L.contains e && decide (0 < P.cellsOf e)
    | some (.struct fs) => tiles P fs.toList 0 (P.cellsOf t) && fs.toList.all fun f => L.contains f.type
    | _ => false
def allFast (w : World) (b : Nat) : Nat := match w.heap[b]? with
  | some (.cells c _ _) => c.size
  | _ => 0
def RepL (w : World) (ds : List D) (vs : List Value) : Prop := ds.length = vs.length ∧ ∀ (j : Nat) (d : D), ds[j]? = some d → ∃ v, vs[j]? = some v ∧ RepD w (allFast w) d v ∧ v.oneCell' = true
theorem RepL.append {w : World} {a b : List D} {xs ys : List Value} (h1 : RepL w a xs) (h2 : RepL w b ys) : RepL w (a ++ b) (xs ++ ys) := by
  refine ⟨by simp [h1.1, h2.1], fun j d hj => ?_⟩
  rw [List.getElem?_append] at hj ⊢
  have := h1.1
  split at hj
  · rw [if_pos (by omega)]; exact h1.2 j d hj
  · rw [if_neg (by omega), ← h1.1]; exact h2.2 _ d hj
theorem RepL.one {w : World} {d : D} {v : Value} (h : RepD w (allFast w) d v) (h1 : v.oneCell' = true) : RepL w [d] [v] := by
  refine ⟨rfl, fun j x hj => ?_⟩
  cases j with
  | zero => cases hj; exact ⟨v, rfl, h, h1⟩
  | succ j => simp at hj
theorem mapM_all {α β : Type} (f : α → Option β) : ∀ (l : List α) (ys : List β), l.mapM f = some ys → ys.length = l.length ∧ ∀ (j : Nat) (x : α), l[j]? = some x → ∃ y, f x = some y ∧ ys[j]? = some y
  | [], ys, h => by
    simp at h; subst h
    exact ⟨rfl, fun j x hj => by simp at hj⟩
  | a :: l, ys, h => by
    rw [List.mapM_cons] at h
    cases ha : f a with
    | none => rw [ha] at h; cases h
    | some y =>
      cases hl : l.mapM f with
      | none => rw [ha, hl] at h; cases h
      | some zs =>
        rw [ha, hl] at h
        cases h
        obtain ⟨h1, h2⟩ := mapM_all f l zs hl
        refine ⟨by simp [h1], fun j x hj => ?_⟩
        cases j with
        | zero => cases hj; exact ⟨y, ha, rfl⟩
        | succ j => exact h2 j x hj
section
variable {H : Type} {enc : TypeId × Value → H} {P : Program} {w : World} {L : List TypeId}
theorem cells_spot {a : Addr} {n : Nat} {vs : List Value} (hn : 0 < n) (h : w.cells? 0 a n = some vs) : a.spot = none ∧ vs.length = n ∧ ∃ c t fz, w.heap[a.block]? = some (.cells c t fz) ∧ ∀ j, j < n → ∃ v, vs[j]? = some v ∧ c[a.off + j]? = some v := by
  unfold World.cells? at h
  rw [if_pos (Nat.zero_le _)] at h
  obtain ⟨h1, h2⟩ := mapM_all _ _ _ h
  rw [List.length_range] at h1
  obtain ⟨v0, hv0, _⟩ := h2 0 0 (by simp [hn])
  have hadd0 : a.add 0 = a := by simp [Addr.add]
  rw [hadd0] at hv0
  unfold World.cell? at hv0
  cases hb : w.heap[a.block]? with
  | none => rw [hb] at hv0; cases hv0
  | some ob =>
    rw [hb] at hv0
    cases ob with
    | map _ _ => cases hv0
    | cells c t fz =>
      have hs : a.spot = none := by
        cases hsp : a.spot with
        | none => rfl
        | some x => rw [hsp] at hv0; simp at hv0
      refine ⟨hs, h1, c, t, fz, rfl, fun j hj => ?_⟩
      obtain ⟨v, hv, hvs⟩ := h2 j j (by simp [hj])
      refine ⟨v, hvs, ?_⟩
      unfold World.cell? at hv
      by_cases hj0 : j = 0
      · subst hj0
        rw [hadd0, hb] at hv
        simp [hs] at hv
        simpa using hv
      · simp [Addr.add, hj0, hb] at hv
        exact hv
    | _ => cases hv0
theorem choose_list {α : Type} {p : Nat → α → Prop} : ∀ n : Nat, (∀ i, i < n → ∃ x, p i x) → ∃ l : List α, l.length = n ∧ ∀ (i : Nat) (x : α), l[i]? = some x → p i x
  | 0, _ => ⟨[], rfl, fun i x h => by simp at h⟩
  | n + 1, h => by
    obtain ⟨l, hl, hp⟩ := choose_list n fun i hi => h i (by omega)
    obtain ⟨x, hx⟩ := h n (by omega)
    refine ⟨l ++ [x], by simp [hl], fun i y hy => ?_⟩
    rw [List.getElem?_append] at hy
    split at hy
    · exact hp i y hy
    · rename_i hlt
      have hi : i - l.length < 1 := by
        have := (List.getElem?_eq_some_iff.1 hy).1
        simpa using this
      have : i = n := by omega
      subst this
      rw [show i - l.length = 0 from by omega] at hy
      cases hy
      exact hx
theorem closed_at (hc : closedB P L = true) {t : TypeId} (ht : t ∈ L) : (match P.underlying t with
    | some .bool | some (.int _) | some .string => P.cellsOf t == 1
    | some (.slice e) => P.cellsOf t == 1 && L.contains e && decide (0 < P.cellsOf e)
    | some (.struct fs) => tiles P fs.toList 0 (P.cellsOf t) && fs.toList.all fun f => L.contains f.type
    | _ => false) = true := List.all_eq_true.1 hc t ht
theorem trod_fields {n : Nat} {fs : List Field} {cs : List Value} : ∀ (off : Nat), off ≤ cs.length → tiles P fs off cs.length = true →
    (∀ f ∈ fs, ∃ ds, WT P n f.type ds ∧ RepL w ds ((cs.drop f.offset).take (P.cellsOf f.type))) → ∃ ds, WTF P (WT P n) fs ds ∧ RepL w ds (cs.drop off) := by
  induction fs with
  | nil =>
    intro off _ ht _
    have : off = cs.length := by simpa [tiles] using ht
    exact ⟨[], rfl, by simp [this, RepL]⟩
  | cons f fs ih =>
    intro off ho ht h
    simp only [tiles, Bool.and_eq_true, beq_iff_eq] at ht
    obtain ⟨a, ha1, ha2⟩ := h f (by simp)
    have hle : ∀ (fs : List Field) (o : Nat), tiles P fs o cs.length = true → o ≤ cs.length := by
      intro fs
      induction fs with
      | nil => intro o h; have : o = cs.length := by simpa [tiles] using h
               omega
      | cons g gs ih => intro o h; simp only [tiles, Bool.and_eq_true] at h; have := ih _ h.2; omega
    have hle' := hle fs _ ht.2
    obtain ⟨b, hb1, hb2⟩ := ih (off + P.cellsOf f.type) hle' ht.2 fun g hg => h g (by simp [hg])
    rw [ht.1] at ha2
    refine ⟨a ++ b, ⟨a, b, rfl, ?_, ha1, hb1⟩, ?_⟩
    · rw [ha2.1]; simp; omega
    · have := ha2.append hb2
      rw [← List.drop_drop, List.take_append_drop] at this
      exact this
theorem trod_data (hc : closedB P L = true) {sp : Nat → Bool} {held : Bool} : ∀ (fuel : Nat) (t : TypeId) (cs : List Value) (x : DataW H × List MemPlace), t ∈ L →
    DataW.trod enc P w 0 sp held fuel t cs = some x → ∃ ds, WT P fuel t ds ∧ RepL w ds cs
  | 0, t, cs, x, _, h => by simp [DataW.trod] at h
  | n + 1, t, cs, x, ht, h => by
    have hcl := closed_at hc ht
    cases hu : P.underlying t with
    | none => rw [hu] at hcl; cases hcl
    | some u =>
      rw [hu] at hcl
      cases u with
      | bool =>
        obtain ⟨b, rfl, _⟩ := DataW.trod_bool hu h
        exact ⟨[.b b], by simp only [WT, hu]; exact ⟨b, rfl⟩, RepL.one (.b b) rfl⟩
      | int k =>
        obtain ⟨m, rfl, _, hw⟩ := DataW.trod_int hu h
        exact ⟨[.i k m], by simp only [WT, hu]; exact ⟨m, rfl, hw⟩, RepL.one (.i k m) rfl⟩
      | string =>
        obtain ⟨s, rfl, _, hs⟩ := DataW.trod_string hu h
        have hl : s.data.toList.length ≤ 9223372036854775807 := by
          have h1 : s.data.toList.length = s.size := by rw [Array.length_toList]; rfl
          rw [h1]; exact hs
        refine ⟨[.s s.data.toList], ?_, RepL.one ?_ rfl⟩
        · simp only [WT, hu]; exact ⟨_, rfl, hl⟩
        · exact .s s.data.toList
      | slice e =>
        simp only [Bool.and_eq_true, beq_iff_eq, decide_eq_true_eq, List.contains_iff_mem] at hcl
        obtain ⟨⟨h1, he⟩, hpos⟩ := hcl
        rcases DataW.trod_slice hu h with ⟨rfl, _⟩ | ⟨a, len, cap, elems, rest, m, hm, rfl, _, _, hlc, hcm, hel, hget, _, _⟩
        · exact ⟨[.sl []], by simp only [WT, hu]; exact ⟨[], rfl, by simp, fun x hx => by cases hx⟩, RepL.one (.nil _ _) rfl⟩
        · cases hm
          have hall : ∀ i, i < len → ∃ ds : List D, ds.length = P.cellsOf e ∧ WT P n e ds ∧ ∃ vs, w.cells? 0 (a.add (i * P.cellsOf e)) (P.cellsOf e) = some vs ∧ RepL w ds vs := by
            intro i hi
            have hg := hget i hi
            cases hcs : w.cells? 0 (a.add (i * P.cellsOf e)) (P.cellsOf e) with
            | none =>
              rw [hcs] at hg
              have : i < elems.length := by omega
              rw [List.getElem?_eq_getElem this] at hg
              cases hg
            | some vs =>
              rw [hcs] at hg
              have hlt : i < elems.length := by omega
              rw [List.getElem?_eq_getElem hlt] at hg
              obtain ⟨ds, hd1, hd2⟩ := trod_data hc n e vs _ he hg
              have hv := (cells_spot hpos hcs).2.1
              exact ⟨ds, by rw [hd2.1, hv], hd1, vs, rfl, hd2⟩
          obtain ⟨es, hes, hp⟩ := choose_list len hall
          have hwt : WT P (n + 1) t [.sl es] := by
            simp only [WT, hu]
            refine ⟨es, rfl, by have : cap ≤ 9223372036854775807 := hcm
                                omega, fun x hx => ?_⟩
            obtain ⟨i, hi⟩ := List.getElem?_of_mem hx
            exact ⟨(hp i x hi).1, (hp i x hi).2.1⟩
          refine ⟨[.sl es], hwt, ?_⟩
          cases hes0 : es with
          | nil =>
            have h0 : len = 0 := by rw [← hes, hes0]; rfl
            subst h0
            exact RepL.one (.nil _ _) rfl
          | cons e0 es0 =>
            have hlpos : 0 < len := by rw [← hes, hes0]; simp
            have hlen : ∀ x ∈ es, x.length = P.cellsOf e := fun x hx => by
              obtain ⟨i, hi⟩ := List.getElem?_of_mem hx
              exact (hp i x hi).1
            obtain ⟨ds0, _, _, vs0, hvs0, _⟩ := hall 0 hlpos
            have hadd0 : a.add (0 * P.cellsOf e) = a := by simp [Addr.add]
            rw [hadd0] at hvs0
            obtain ⟨hsp, _, c, tt, fz, hblk, _⟩ := cells_spot hpos hvs0
            have hcell : ∀ i r, i < len → r < P.cellsOf e → ∃ (x : List D) (v : Value) (d : D), es[i]? = some x ∧ x[r]? = some d ∧ c[a.off + (i * P.cellsOf e + r)]? = some v ∧ RepD w (allFast w) d v := by
              intro i r hi hr
              have hlt : i < es.length := by omega
              obtain ⟨hx1, hx2, vs, hvs, hrep⟩ := hp i es[i] (List.getElem?_eq_getElem hlt)
              obtain ⟨_, hvl, c', t', fz', hblk', hcc⟩ := cells_spot hpos hvs
              have hb' : (a.add (i * P.cellsOf e)).block = a.block := by unfold Addr.add; split <;> rfl
              have ho' : (a.add (i * P.cellsOf e)).off = a.off + i * P.cellsOf e := by unfold Addr.add; split <;> simp_all
              rw [hb', hblk] at hblk'
              cases hblk'
              obtain ⟨v, hv1, hv2⟩ := hcc r hr
              have hdr : r < es[i].length := by omega
              obtain ⟨v', hv', hd', _⟩ := hrep.2 r es[i][r] (List.getElem?_eq_getElem hdr)
              rw [hv1] at hv'; cases hv'
              refine ⟨es[i], v, es[i][r], List.getElem?_eq_getElem hlt, List.getElem?_eq_getElem hdr, ?_, hd'⟩
              rw [ho'] at hv2
              rw [← Nat.add_assoc]; exact hv2
            have hbound : a.off + len * P.cellsOf e ≤ c.size := by
              obtain ⟨_, v, _, _, _, hv, _⟩ := hcell (len - 1) (P.cellsOf e - 1) (by omega) (by omega)
              have := (Array.getElem?_eq_some_iff.1 hv).1
              have e1 : (len - 1) * P.cellsOf e + P.cellsOf e = len * P.cellsOf e := by
                rw [← Nat.succ_mul]; congr 1; omega
              omega
            have key : RepD w (allFast w) (.sl es) (.slice (some ⟨a.block, a.off, none⟩) es.length cap) := by
              refine .sl a.block a.off cap (P.cellsOf e) es (fun j => (c[a.off + j]?).getD undef) c tt fz (by omega) hlen hblk ?_ (fun j hj => ?_) (fun j d hj => ?_)
              · unfold allFast; rw [hblk, hes]; exact hbound
              · have : a.off + j < c.size := by rw [hes] at hj; omega
                rw [Array.getElem?_eq_getElem this]; rfl
              · have hfl : es.flatten.length = es.length * P.cellsOf e := flat_len es _ hlen
                have hjl : j < es.length * P.cellsOf e := by rw [← hfl]; exact (List.getElem?_eq_some_iff.1 hj).1
                have hi : j / P.cellsOf e < len := by rw [← hes]; exact (Nat.div_lt_iff_lt_mul hpos).2 hjl
                obtain ⟨x, v, d', hx, hd', hv, hr⟩ := hcell (j / P.cellsOf e) (j % P.cellsOf e) hi (Nat.mod_lt _ hpos)
                have hlt' : j / P.cellsOf e < es.length := by omega
                have hfg := flat_get es (P.cellsOf e) hlen (j / P.cellsOf e) (j % P.cellsOf e) hlt' (Nat.mod_lt _ hpos)
                have hj' : j / P.cellsOf e * P.cellsOf e + j % P.cellsOf e = j := by rw [Nat.mul_comm]; exact Nat.div_add_mod j _
                rw [hj', hj] at hfg
                rw [List.getElem?_eq_getElem hlt'] at hx
                cases hx
                rw [hd'] at hfg
                cases hfg
                rw [hj'] at hv
                rw [hv]
                exact hr
            rw [← hes0]
            refine RepL.one ?_ rfl
            have ha : a = ⟨a.block, a.off, none⟩ := by cases a; simp at hsp; simp [hsp]
            rw [ha, ← hes]
            exact key
      | struct fs =>
        simp only [Bool.and_eq_true] at hcl
        obtain ⟨htl, hfs⟩ := hcl
        obtain ⟨xs, m, hm, rfl, hlen, hxs, hfld⟩ := DataW.trod_struct hu h
        cases hm
        rw [← hlen] at htl
        obtain ⟨ds, h1, h2⟩ := trod_fields (w := w) (n := n) (cs := cs) 0 (Nat.zero_le _) htl fun f hf => by
          obtain ⟨i, hi⟩ := List.getElem?_of_mem hf
          have hi' : fs[i]? = some f := by simpa using hi
          have hg := hfld i f hi'
          have hlt : i < xs.length := by
            rw [hxs]; exact (Array.getElem?_eq_some_iff.1 hi').1
          rw [List.getElem?_eq_getElem hlt] at hg
          have hfL : f.type ∈ L := by
            have := List.all_eq_true.1 hfs f hf
            simpa using this
          exact trod_data hc n f.type _ _ hfL hg
        refine ⟨ds, by simp only [WT, hu]; exact h1, ?_⟩
        rw [List.drop_zero] at h2
        exact h2
      | _ => cases hcl
end
end Go.Ab

namespace Go.Ab
open Go.ChangeShapes Go.WideShapes Go.ChangeAt Go.RowKit
section
variable {H : Type} {enc : TypeId × Value → H} {P : Program} {W W' : World} {L : List TypeId} {t : TypeId} {v : Value} {base : Nat}
theorem arg_cell {d : D} (hv : v.cells.toList = [v]) (hL : RepL W [d] v.cells.toList) : RepV W (allFast W) [] [] (.c (.d d)) v := by
  obtain ⟨u, h1, h2, h3⟩ := hL.2 0 d rfl
  rw [hv] at h1
  cases h1
  exact ⟨h2, h3⟩
theorem arg_slice {e : TypeId} {d : D} (ht : P.underlying t = some (.slice e)) (hok : Value.okWide P W .any base t v) (hL : RepL W [d] v.cells.toList) : RepV W (allFast W) [] [] (.c (.d d)) v := by
  obtain ⟨a, n, m, rfl⟩ := okWide_slice ht hok
  exact arg_cell rfl hL
theorem repVs_nil : RepVs W (allFast W) [] [] [] [] := ⟨rfl, fun j x h => by simp at h⟩
theorem repVs_cons {x : V} {xs : List V} {vs : List Value} (h1 : RepV W (allFast W) [] [] x v) (h2 : RepVs W (allFast W) [] [] xs vs) : RepVs W (allFast W) [] [] (x :: xs) (v :: vs) := by
  refine ⟨by simp [h2.1], fun j y hj => ?_⟩
  cases j with
  | zero => cases hj; exact ⟨v, rfl, h1⟩
  | succ j => exact h2.2 j y hj
theorem repS_nil (W : World) (hg : Glob W (allFast W)) : RepS W (allFast W) [] [] where
  glob := hg
  obj := fun k o h => by rw [getO_nil] at h; cases h
  apart := fun k k' o o' h h' b h1 => by rw [getO_nil] at h1; cases h1
  shape := ⟨rfl, fun l fr h => by simp at h⟩
  live := fun b => by
    by_cases h : b < W.heap.size
    · exact .inl h
    · right
      unfold allFast
      rw [Array.getElem?_eq_none (by omega)]
theorem no_own {b : Nat} : ¬ Own [] [] b := fun ⟨k, o, h, h1, _⟩ => by rw [getO_nil] at h1; cases h1
theorem trodAll_stays (hl : laidOutB P = true) (hsame : ∀ b, b < W.heap.size → W'.heap[b]? = W.heap[b]?) (sp : Nat → Bool) : ∀ (ts : List TypeId) (vs : List Value) (ds : List (DataW H)) (ps : List MemPlace),
    (ts.all fun t => P.readableRec t && decide (t < P.types.size)) = true → (∀ p ∈ ps, p.block < W.heap.size ∧ sp p.block = true) →
      DataW.TrodAll enc P W 0 (fun _ => true) true ts vs ds ps → DataW.TrodAll enc P W' 0 sp true ts vs ds ps
  | [], [], [], ps, _, _, h => h
  | t :: ts, v :: vs, d :: ds, ps, hr, hlt, h => by
    simp only [List.all_cons, Bool.and_eq_true, decide_eq_true_eq] at hr
    obtain ⟨p, q, h1, h2, rfl⟩ := h
    refine ⟨p, q, WideElems.Trod_stays hl hr.1.1 hr.1.2 h1 (fun x hx => ?_) (fun x hx => (hlt x (by simp [hx])).2), trodAll_stays hl hsame sp ts vs ds q hr.2 (fun x hx => hlt x (by simp [hx])) h2, rfl⟩
    have hb := (hlt x (by simp [hx])).1
    cases x with
    | cell b o => exact World.cell?_of_block (w := W) (hsame b hb)
    | map b => exact hsame b hb
  | [], [], _ :: _, ps, _, _, h => h.elim
  | [], _ :: _, _, ps, _, _, h => h.elim
  | _ :: _, [], _, ps, _, _, h => h.elim
  | _ :: _, _ :: _, [], ps, _, _, h => h.elim
theorem law_post {f : FuncId} {fn : Func} {s : ChangeSpec} {args : Array Value} {ds gs : List (DataW H)} {before : List MemPlace} {vs : List V} {tb : TypeId} (hl : laidOutB P = true)
    (hr : (fn.params.toList.all fun t => P.readableRec t && decide (t < P.types.size)) = true) (hvars : s.vars = []) (hres : fn.resultTypes = #[tb]) (htb : P.underlying tb = some .bool)
    (hs1 : (s.fn H (ds ++ gs)).results = [.lit (.bool true)]) (hs2 : (s.fn H (ds ++ gs)).args = ds) (hs3 : (s.fn H (ds ++ gs)).vars = [])
    (hW : DataW.Whole enc P fn.params.toList s.vars false W args.toList ds gs before) (hargs : RepVs W (allFast W) [] [] vs args.toList)
    (hcall : ACall P f vs [] fun r _ => r = .c (.d (.b true))) (hglob : Glob W (allFast W) := by (intro g p hm; exact absurd hm List.not_mem_nil)) :
    Calls P f args W fun e W' => ∃ v, e = .returned v ∧ s.post enc P fn false true false false W args v W' := by
  have hc := hcall.2 W (allFast W) [] args.toList (repS_nil W hglob) hargs
  have e1 : args.toList.toArray = args := by simp
  rw [e1] at hc
  refine hc.mono fun e W' ⟨v, r, S', σ', β', he, hS', hk, hst, hv, hp⟩ => ?_
  subst hp
  obtain ⟨hv, _⟩ := hv
  cases hv
  refine ⟨_, he, ?_⟩
  have hsame : ∀ b, b < W.heap.size → W'.heap[b]? = W.heap[b]? := fun b hb => (hst.far b hb no_own).1
  have hlt := fun p hp => hW.lt p hp
  have hW0 := hW
  obtain ⟨pa, q, hA, hV, rfl, hz, hn⟩ := hW
  rw [hvars] at hV
  have hq : gs = [] ∧ q = [] := by
    obtain ⟨h1, h2⟩ := trodVars_none hV
    exact ⟨h1, h2⟩
  obtain ⟨rfl, rfl⟩ := hq
  rw [List.append_nil] at *
  refine ⟨ds, [], pa, [], pa, [], ?_, ?_, ?_, ?_, ?_, fun h => by cases h⟩
  · simpa using hW0
  · rw [List.append_nil, hs1, hres]
    exact trodAll_cons_mk (shut_bool htb _) trodAll_mk0
  · rw [List.append_nil, hs2]
    exact trodAll_stays hl hsame _ _ _ _ _ hr (fun p hp => ⟨hlt p hp, by simpa using hlt p hp⟩) hA
  · rw [List.append_nil, hs3, hvars]
    rfl
  · refine ⟨hst.os, hst.output, fun i hi => ?_⟩
    rw [hsame i hi]
    split <;> simp_all
end
end Go.Ab

namespace Go.Ab
mutual
def D.sz : D → Nat
  | .s l => l.length
  | .sl es => es.length + szRows es
  | .b _ => 0
  | .i _ _ => 0
  | .o _ => 0
  | .ol _ es => es.length + szRows es
def szRow : List D → Nat
  | [] => 0
  | d :: ds => d.sz + szRow ds
def szRows : List (List D) → Nat
  | [] => 0
  | r :: rs => szRow r + szRows rs
end
theorem szRow_append : ∀ (a b : List D), szRow (a ++ b) = szRow a + szRow b
  | [], b => by simp [szRow]
  | d :: ds, b => by rw [List.cons_append, szRow, szRow_append ds b, szRow]; omega
def sub1 (left : Int) (n : Nat) : Int := if left - n < 0 then -1 else left - n
theorem sub1_nn {l : Int} {a : Nat} (h : ¬ sub1 l a < 0) : sub1 l a = l - a ∧ 0 ≤ l - a := by
  unfold sub1 at *
  split at h
  · omega
  · rename_i h'; exact ⟨if_neg h', by omega⟩
theorem sub1_neg {l : Int} {a : Nat} (h : sub1 l a < 0) : l - a < 0 := by
  unfold sub1 at *
  split at h <;> omega
theorem sub1_no {l : Int} {a : Nat} (h : l - a < 0) : sub1 l a = -1 := if_pos h
theorem sub1_yes {l : Int} {a : Nat} (h : 0 ≤ l - a) : sub1 l a = l - a := if_neg (by omega)
theorem int_eq {k : IntKind} {a b : Int} (h : a = b) : V.c (.d (.i k a)) = V.c (.d (.i k b)) := by rw [h]
theorem bool_eq {a b : Bool} (h : a = b) : V.c (.d (.b a)) = V.c (.d (.b b)) := by rw [h]
noncomputable def dec (p : Prop) : Bool := @decide p (Classical.propDecidable p)
theorem dec_true {p : Prop} (h : p) : dec p = true := by simp [dec, h]
theorem dec_false {p : Prop} (h : ¬ p) : dec p = false := by simp [dec, h]
theorem of_dec {p : Prop} (h : dec p = true) : p := by simpa [dec] using h
theorem dec_eq_true {p : Prop} : (dec p = true) = p := by simp [dec]
theorem dec_eq_false {p : Prop} : (dec p = false) = ¬ p := by simp [dec]
attribute [wf_preprocess] dec_eq_true dec_eq_false
theorem dec_congr {p q : Prop} (h : p ↔ q) : dec p = dec q := by rw [propext h]
theorem dec_True : dec True = true := dec_true trivial
theorem dec_False : dec False = false := dec_false id
attribute [go_sem] dec_True dec_False
theorem decide_dec {p : Prop} [Decidable p] : decide p = dec p := by by_cases h : p <;> simp [dec, h]
theorem szRows_mem {r : List D} : ∀ {rs : List (List D)}, r ∈ rs → szRow r ≤ szRows rs
  | a :: rs, h => by
    rw [szRows]
    rcases List.mem_cons.1 h with rfl | h
    · omega
    · have := szRows_mem h; omega
def Filled (z i : Nat) (R rows : List (List D)) : Prop := R.length = rows.length ∧ (∀ r ∈ R, r.length = z) ∧ ∀ j, j < i → R[j]? = rows[j]?
theorem Filled.step {z i : Nat} {R rows : List (List D)} {row : List D} (h : Filled z i R rows) (hi : rows[i]? = some row) (hr : row.length = z) : Filled z (i + 1) (R.set i (spliceD (R.getD i []) 0 row)) rows := by
  obtain ⟨h1, h2, h3⟩ := h
  have hlt : i < rows.length := (List.getElem?_eq_some_iff.1 hi).1
  have hs : spliceD (R.getD i []) 0 row = row := by
    have hm : R.getD i [] ∈ R := by
      rw [List.getD_eq_getElem?_getD, List.getElem?_eq_getElem (by omega)]
      exact List.getElem_mem _
    have := h2 _ hm
    unfold spliceD
    rw [List.take_zero, List.nil_append, Nat.zero_add, hr, List.drop_eq_nil_of_le (by omega), List.append_nil]
  rw [hs]
  refine ⟨by simpa using h1, fun r hr' => ?_, fun j hj => ?_⟩
  · rcases List.mem_or_eq_of_mem_set hr' with h | h
    · exact h2 r h
    · rw [h]; exact hr
  · by_cases e : j = i
    · subst e
      rw [hi, List.getElem?_set_self (by omega)]
    · rw [List.getElem?_set_ne (by omega)]
      exact h3 j (by omega)
theorem Filled.done {z i : Nat} {R rows : List (List D)} (h : Filled z i R rows) (hi : rows.length ≤ i) : R = rows := by
  obtain ⟨h1, h2, h3⟩ := h
  refine List.ext_getElem? fun j => ?_
  by_cases hj : j < i
  · exact h3 j hj
  · rw [List.getElem?_eq_none (by omega), List.getElem?_eq_none (by omega)]
end Go.Ab

namespace Go.Ab
def encS (s : List UInt8) : List D := [.s s]
def encI (n : Int) : List D := [.i .i64 n]
inductive MType where
  | mk (fKind : Int) (fName : List UInt8) (fArgs : List MType)
def MType.fKind : MType → Int | .mk x _ _ => x
def MType.fName : MType → List UInt8 | .mk _ x _ => x
def MType.fArgs : MType → List MType | .mk _ _ x => x
theorem MType.eta (x : MType) : MType.mk x.fKind x.fName x.fArgs = x := by cases x; rfl
theorem MType.ext {x y : MType} (h0 : x.fKind = y.fKind) (h1 : x.fName = y.fName) (h2 : x.fArgs = y.fArgs) : x = y := by
  rw [← MType.eta x, ← MType.eta y, h0, h1, h2]
mutual
def MType.enc : MType → List D
  | .mk a0 a1 a2 => [.i .i64 a0, .s a1, .sl (MType.encs a2)]
def MType.encs : List MType → List (List D)
  | [] => []
  | x :: xs => x.enc :: MType.encs xs
end
theorem MType.encs_map : ∀ l, MType.encs l = l.map MType.enc
  | [] => rfl
  | x :: xs => by rw [MType.encs, List.map_cons, MType.encs_map xs]
theorem MType.enc_eq (x : MType) : x.enc = [.i .i64 x.fKind, .s x.fName, .sl (x.fArgs.map MType.enc)] := by
  cases x; simp only [MType.enc, MType.encs_map, MType.fKind, MType.fName, MType.fArgs]
abbrev MType.v (x : MType) : V := .agg [.d (.i .i64 x.fKind), .d (.s x.fName), .d (.sl (x.fArgs.map MType.enc))]
theorem MType.v_eq (x : MType) : .agg (x.enc.map .d) = x.v := by
  simp only [MType.enc_eq, List.map_cons, List.map_nil, List.cons_append, List.nil_append, List.map_append]
theorem MType.enc_length (x : MType) : x.enc.length = 3 := by
  simp only [MType.enc_eq, List.length_append, List.length_cons, List.length_nil]
def MType.sz (x : MType) : Nat := szRow x.enc
theorem MType.sz_def (x : MType) : szRow x.enc = x.sz := rfl
theorem MType.lt_Args (x : MType) : SizeOf.sizeOf x.fArgs < SizeOf.sizeOf x := by cases x; simp [MType.fArgs]; omega
structure MBinding where
  fVar : List UInt8
  fType : MType
def MBinding.enc (x : MBinding) : List D := [.s x.fVar] ++ (x.fType.enc)
theorem MBinding.enc_eq (x : MBinding) : x.enc = [.s x.fVar] ++ (x.fType.enc) := rfl
theorem MBinding.eta (x : MBinding) : MBinding.mk x.fVar x.fType = x := rfl
theorem MBinding.ext' {x y : MBinding} (h0 : x.fVar = y.fVar) (h1 : x.fType = y.fType) : x = y := by
  cases x; cases y; simp_all
abbrev MBinding.v (x : MBinding) : V := .agg [.d (.s x.fVar), .d (.i .i64 x.fType.fKind), .d (.s x.fType.fName), .d (.sl (x.fType.fArgs.map MType.enc))]
theorem MBinding.v_eq (x : MBinding) : .agg (x.enc.map .d) = x.v := by
  simp only [MBinding.enc_eq, MType.enc_eq, List.map_cons, List.map_nil, List.cons_append, List.nil_append, List.map_append]
theorem MBinding.enc_length (x : MBinding) : x.enc.length = 4 := by
  simp only [MBinding.enc_eq, MType.enc_length, List.length_append, List.length_cons, List.length_nil]
def MBinding.sz (x : MBinding) : Nat := szRow x.enc
theorem MBinding.sz_def (x : MBinding) : szRow x.enc = x.sz := rfl
structure MBound where
  fTrait : List UInt8
  fType : MType
def MBound.enc (x : MBound) : List D := [.s x.fTrait] ++ (x.fType.enc)
theorem MBound.enc_eq (x : MBound) : x.enc = [.s x.fTrait] ++ (x.fType.enc) := rfl
theorem MBound.eta (x : MBound) : MBound.mk x.fTrait x.fType = x := rfl
theorem MBound.ext' {x y : MBound} (h0 : x.fTrait = y.fTrait) (h1 : x.fType = y.fType) : x = y := by
  cases x; cases y; simp_all
abbrev MBound.v (x : MBound) : V := .agg [.d (.s x.fTrait), .d (.i .i64 x.fType.fKind), .d (.s x.fType.fName), .d (.sl (x.fType.fArgs.map MType.enc))]
theorem MBound.v_eq (x : MBound) : .agg (x.enc.map .d) = x.v := by
  simp only [MBound.enc_eq, MType.enc_eq, List.map_cons, List.map_nil, List.cons_append, List.nil_append, List.map_append]
theorem MBound.enc_length (x : MBound) : x.enc.length = 4 := by
  simp only [MBound.enc_eq, MType.enc_length, List.length_append, List.length_cons, List.length_nil]
def MBound.sz (x : MBound) : Nat := szRow x.enc
theorem MBound.sz_def (x : MBound) : szRow x.enc = x.sz := rfl
mutual
inductive MExpr where
  | mk (fKind : Int) (fTrait : List UInt8) (fName : List UInt8) (fN : Int) (fType : MType) (fArgs : List MExpr) (fArms : List MArm)
inductive MArm where
  | mk (fConstructor : List UInt8) (fVars : List (List UInt8)) (fBody : MExpr)
end
def MExpr.fKind : MExpr → Int | .mk x _ _ _ _ _ _ => x
def MExpr.fTrait : MExpr → List UInt8 | .mk _ x _ _ _ _ _ => x
def MExpr.fName : MExpr → List UInt8 | .mk _ _ x _ _ _ _ => x
def MExpr.fN : MExpr → Int | .mk _ _ _ x _ _ _ => x
def MExpr.fType : MExpr → MType | .mk _ _ _ _ x _ _ => x
def MExpr.fArgs : MExpr → List MExpr | .mk _ _ _ _ _ x _ => x
def MExpr.fArms : MExpr → List MArm | .mk _ _ _ _ _ _ x => x
theorem MExpr.eta (x : MExpr) : MExpr.mk x.fKind x.fTrait x.fName x.fN x.fType x.fArgs x.fArms = x := by cases x; rfl
theorem MExpr.ext {x y : MExpr} (h0 : x.fKind = y.fKind) (h1 : x.fTrait = y.fTrait) (h2 : x.fName = y.fName) (h3 : x.fN = y.fN) (h4 : x.fType = y.fType) (h5 : x.fArgs = y.fArgs) (h6 : x.fArms = y.fArms) : x = y := by
  rw [← MExpr.eta x, ← MExpr.eta y, h0, h1, h2, h3, h4, h5, h6]
def MArm.fConstructor : MArm → List UInt8 | .mk x _ _ => x
def MArm.fVars : MArm → List (List UInt8) | .mk _ x _ => x
def MArm.fBody : MArm → MExpr | .mk _ _ x => x
theorem MArm.eta (x : MArm) : MArm.mk x.fConstructor x.fVars x.fBody = x := by cases x; rfl
theorem MArm.ext {x y : MArm} (h0 : x.fConstructor = y.fConstructor) (h1 : x.fVars = y.fVars) (h2 : x.fBody = y.fBody) : x = y := by
  rw [← MArm.eta x, ← MArm.eta y, h0, h1, h2]
mutual
def MExpr.enc : MExpr → List D
  | .mk a0 a1 a2 a3 a4 a5 a6 => [.i .i64 a0, .s a1, .s a2, .i .i64 a3] ++ (a4.enc ++ ([.sl (MExpr.encs a5), .sl (MArm.encs a6)]))
def MExpr.encs : List MExpr → List (List D)
  | [] => []
  | x :: xs => x.enc :: MExpr.encs xs
def MArm.enc : MArm → List D
  | .mk a0 a1 a2 => [.s a0, .sl (a1.map encS)] ++ (MExpr.enc a2)
def MArm.encs : List MArm → List (List D)
  | [] => []
  | x :: xs => x.enc :: MArm.encs xs
end
theorem MExpr.encs_map : ∀ l, MExpr.encs l = l.map MExpr.enc
  | [] => rfl
  | x :: xs => by rw [MExpr.encs, List.map_cons, MExpr.encs_map xs]
theorem MArm.encs_map : ∀ l, MArm.encs l = l.map MArm.enc
  | [] => rfl
  | x :: xs => by rw [MArm.encs, List.map_cons, MArm.encs_map xs]
theorem MExpr.enc_eq (x : MExpr) : x.enc = [.i .i64 x.fKind, .s x.fTrait, .s x.fName, .i .i64 x.fN] ++ (x.fType.enc ++ ([.sl (x.fArgs.map MExpr.enc), .sl (x.fArms.map MArm.enc)])) := by
  cases x; simp only [MExpr.enc, MExpr.encs_map, MArm.encs_map, MExpr.fKind, MExpr.fTrait, MExpr.fName, MExpr.fN, MExpr.fType, MExpr.fArgs, MExpr.fArms]
theorem MArm.enc_eq (x : MArm) : x.enc = [.s x.fConstructor, .sl (x.fVars.map encS)] ++ (x.fBody.enc) := by
  cases x; simp only [MArm.enc, MExpr.encs_map, MArm.encs_map, MArm.fConstructor, MArm.fVars, MArm.fBody]
abbrev MExpr.v (x : MExpr) : V := .agg [.d (.i .i64 x.fKind), .d (.s x.fTrait), .d (.s x.fName), .d (.i .i64 x.fN), .d (.i .i64 x.fType.fKind), .d (.s x.fType.fName), .d (.sl (x.fType.fArgs.map MType.enc)), .d (.sl (x.fArgs.map MExpr.enc)), .d (.sl (x.fArms.map MArm.enc))]
theorem MExpr.v_eq (x : MExpr) : .agg (x.enc.map .d) = x.v := by
  simp only [MExpr.enc_eq, MType.enc_eq, List.map_cons, List.map_nil, List.cons_append, List.nil_append, List.map_append]
theorem MExpr.enc_length (x : MExpr) : x.enc.length = 9 := by
  simp only [MExpr.enc_eq, MType.enc_length, List.length_append, List.length_cons, List.length_nil]
def MExpr.sz (x : MExpr) : Nat := szRow x.enc
theorem MExpr.sz_def (x : MExpr) : szRow x.enc = x.sz := rfl
theorem MExpr.lt_Args (x : MExpr) : SizeOf.sizeOf x.fArgs < SizeOf.sizeOf x := by cases x; simp [MExpr.fArgs]; omega
abbrev MArm.v (x : MArm) : V := .agg [.d (.s x.fConstructor), .d (.sl (x.fVars.map encS)), .d (.i .i64 x.fBody.fKind), .d (.s x.fBody.fTrait), .d (.s x.fBody.fName), .d (.i .i64 x.fBody.fN), .d (.i .i64 x.fBody.fType.fKind), .d (.s x.fBody.fType.fName), .d (.sl (x.fBody.fType.fArgs.map MType.enc)), .d (.sl (x.fBody.fArgs.map MExpr.enc)), .d (.sl (x.fBody.fArms.map MArm.enc))]
theorem MArm.v_eq (x : MArm) : .agg (x.enc.map .d) = x.v := by
  simp only [MArm.enc_eq, MExpr.enc_eq, MType.enc_eq, List.map_cons, List.map_nil, List.cons_append, List.nil_append, List.map_append]
theorem MArm.enc_length (x : MArm) : x.enc.length = 11 := by
  simp only [MArm.enc_eq, MExpr.enc_length, List.length_append, List.length_cons, List.length_nil]
def MArm.sz (x : MArm) : Nat := szRow x.enc
theorem MArm.sz_def (x : MArm) : szRow x.enc = x.sz := rfl
inductive MSExpr where
  | mk (fAtom : List UInt8) (fList : List MSExpr)
def MSExpr.fAtom : MSExpr → List UInt8 | .mk x _ => x
def MSExpr.fList : MSExpr → List MSExpr | .mk _ x => x
theorem MSExpr.eta (x : MSExpr) : MSExpr.mk x.fAtom x.fList = x := by cases x; rfl
theorem MSExpr.ext {x y : MSExpr} (h0 : x.fAtom = y.fAtom) (h1 : x.fList = y.fList) : x = y := by
  rw [← MSExpr.eta x, ← MSExpr.eta y, h0, h1]
mutual
def MSExpr.enc : MSExpr → List D
  | .mk a0 a1 => [.s a0, .sl (MSExpr.encs a1)]
def MSExpr.encs : List MSExpr → List (List D)
  | [] => []
  | x :: xs => x.enc :: MSExpr.encs xs
end
theorem MSExpr.encs_map : ∀ l, MSExpr.encs l = l.map MSExpr.enc
  | [] => rfl
  | x :: xs => by rw [MSExpr.encs, List.map_cons, MSExpr.encs_map xs]
theorem MSExpr.enc_eq (x : MSExpr) : x.enc = [.s x.fAtom, .sl (x.fList.map MSExpr.enc)] := by
  cases x; simp only [MSExpr.enc, MSExpr.encs_map, MSExpr.fAtom, MSExpr.fList]
abbrev MSExpr.v (x : MSExpr) : V := .agg [.d (.s x.fAtom), .d (.sl (x.fList.map MSExpr.enc))]
theorem MSExpr.v_eq (x : MSExpr) : .agg (x.enc.map .d) = x.v := by
  simp only [MSExpr.enc_eq, List.map_cons, List.map_nil, List.cons_append, List.nil_append, List.map_append]
theorem MSExpr.enc_length (x : MSExpr) : x.enc.length = 2 := by
  simp only [MSExpr.enc_eq, List.length_append, List.length_cons, List.length_nil]
def MSExpr.sz (x : MSExpr) : Nat := szRow x.enc
theorem MSExpr.sz_def (x : MSExpr) : szRow x.enc = x.sz := rfl
theorem MSExpr.lt_List (x : MSExpr) : SizeOf.sizeOf x.fList < SizeOf.sizeOf x := by cases x; simp [MSExpr.fList]; omega
structure MSignature where
  fName : List UInt8
  fParams : List MType
  fResult : MType
  fHasDefault : Bool
  fVars : List (List UInt8)
  fBody : MExpr
def MSignature.enc (x : MSignature) : List D := [.s x.fName, .sl (x.fParams.map MType.enc)] ++ (x.fResult.enc ++ ([.b x.fHasDefault, .sl (x.fVars.map encS)] ++ (x.fBody.enc)))
theorem MSignature.enc_eq (x : MSignature) : x.enc = [.s x.fName, .sl (x.fParams.map MType.enc)] ++ (x.fResult.enc ++ ([.b x.fHasDefault, .sl (x.fVars.map encS)] ++ (x.fBody.enc))) := rfl
theorem MSignature.eta (x : MSignature) : MSignature.mk x.fName x.fParams x.fResult x.fHasDefault x.fVars x.fBody = x := rfl
theorem MSignature.ext' {x y : MSignature} (h0 : x.fName = y.fName) (h1 : x.fParams = y.fParams) (h2 : x.fResult = y.fResult) (h3 : x.fHasDefault = y.fHasDefault) (h4 : x.fVars = y.fVars) (h5 : x.fBody = y.fBody) : x = y := by
  cases x; cases y; simp_all
abbrev MSignature.v (x : MSignature) : V := .agg [.d (.s x.fName), .d (.sl (x.fParams.map MType.enc)), .d (.i .i64 x.fResult.fKind), .d (.s x.fResult.fName), .d (.sl (x.fResult.fArgs.map MType.enc)), .d (.b x.fHasDefault), .d (.sl (x.fVars.map encS)), .d (.i .i64 x.fBody.fKind), .d (.s x.fBody.fTrait), .d (.s x.fBody.fName), .d (.i .i64 x.fBody.fN), .d (.i .i64 x.fBody.fType.fKind), .d (.s x.fBody.fType.fName), .d (.sl (x.fBody.fType.fArgs.map MType.enc)), .d (.sl (x.fBody.fArgs.map MExpr.enc)), .d (.sl (x.fBody.fArms.map MArm.enc))]
theorem MSignature.v_eq (x : MSignature) : .agg (x.enc.map .d) = x.v := by
  simp only [MSignature.enc_eq, MExpr.enc_eq, MType.enc_eq, List.map_cons, List.map_nil, List.cons_append, List.nil_append, List.map_append]
theorem MSignature.enc_length (x : MSignature) : x.enc.length = 16 := by
  simp only [MSignature.enc_eq, MExpr.enc_length, MType.enc_length, List.length_append, List.length_cons, List.length_nil]
def MSignature.sz (x : MSignature) : Nat := szRow x.enc
theorem MSignature.sz_def (x : MSignature) : szRow x.enc = x.sz := rfl
structure MTrait where
  fName : List UInt8
  fSupertraits : List (List UInt8)
  fAuto : Bool
  fAssoc : Bool
  fSignatures : List MSignature
def MTrait.enc (x : MTrait) : List D := [.s x.fName, .sl (x.fSupertraits.map encS), .b x.fAuto, .b x.fAssoc, .sl (x.fSignatures.map MSignature.enc)]
theorem MTrait.enc_eq (x : MTrait) : x.enc = [.s x.fName, .sl (x.fSupertraits.map encS), .b x.fAuto, .b x.fAssoc, .sl (x.fSignatures.map MSignature.enc)] := rfl
theorem MTrait.eta (x : MTrait) : MTrait.mk x.fName x.fSupertraits x.fAuto x.fAssoc x.fSignatures = x := rfl
theorem MTrait.ext' {x y : MTrait} (h0 : x.fName = y.fName) (h1 : x.fSupertraits = y.fSupertraits) (h2 : x.fAuto = y.fAuto) (h3 : x.fAssoc = y.fAssoc) (h4 : x.fSignatures = y.fSignatures) : x = y := by
  cases x; cases y; simp_all
abbrev MTrait.v (x : MTrait) : V := .agg [.d (.s x.fName), .d (.sl (x.fSupertraits.map encS)), .d (.b x.fAuto), .d (.b x.fAssoc), .d (.sl (x.fSignatures.map MSignature.enc))]
theorem MTrait.v_eq (x : MTrait) : .agg (x.enc.map .d) = x.v := by
  simp only [MTrait.enc_eq, List.map_cons, List.map_nil, List.cons_append, List.nil_append, List.map_append]
theorem MTrait.enc_length (x : MTrait) : x.enc.length = 5 := by
  simp only [MTrait.enc_eq, List.length_append, List.length_cons, List.length_nil]
def MTrait.sz (x : MTrait) : Nat := szRow x.enc
theorem MTrait.sz_def (x : MTrait) : szRow x.enc = x.sz := rfl
structure MConstructor where
  fName : List UInt8
  fFields : List MType
def MConstructor.enc (x : MConstructor) : List D := [.s x.fName, .sl (x.fFields.map MType.enc)]
theorem MConstructor.enc_eq (x : MConstructor) : x.enc = [.s x.fName, .sl (x.fFields.map MType.enc)] := rfl
theorem MConstructor.eta (x : MConstructor) : MConstructor.mk x.fName x.fFields = x := rfl
theorem MConstructor.ext' {x y : MConstructor} (h0 : x.fName = y.fName) (h1 : x.fFields = y.fFields) : x = y := by
  cases x; cases y; simp_all
abbrev MConstructor.v (x : MConstructor) : V := .agg [.d (.s x.fName), .d (.sl (x.fFields.map MType.enc))]
theorem MConstructor.v_eq (x : MConstructor) : .agg (x.enc.map .d) = x.v := by
  simp only [MConstructor.enc_eq, List.map_cons, List.map_nil, List.cons_append, List.nil_append, List.map_append]
theorem MConstructor.enc_length (x : MConstructor) : x.enc.length = 2 := by
  simp only [MConstructor.enc_eq, List.length_append, List.length_cons, List.length_nil]
def MConstructor.sz (x : MConstructor) : Nat := szRow x.enc
theorem MConstructor.sz_def (x : MConstructor) : szRow x.enc = x.sz := rfl
structure MDataType where
  fName : List UInt8
  fVars : List (List UInt8)
  fConstructors : List MConstructor
def MDataType.enc (x : MDataType) : List D := [.s x.fName, .sl (x.fVars.map encS), .sl (x.fConstructors.map MConstructor.enc)]
theorem MDataType.enc_eq (x : MDataType) : x.enc = [.s x.fName, .sl (x.fVars.map encS), .sl (x.fConstructors.map MConstructor.enc)] := rfl
theorem MDataType.eta (x : MDataType) : MDataType.mk x.fName x.fVars x.fConstructors = x := rfl
theorem MDataType.ext' {x y : MDataType} (h0 : x.fName = y.fName) (h1 : x.fVars = y.fVars) (h2 : x.fConstructors = y.fConstructors) : x = y := by
  cases x; cases y; simp_all
abbrev MDataType.v (x : MDataType) : V := .agg [.d (.s x.fName), .d (.sl (x.fVars.map encS)), .d (.sl (x.fConstructors.map MConstructor.enc))]
theorem MDataType.v_eq (x : MDataType) : .agg (x.enc.map .d) = x.v := by
  simp only [MDataType.enc_eq, List.map_cons, List.map_nil, List.cons_append, List.nil_append, List.map_append]
theorem MDataType.enc_length (x : MDataType) : x.enc.length = 3 := by
  simp only [MDataType.enc_eq, List.length_append, List.length_cons, List.length_nil]
def MDataType.sz (x : MDataType) : Nat := szRow x.enc
theorem MDataType.sz_def (x : MDataType) : szRow x.enc = x.sz := rfl
structure MMethod where
  fName : List UInt8
  fVars : List (List UInt8)
  fBody : MExpr
def MMethod.enc (x : MMethod) : List D := [.s x.fName, .sl (x.fVars.map encS)] ++ (x.fBody.enc)
theorem MMethod.enc_eq (x : MMethod) : x.enc = [.s x.fName, .sl (x.fVars.map encS)] ++ (x.fBody.enc) := rfl
theorem MMethod.eta (x : MMethod) : MMethod.mk x.fName x.fVars x.fBody = x := rfl
theorem MMethod.ext' {x y : MMethod} (h0 : x.fName = y.fName) (h1 : x.fVars = y.fVars) (h2 : x.fBody = y.fBody) : x = y := by
  cases x; cases y; simp_all
abbrev MMethod.v (x : MMethod) : V := .agg [.d (.s x.fName), .d (.sl (x.fVars.map encS)), .d (.i .i64 x.fBody.fKind), .d (.s x.fBody.fTrait), .d (.s x.fBody.fName), .d (.i .i64 x.fBody.fN), .d (.i .i64 x.fBody.fType.fKind), .d (.s x.fBody.fType.fName), .d (.sl (x.fBody.fType.fArgs.map MType.enc)), .d (.sl (x.fBody.fArgs.map MExpr.enc)), .d (.sl (x.fBody.fArms.map MArm.enc))]
theorem MMethod.v_eq (x : MMethod) : .agg (x.enc.map .d) = x.v := by
  simp only [MMethod.enc_eq, MExpr.enc_eq, MType.enc_eq, List.map_cons, List.map_nil, List.cons_append, List.nil_append, List.map_append]
theorem MMethod.enc_length (x : MMethod) : x.enc.length = 11 := by
  simp only [MMethod.enc_eq, MExpr.enc_length, List.length_append, List.length_cons, List.length_nil]
def MMethod.sz (x : MMethod) : Nat := szRow x.enc
theorem MMethod.sz_def (x : MMethod) : szRow x.enc = x.sz := rfl
structure MInstance where
  fTrait : List UInt8
  fVars : List (List UInt8)
  fHead : MType
  fWhere : List MBound
  fDefault : Bool
  fHasAssoc : Bool
  fAssoc : MType
  fMethods : List MMethod
def MInstance.enc (x : MInstance) : List D := [.s x.fTrait, .sl (x.fVars.map encS)] ++ (x.fHead.enc ++ ([.sl (x.fWhere.map MBound.enc), .b x.fDefault, .b x.fHasAssoc] ++ (x.fAssoc.enc ++ ([.sl (x.fMethods.map MMethod.enc)]))))
theorem MInstance.enc_eq (x : MInstance) : x.enc = [.s x.fTrait, .sl (x.fVars.map encS)] ++ (x.fHead.enc ++ ([.sl (x.fWhere.map MBound.enc), .b x.fDefault, .b x.fHasAssoc] ++ (x.fAssoc.enc ++ ([.sl (x.fMethods.map MMethod.enc)])))) := rfl
theorem MInstance.eta (x : MInstance) : MInstance.mk x.fTrait x.fVars x.fHead x.fWhere x.fDefault x.fHasAssoc x.fAssoc x.fMethods = x := rfl
theorem MInstance.ext' {x y : MInstance} (h0 : x.fTrait = y.fTrait) (h1 : x.fVars = y.fVars) (h2 : x.fHead = y.fHead) (h3 : x.fWhere = y.fWhere) (h4 : x.fDefault = y.fDefault) (h5 : x.fHasAssoc = y.fHasAssoc) (h6 : x.fAssoc = y.fAssoc) (h7 : x.fMethods = y.fMethods) : x = y := by
  cases x; cases y; simp_all
abbrev MInstance.v (x : MInstance) : V := .agg [.d (.s x.fTrait), .d (.sl (x.fVars.map encS)), .d (.i .i64 x.fHead.fKind), .d (.s x.fHead.fName), .d (.sl (x.fHead.fArgs.map MType.enc)), .d (.sl (x.fWhere.map MBound.enc)), .d (.b x.fDefault), .d (.b x.fHasAssoc), .d (.i .i64 x.fAssoc.fKind), .d (.s x.fAssoc.fName), .d (.sl (x.fAssoc.fArgs.map MType.enc)), .d (.sl (x.fMethods.map MMethod.enc))]
theorem MInstance.v_eq (x : MInstance) : .agg (x.enc.map .d) = x.v := by
  simp only [MInstance.enc_eq, MType.enc_eq, List.map_cons, List.map_nil, List.cons_append, List.nil_append, List.map_append]
theorem MInstance.enc_length (x : MInstance) : x.enc.length = 12 := by
  simp only [MInstance.enc_eq, MType.enc_length, List.length_append, List.length_cons, List.length_nil]
def MInstance.sz (x : MInstance) : Nat := szRow x.enc
theorem MInstance.sz_def (x : MInstance) : szRow x.enc = x.sz := rfl
structure MParam where
  fName : List UInt8
  fType : MType
def MParam.enc (x : MParam) : List D := [.s x.fName] ++ (x.fType.enc)
theorem MParam.enc_eq (x : MParam) : x.enc = [.s x.fName] ++ (x.fType.enc) := rfl
theorem MParam.eta (x : MParam) : MParam.mk x.fName x.fType = x := rfl
theorem MParam.ext' {x y : MParam} (h0 : x.fName = y.fName) (h1 : x.fType = y.fType) : x = y := by
  cases x; cases y; simp_all
abbrev MParam.v (x : MParam) : V := .agg [.d (.s x.fName), .d (.i .i64 x.fType.fKind), .d (.s x.fType.fName), .d (.sl (x.fType.fArgs.map MType.enc))]
theorem MParam.v_eq (x : MParam) : .agg (x.enc.map .d) = x.v := by
  simp only [MParam.enc_eq, MType.enc_eq, List.map_cons, List.map_nil, List.cons_append, List.nil_append, List.map_append]
theorem MParam.enc_length (x : MParam) : x.enc.length = 4 := by
  simp only [MParam.enc_eq, MType.enc_length, List.length_append, List.length_cons, List.length_nil]
def MParam.sz (x : MParam) : Nat := szRow x.enc
theorem MParam.sz_def (x : MParam) : szRow x.enc = x.sz := rfl
structure MFunction where
  fName : List UInt8
  fVars : List (List UInt8)
  fWhere : List MBound
  fParams : List MParam
  fResult : MType
  fBody : MExpr
def MFunction.enc (x : MFunction) : List D := [.s x.fName, .sl (x.fVars.map encS), .sl (x.fWhere.map MBound.enc), .sl (x.fParams.map MParam.enc)] ++ (x.fResult.enc ++ (x.fBody.enc))
theorem MFunction.enc_eq (x : MFunction) : x.enc = [.s x.fName, .sl (x.fVars.map encS), .sl (x.fWhere.map MBound.enc), .sl (x.fParams.map MParam.enc)] ++ (x.fResult.enc ++ (x.fBody.enc)) := rfl
theorem MFunction.eta (x : MFunction) : MFunction.mk x.fName x.fVars x.fWhere x.fParams x.fResult x.fBody = x := rfl
theorem MFunction.ext' {x y : MFunction} (h0 : x.fName = y.fName) (h1 : x.fVars = y.fVars) (h2 : x.fWhere = y.fWhere) (h3 : x.fParams = y.fParams) (h4 : x.fResult = y.fResult) (h5 : x.fBody = y.fBody) : x = y := by
  cases x; cases y; simp_all
abbrev MFunction.v (x : MFunction) : V := .agg [.d (.s x.fName), .d (.sl (x.fVars.map encS)), .d (.sl (x.fWhere.map MBound.enc)), .d (.sl (x.fParams.map MParam.enc)), .d (.i .i64 x.fResult.fKind), .d (.s x.fResult.fName), .d (.sl (x.fResult.fArgs.map MType.enc)), .d (.i .i64 x.fBody.fKind), .d (.s x.fBody.fTrait), .d (.s x.fBody.fName), .d (.i .i64 x.fBody.fN), .d (.i .i64 x.fBody.fType.fKind), .d (.s x.fBody.fType.fName), .d (.sl (x.fBody.fType.fArgs.map MType.enc)), .d (.sl (x.fBody.fArgs.map MExpr.enc)), .d (.sl (x.fBody.fArms.map MArm.enc))]
theorem MFunction.v_eq (x : MFunction) : .agg (x.enc.map .d) = x.v := by
  simp only [MFunction.enc_eq, MExpr.enc_eq, MType.enc_eq, List.map_cons, List.map_nil, List.cons_append, List.nil_append, List.map_append]
theorem MFunction.enc_length (x : MFunction) : x.enc.length = 16 := by
  simp only [MFunction.enc_eq, MExpr.enc_length, MType.enc_length, List.length_append, List.length_cons, List.length_nil]
def MFunction.sz (x : MFunction) : Nat := szRow x.enc
theorem MFunction.sz_def (x : MFunction) : szRow x.enc = x.sz := rfl
structure MPackage where
  fName : List UInt8
  fDeps : List (List UInt8)
  fTraits : List MTrait
  fDataTypes : List MDataType
  fInstances : List MInstance
  fFunctions : List MFunction
def MPackage.enc (x : MPackage) : List D := [.s x.fName, .sl (x.fDeps.map encS), .sl (x.fTraits.map MTrait.enc), .sl (x.fDataTypes.map MDataType.enc), .sl (x.fInstances.map MInstance.enc), .sl (x.fFunctions.map MFunction.enc)]
theorem MPackage.enc_eq (x : MPackage) : x.enc = [.s x.fName, .sl (x.fDeps.map encS), .sl (x.fTraits.map MTrait.enc), .sl (x.fDataTypes.map MDataType.enc), .sl (x.fInstances.map MInstance.enc), .sl (x.fFunctions.map MFunction.enc)] := rfl
theorem MPackage.eta (x : MPackage) : MPackage.mk x.fName x.fDeps x.fTraits x.fDataTypes x.fInstances x.fFunctions = x := rfl
theorem MPackage.ext' {x y : MPackage} (h0 : x.fName = y.fName) (h1 : x.fDeps = y.fDeps) (h2 : x.fTraits = y.fTraits) (h3 : x.fDataTypes = y.fDataTypes) (h4 : x.fInstances = y.fInstances) (h5 : x.fFunctions = y.fFunctions) : x = y := by
  cases x; cases y; simp_all
abbrev MPackage.v (x : MPackage) : V := .agg [.d (.s x.fName), .d (.sl (x.fDeps.map encS)), .d (.sl (x.fTraits.map MTrait.enc)), .d (.sl (x.fDataTypes.map MDataType.enc)), .d (.sl (x.fInstances.map MInstance.enc)), .d (.sl (x.fFunctions.map MFunction.enc))]
theorem MPackage.v_eq (x : MPackage) : .agg (x.enc.map .d) = x.v := by
  simp only [MPackage.enc_eq, List.map_cons, List.map_nil, List.cons_append, List.nil_append, List.map_append]
theorem MPackage.enc_length (x : MPackage) : x.enc.length = 6 := by
  simp only [MPackage.enc_eq, List.length_append, List.length_cons, List.length_nil]
def MPackage.sz (x : MPackage) : Nat := szRow x.enc
theorem MPackage.sz_def (x : MPackage) : szRow x.enc = x.sz := rfl
structure MProgram where
  fPackages : List MPackage
def MProgram.enc (x : MProgram) : List D := [.sl (x.fPackages.map MPackage.enc)]
theorem MProgram.enc_eq (x : MProgram) : x.enc = [.sl (x.fPackages.map MPackage.enc)] := rfl
theorem MProgram.eta (x : MProgram) : MProgram.mk x.fPackages = x := rfl
theorem MProgram.ext' {x y : MProgram} (h0 : x.fPackages = y.fPackages) : x = y := by
  cases x; cases y; simp_all
abbrev MProgram.v (x : MProgram) : V := .agg [.d (.sl (x.fPackages.map MPackage.enc))]
theorem MProgram.v_eq (x : MProgram) : .agg (x.enc.map .d) = x.v := by
  simp only [MProgram.enc_eq, List.map_cons, List.map_nil, List.cons_append, List.nil_append, List.map_append]
theorem MProgram.enc_length (x : MProgram) : x.enc.length = 1 := by
  simp only [MProgram.enc_eq, List.length_append, List.length_cons, List.length_nil]
def MProgram.sz (x : MProgram) : Nat := szRow x.enc
theorem MProgram.sz_def (x : MProgram) : szRow x.enc = x.sz := rfl
structure MInstanceRef where
  fPackage : Int
  fAt : Int
def MInstanceRef.enc (x : MInstanceRef) : List D := [.i .i64 x.fPackage, .i .i64 x.fAt]
theorem MInstanceRef.enc_eq (x : MInstanceRef) : x.enc = [.i .i64 x.fPackage, .i .i64 x.fAt] := rfl
theorem MInstanceRef.eta (x : MInstanceRef) : MInstanceRef.mk x.fPackage x.fAt = x := rfl
theorem MInstanceRef.ext' {x y : MInstanceRef} (h0 : x.fPackage = y.fPackage) (h1 : x.fAt = y.fAt) : x = y := by
  cases x; cases y; simp_all
abbrev MInstanceRef.v (x : MInstanceRef) : V := .agg [.d (.i .i64 x.fPackage), .d (.i .i64 x.fAt)]
theorem MInstanceRef.v_eq (x : MInstanceRef) : .agg (x.enc.map .d) = x.v := by
  simp only [MInstanceRef.enc_eq, List.map_cons, List.map_nil, List.cons_append, List.nil_append, List.map_append]
theorem MInstanceRef.enc_length (x : MInstanceRef) : x.enc.length = 2 := by
  simp only [MInstanceRef.enc_eq, List.length_append, List.length_cons, List.length_nil]
def MInstanceRef.sz (x : MInstanceRef) : Nat := szRow x.enc
theorem MInstanceRef.sz_def (x : MInstanceRef) : szRow x.enc = x.sz := rfl
attribute [go_sem] MType.enc_eq MBinding.enc_eq MBound.enc_eq MExpr.enc_eq MArm.enc_eq MSExpr.enc_eq MSignature.enc_eq MTrait.enc_eq MConstructor.enc_eq MDataType.enc_eq MMethod.enc_eq MInstance.enc_eq MParam.enc_eq MFunction.enc_eq MPackage.enc_eq MProgram.enc_eq MInstanceRef.enc_eq encS encI
end Go.Ab

namespace Go.Ab
def lookupB : List MBinding → List UInt8 → Option MType
  | [], _ => none
  | b :: bs, v => if b.fVar = v then some b.fType else lookupB bs v
mutual
noncomputable def matchT (s : List MBinding) : MType → MType → Option (List MBinding)
  | .mk k n a, t =>
    if k = 1 then
      match lookupB s n with
      | some u => if dec (u = t) = true then some s else none
      | none => some (s ++ [⟨n, t⟩])
    else if k = t.fKind ∧ n = t.fName ∧ a.length = t.fArgs.length then matchL s a t.fArgs else none
noncomputable def matchL (s : List MBinding) : List MType → List MType → Option (List MBinding)
  | [], _ => some s
  | _ :: _, [] => none
  | p :: ps, t :: ts =>
    match matchT s p t with
    | some s' => matchL s' ps ts
    | none => none
end
mutual
def MType.cnt : MType → Nat
  | .mk _ _ a => 1 + MType.cnts a
def MType.cnts : List MType → Nat
  | [] => 0
  | t :: ts => t.cnt + MType.cnts ts
end
theorem MType.cnt_eq (t : MType) : t.cnt = 1 + MType.cnts t.fArgs := by cases t; rw [MType.cnt]; rfl
mutual
theorem cnt_le : ∀ t : MType, t.cnt ≤ 1 + t.sz
  | .mk k n a => by
    have h := cnts_le a
    rw [MType.cnt]
    have e : (MType.mk k n a).sz = n.length + (a.length + szRows (a.map MType.enc)) := by
      simp only [MType.sz, MType.enc_eq, szRow, D.sz, List.length_map, MType.fName, MType.fArgs, Nat.add_zero, Nat.zero_add]
    omega
theorem cnts_le : ∀ ts : List MType, MType.cnts ts ≤ ts.length + szRows (ts.map MType.enc)
  | [] => by simp [MType.cnts]
  | t :: ts => by
    have h1 := cnt_le t
    have h2 := cnts_le ts
    rw [MType.cnts, List.length_cons, List.map_cons, szRows, MType.sz_def]
    omega
end
mutual
theorem matchT_len : ∀ (p : MType) (s : List MBinding) (t : MType) (s' : List MBinding), matchT s p t = some s' → s'.length ≤ s.length + p.cnt
  | .mk k n a, s, t, s', h => by
    rw [matchT] at h
    rw [MType.cnt]
    split at h
    · split at h
      · split at h
        · cases h; omega
        · cases h
      · cases h; simp
    · split at h
      · have := matchL_len a s t.fArgs s' h; omega
      · cases h
theorem matchL_len : ∀ (ps : List MType) (s : List MBinding) (ts : List MType) (s' : List MBinding), matchL s ps ts = some s' → s'.length ≤ s.length + MType.cnts ps
  | [], s, ts, s', h => by rw [matchL] at h; cases h; omega
  | p :: ps, s, [], s', h => by rw [matchL] at h; cases h
  | p :: ps, s, t :: ts, s', h => by
    rw [matchL] at h
    rw [MType.cnts]
    cases hm : matchT s p t with
    | none => rw [hm] at h; cases h
    | some s1 =>
      rw [hm] at h
      have h1 := matchT_len p s t s1 hm
      have h2 := matchL_len ps s1 ts s' h
      omega
end
def Small (s : List MBinding) : Prop := ∀ b ∈ s, b.fType.sz ≤ 4194304
mutual
theorem matchT_small : ∀ (p : MType) (s : List MBinding) (t : MType) (s' : List MBinding), t.sz ≤ 4194304 → Small s → matchT s p t = some s' → Small s'
  | .mk k n a, s, t, s', ht, hs, h => by
    rw [matchT] at h
    split at h
    · split at h
      · split at h
        · cases h; exact hs
        · cases h
      · cases h
        intro b hb
        rcases List.mem_append.1 hb with hb | hb
        · exact hs b hb
        · simp at hb; subst hb; exact ht
    · split at h
      · refine matchL_small a s t.fArgs s' ?_ hs h
        intro x hx
        have h1 := szRows_mem (List.mem_map_of_mem (f := MType.enc) hx)
        have h2 : t.sz = t.fName.length + (t.fArgs.length + szRows (t.fArgs.map MType.enc)) := by
          simp only [MType.sz, MType.enc_eq, szRow, szRow_append, D.sz, List.length_map, Nat.add_zero, Nat.zero_add]
        rw [MType.sz_def] at h1
        omega
      · cases h
theorem matchL_small : ∀ (ps : List MType) (s : List MBinding) (ts : List MType) (s' : List MBinding), (∀ t ∈ ts, t.sz ≤ 4194304) → Small s → matchL s ps ts = some s' → Small s'
  | [], s, ts, s', ht, hs, h => by rw [matchL] at h; cases h; exact hs
  | p :: ps, s, [], s', ht, hs, h => by rw [matchL] at h; cases h
  | p :: ps, s, t :: ts, s', ht, hs, h => by
    rw [matchL] at h
    cases hm : matchT s p t with
    | none => rw [hm] at h; cases h
    | some s1 =>
      rw [hm] at h
      exact matchL_small ps s1 ts s' (fun x hx => ht x (by simp [hx])) (matchT_small p s t s1 (ht t (by simp)) hs hm) h
end
end Go.Ab

namespace Go.Ab
def mgK (n : Nat) : Key → Key
  | (0, j) => (0, n + j)
  | (l + 1, j) => (l, j)
def C.mg (n : Nat) : C → C
  | .d x => .d x
  | .any => .any
  | .tsl k es => .tsl (mgK n k) es
  | .fsl es => .fsl es
  | .ptr k off => .ptr (mgK n k) off
  | .rptr cs => .rptr cs
  | .eptr k i off => .eptr (mgK n k) i off
  | .msl k => .msl (mgK n k)
  | .fn f caps => .fn f (caps.map fun x => (mgK n x.1, x.2))
  | .mp k => .mp (mgK n k)
  | .lfl m es => .lfl m es
  | .xp k r p => .xp (mgK n k) r p
  | .xq k r p z i off => .xq (mgK n k) r p z i off
def V.mg (n : Nat) : V → V
  | .c x => .c (x.mg n)
  | .agg cs => .agg (cs.map (C.mg n))
  | .tup xs => .tup (xs.map fun y => (y.1, y.2.map (C.mg n)))
  | .any => .any
def Obj.mg (n : Nat) : Obj → Obj
  | .box cs => .box (cs.map (C.mg n))
  | o => o
section
variable {P : Program} {w : World} {σ : Nat → Nat} {own own0 : List Obj} {Ω : Store} {bo bo0 : List Value} {bΩ : Hs}
theorem owns_mg {n : Nat} {o : Obj} {h : Value} {b : Nat} : owns (o.mg n) h b ↔ owns o h b := by
  cases o with
  | box cs =>
    cases h with
    | pointer a => cases a <;> exact Iff.rfl
    | _ => exact Iff.rfl
  | _ => exact Iff.rfl
theorem mg_at {k : Key} {o : Obj} (h : getO (own :: own0 :: Ω) k = some o) :
    getO ((own0 ++ own.map (Obj.mg own0.length)) :: Ω) (mgK own0.length k) = some (if k.1 = 0 then o.mg own0.length else o) := by
  obtain ⟨l, j⟩ := k
  cases l with
  | zero =>
    rw [getO_zero] at h
    show getO _ (0, own0.length + j) = _
    rw [getO_zero, List.getElem?_append_right (by omega), show own0.length + j - own0.length = j by omega, List.getElem?_map, h]
    rfl
  | succ l =>
    rw [getO_succ] at h
    show getO _ (l, j) = some o
    cases l with
    | zero =>
      rw [getO_zero] at h ⊢
      rw [List.getElem?_append_left (List.getElem?_eq_some_iff.1 h).1]
      exact h
    | succ l => rw [getO_succ] at h ⊢; exact h
theorem mg_hs (hl : bo0.length = own0.length) {k : Key} {h : Value} (e : getO (bo :: bo0 :: bΩ) k = some h) : getO ((bo0 ++ bo) :: bΩ) (mgK own0.length k) = some h := by
  obtain ⟨l, j⟩ := k
  cases l with
  | zero =>
    rw [getO_zero] at e
    show getO _ (0, own0.length + j) = _
    rw [getO_zero, List.getElem?_append_right (by omega), show own0.length + j - bo0.length = j by omega, e]
  | succ l =>
    rw [getO_succ] at e
    show getO _ (l, j) = some h
    cases l with
    | zero =>
      rw [getO_zero] at e ⊢
      rw [List.getElem?_append_left (List.getElem?_eq_some_iff.1 e).1]
      exact e
    | succ l => rw [getO_succ] at e ⊢; exact e
theorem mg_from (hl : bo0.length = own0.length) (hlo : bo.length = own.length) {k : Key} {o : Obj} (h : getO ((own0 ++ own.map (Obj.mg own0.length)) :: Ω) k = some o) :
    ∃ k0 o0, mgK own0.length k0 = k ∧ getO (own :: own0 :: Ω) k0 = some o0 ∧ o = (if k0.1 = 0 then o0.mg own0.length else o0) ∧ getO ((bo0 ++ bo) :: bΩ) k = getO (bo :: bo0 :: bΩ) k0 := by
  obtain ⟨l, j⟩ := k
  cases l with
  | zero =>
    rw [getO_zero] at h
    by_cases hj : j < own0.length
    · rw [List.getElem?_append_left hj] at h
      refine ⟨(1, j), o, rfl, by rw [getO_succ, getO_zero]; exact h, rfl, ?_⟩
      rw [getO_zero, getO_succ, getO_zero, List.getElem?_append_left (by omega)]
    · rw [List.getElem?_append_right (by omega), List.getElem?_map] at h
      cases hx : own[j - own0.length]? with
      | none => rw [hx] at h; cases h
      | some x =>
        rw [hx] at h; cases h
        refine ⟨(0, j - own0.length), x, ?_, by rw [getO_zero]; exact hx, rfl, ?_⟩
        · show (0, own0.length + (j - own0.length)) = (0, j)
          rw [show own0.length + (j - own0.length) = j by omega]
        · rw [getO_zero, getO_zero, List.getElem?_append_right (by omega), hl]
  | succ l =>
    rw [getO_succ] at h
    exact ⟨(l + 2, j), o, rfl, by rw [getO_succ, getO_succ]; exact h, rfl, by rw [getO_succ, getO_succ, getO_succ]⟩
theorem mg_kind {n : Nat} {k : Key} {o : Obj} : (∀ esz es, IsTok (if k.1 = 0 then o.mg n else o) esz es → IsTok o esz es) ∧ (∀ esz es, (if k.1 = 0 then o.mg n else o) = .mrow esz es → o = .mrow esz es) ∧
    (∀ m, (if k.1 = 0 then o.mg n else o) = .mp m → o = .mp m) ∧ (∀ cs, (if k.1 = 0 then o.mg n else o) = .box cs → ∃ cs', o = .box cs') ∧ (∀ rs, (if k.1 = 0 then o.mg n else o) = .xf rs → o = .xf rs) := by
  by_cases e : k.1 = 0
  · simp only [if_pos e]
    cases o <;> simp [Obj.mg, IsTok]
  · simp only [if_neg e]
    exact ⟨fun _ _ h => h, fun _ _ h => h, fun _ h => h, fun cs h => ⟨cs, h⟩, fun _ h => h⟩
theorem mg_C (hl : bo0.length = own0.length) {c : C} {v : Value} (h : RepC w σ (own :: own0 :: Ω) (bo :: bo0 :: bΩ) c v) :
    RepC w σ ((own0 ++ own.map (Obj.mg own0.length)) :: Ω) ((bo0 ++ bo) :: bΩ) (c.mg own0.length) v := by
  cases c with
  | d x => exact h
  | any => exact trivial
  | fsl es => exact h
  | rptr cs => exact h
  | lfl m es => exact h
  | xp k r p =>
    obtain ⟨o, ho, h2⟩ := h
    refine ⟨_, mg_at ho, fun rs e => ?_⟩
    obtain ⟨hh, q1, q2⟩ := h2 rs (mg_kind.2.2.2.2 _ e)
    exact ⟨hh, mg_hs hl q1, q2⟩
  | xq k r p z i off =>
    obtain ⟨o, ho, h2⟩ := h
    refine ⟨_, mg_at ho, fun rs e => ?_⟩
    obtain ⟨hh, b, a, n, cap, q1, q2⟩ := h2 rs (mg_kind.2.2.2.2 _ e)
    exact ⟨hh, b, a, n, cap, mg_hs hl q1, q2⟩
  | tsl k es =>
    obtain ⟨h1, o, ho, h2⟩ := h
    refine ⟨h1, _, mg_at ho, fun esz es' e => ?_⟩
    obtain ⟨q1, q2⟩ := h2 esz es' (mg_kind.1 _ _ e)
    exact ⟨q1, fun e' => mg_hs hl (q2 e')⟩
  | ptr k off =>
    obtain ⟨o, ho, h2⟩ := h
    refine ⟨_, mg_at ho, fun cs e => ?_⟩
    obtain ⟨cs', e'⟩ := mg_kind.2.2.2.1 _ e
    obtain ⟨b, q1, q2⟩ := h2 cs' e'
    exact ⟨b, mg_hs hl q1, q2⟩
  | eptr k i off =>
    obtain ⟨o, ho, h2⟩ := h
    refine ⟨_, mg_at ho, fun esz es e => ?_⟩
    obtain ⟨b, n, cap, q1, q2⟩ := h2 esz es (mg_kind.2.1 _ _ e)
    exact ⟨b, n, cap, mg_hs hl q1, q2⟩
  | msl k =>
    obtain ⟨o, ho, h2⟩ := h
    exact ⟨_, mg_at ho, fun esz es e => mg_hs hl (h2 esz es (mg_kind.2.1 _ _ e))⟩
  | mp k =>
    obtain ⟨o, ho, h2⟩ := h
    exact ⟨_, mg_at ho, fun m e => mg_hs hl (h2 m (mg_kind.2.2.1 _ e))⟩
  | fn f caps =>
    obtain ⟨vs, e, hsz, hc⟩ := h
    refine ⟨vs, e, by rw [hsz, List.length_map], fun j k off hj => ?_⟩
    rw [List.getElem?_map] at hj
    cases hx : caps[j]? with
    | none => rw [hx] at hj; cases hj
    | some y =>
      rw [hx] at hj
      injection hj with hj
      injection hj with e1 e2
      obtain ⟨u, q1, q2, o, q3, q4⟩ := hc j y.1 y.2 hx
      refine ⟨u, q1, q2, _, by rw [← e1]; exact mg_at q3, fun cs e => ?_⟩
      obtain ⟨cs', e'⟩ := mg_kind.2.2.2.1 _ e
      obtain ⟨b, q5, q6⟩ := q4 cs' e'
      exact ⟨b, by rw [← e1]; exact mg_hs hl q5, by rw [← e2]; exact q6⟩
theorem mg_Cs (hl : bo0.length = own0.length) {cs : List C} {vs : List Value} (h : RepCs w σ (own :: own0 :: Ω) (bo :: bo0 :: bΩ) cs vs) :
    RepCs w σ ((own0 ++ own.map (Obj.mg own0.length)) :: Ω) ((bo0 ++ bo) :: bΩ) (cs.map (C.mg own0.length)) vs := by
  refine ⟨by rw [List.length_map]; exact h.1, fun j x hj => ?_⟩
  rw [List.getElem?_map] at hj
  cases hx : cs[j]? with
  | none => rw [hx] at hj; cases hj
  | some y =>
    rw [hx] at hj; cases hj
    obtain ⟨v, h1, h2, h3⟩ := h.2 j y hx
    exact ⟨v, h1, mg_C hl h2, h3⟩
theorem mg_V (hl : bo0.length = own0.length) {x : V} {v : Value} (h : RepV w σ (own :: own0 :: Ω) (bo :: bo0 :: bΩ) x v) :
    RepV w σ ((own0 ++ own.map (Obj.mg own0.length)) :: Ω) ((bo0 ++ bo) :: bΩ) (x.mg own0.length) v := by
  cases x with
  | c x => exact ⟨mg_C hl h.1, h.2⟩
  | agg cs => obtain ⟨a, ha, hc⟩ := h; exact ⟨a, ha, mg_Cs hl hc⟩
  | any => exact trivial
  | tup xs =>
    obtain ⟨a, ha, hlen, hc⟩ := h
    refine ⟨a, ha, by rw [List.length_map]; exact hlen, fun j y hj => ?_⟩
    rw [List.getElem?_map] at hj
    cases hx : xs[j]? with
    | none => rw [hx] at hj; cases hj
    | some z =>
      rw [hx] at hj; cases hj
      obtain ⟨u, hu, hr⟩ := hc j z hx
      refine ⟨u, hu, ?_⟩
      obtain ⟨b, cs⟩ := z
      cases b with
      | true => obtain ⟨a', e, hcs⟩ := hr; exact ⟨a', e, mg_Cs hl hcs⟩
      | false => obtain ⟨x1, e, hx1, ho⟩ := hr; subst e; exact ⟨_, rfl, mg_C hl hx1, ho⟩
theorem mg_keep (hl : bo0.length = own0.length) : Keep (own0 :: Ω) (bo0 :: bΩ) ((own0 ++ own.map (Obj.mg own0.length)) :: Ω) ((bo0 ++ bo) :: bΩ) := by
  rintro ⟨l, j⟩ o h
  cases l with
  | zero =>
    rw [getO_zero] at h
    have hj := (List.getElem?_eq_some_iff.1 h).1
    refine ⟨o, by rw [getO_zero, List.getElem?_append_left hj]; exact h, ?_⟩
    rw [getO_zero, getO_zero, List.getElem?_append_left (by omega)]
    exact KeepO.refl _ _
  | succ l =>
    rw [getO_succ] at h
    exact ⟨o, by rw [getO_succ]; exact h, by rw [getO_succ, getO_succ]; exact KeepO.refl _ _⟩
theorem mg_S (hS : RepS w σ (own :: own0 :: Ω) (bo :: bo0 :: bΩ)) : RepS w σ ((own0 ++ own.map (Obj.mg own0.length)) :: Ω) ((bo0 ++ bo) :: bΩ) := by
  have hlo : bo.length = own.length := by
    obtain ⟨gr, h1, h2⟩ := hS.shape.2 0 own rfl
    simp at h1; rw [h1]; exact h2
  have hl : bo0.length = own0.length := by
    obtain ⟨gr, h1, h2⟩ := hS.shape.2 1 own0 rfl
    simp at h1; rw [h1]; exact h2
  have hn : Near w σ w σ := Near.refl _ _
  refine ⟨fun k o ho => ?_, fun k k' o o' h h' b e1 e2 e3 e4 e5 e6 => ?_, ⟨by have := hS.shape.1; simpa using this, fun l fr hfr => ?_⟩, hS.live, hS.glob⟩
  · obtain ⟨k0, o0, hk, ho0, rfl, hh⟩ := mg_from (bo := bo) (bΩ := bΩ) hl hlo ho
    obtain ⟨h, h1, h2⟩ := hS.obj k0 o0 ho0
    refine ⟨h, by rw [hh]; exact h1, ?_⟩
    obtain ⟨l0, j0⟩ := k0
    cases l0 with
    | zero =>
      subst hk
      have h2 : RepObj w σ (own :: own0 :: Ω) (bo :: bo0 :: bΩ) o0 h := h2
      show RepObj w σ ((own0 ++ own.map (Obj.mg own0.length)) :: Ω) ((bo0 ++ bo) :: bΩ) (o0.mg own0.length) h
      cases o0 with
      | box cs =>
        obtain ⟨b, c, t, e, q1, q2, q3⟩ := h2
        exact ⟨b, c, t, e, q1, q2, mg_Cs hl q3⟩
      | dead => exact trivial
      | tok esz es => exact h2
      | mrow esz es => exact h2
      | mp m => exact h2
      | ltok n esz es => exact h2
      | seed n => exact trivial
      | xf rs => exact h2
    | succ l0 =>
      have hk' : k = (l0, j0) := hk.symm
      subst hk'
      have h2 : RepObj w σ ((own0 :: Ω).drop l0) ((bo0 :: bΩ).drop l0) o0 h := h2
      exact h2.mono hn ((mg_keep hl).drop l0) fun _ _ => ⟨rfl, rfl⟩
  · obtain ⟨k0, o0, hk, ho0, ho, hh⟩ := mg_from (bo := bo) (bΩ := bΩ) hl hlo e1
    obtain ⟨k1, o1, hk1, ho1, ho', hh1⟩ := mg_from (bo := bo) (bΩ := bΩ) hl hlo e4
    rw [hh] at e2
    rw [hh1] at e5
    have b0 : owns o0 h b := by
      rw [ho] at e3
      split at e3
      · rw [owns_mg] at e3; exact e3
      · exact e3
    have b1 : owns o1 h' b := by
      rw [ho'] at e6
      split at e6
      · rw [owns_mg] at e6; exact e6
      · exact e6
    have := hS.apart k0 k1 o0 o1 h h' b ho0 e2 b0 ho1 e5 b1
    rw [← hk, ← hk1, this]
  · cases l with
    | zero =>
      simp at hfr
      exact ⟨_, rfl, by rw [← hfr]; simp [hl, hlo]⟩
    | succ l => exact hS.shape.2 (l + 2) fr (by simpa using hfr)
theorem mg_own (hS : RepS w σ (own :: own0 :: Ω) (bo :: bo0 :: bΩ)) {b : Nat} (h : Own ((own0 ++ own.map (Obj.mg own0.length)) :: Ω) ((bo0 ++ bo) :: bΩ) b) : Own (own :: own0 :: Ω) (bo :: bo0 :: bΩ) b := by
  have hlo : bo.length = own.length := by
    obtain ⟨gr, h1, h2⟩ := hS.shape.2 0 own rfl
    simp at h1; rw [h1]; exact h2
  have hl : bo0.length = own0.length := by
    obtain ⟨gr, h1, h2⟩ := hS.shape.2 1 own0 rfl
    simp at h1; rw [h1]; exact h2
  obtain ⟨k, o, hv, e1, e2, e3⟩ := h
  obtain ⟨k0, o0, hk, ho0, ho, hh⟩ := mg_from (bo := bo) (bΩ := bΩ) hl hlo e1
  rw [hh] at e2
  refine ⟨k0, o0, hv, ho0, e2, ?_⟩
  rw [ho] at e3
  split at e3
  · rw [owns_mg] at e3; exact e3
  · exact e3
end
def escQ (P : Program) (rs : List ResultVar) (post : V → Store → Prop) (e : Exit) (s : St) : Prop :=
  match e with
  | .normal | .ret => (resV P rs s).1 ∧ match s.st with
    | own :: own0 :: Ω => post ((resV P rs s).2.mg own0.length) ((own0 ++ own.map (Obj.mg own0.length)) :: Ω)
    | _ => False
  | _ => False
section
variable {P : Program} {N : Nat} {s : St}
theorem acall_esc {f : FuncId} {fn : Func} {c : Code} {args : List V} {own0 : List Obj} {Ω : Store} {post : V → Store → Prop} (hf : P.funcs[f]? = some fn) (hb : fn.body = some c) (hn : (fn.name == "runtime.NumGoroutine") = false)
    (hl : args.length ≤ fn.ntmps) (h : AW P fn.ntmps c (escQ P fn.results.toList post) ⟨argTm (args.map (V.up 1)) 0, [] :: own0 :: Ω⟩) : ACall P f args (own0 :: Ω) post := by
  refine ⟨⟨fn, hf, hn, by simp [hb]⟩, fun w σ β vs hS hargs => ?_⟩
  refine calls_of_wp hf hb ?_
  have hlen : vs.length = args.length := hargs.1.symm
  have hRep : Rep fn.ntmps ⟨argTm (args.map (V.up 1)) 0, [] :: own0 :: Ω⟩ { tmps := vs.toArray ++ Array.replicate (fn.ntmps - vs.toArray.size) undef, defers := [] } w σ ([] :: β) := by
    refine ⟨by simp; omega, rfl, hS.up1, fun t => ?_⟩
    show RepV w σ ([] :: own0 :: Ω) ([] :: β) (look (argTm (args.map (V.up 1)) 0) t) _
    rw [look_argTm, if_pos (Nat.zero_le _), Nat.sub_zero, List.getElem?_map]
    cases ha : args[t]? with
    | none => exact trivial
    | some x =>
      obtain ⟨v, hv, hr⟩ := hargs.2 t x ha
      have ht := (List.getElem?_eq_some_iff.1 hv).1
      have : (vs.toArray ++ Array.replicate (fn.ntmps - vs.toArray.size) undef).getD t undef = v := by
        rw [Array.getD_eq_getD_getElem?, Array.getElem?_append_left (by simpa using ht)]
        simp [hv]
      rw [this]
      exact rep_upV (S := [] :: own0 :: Ω) (β := [] :: β) 1 hr
  refine wp_mono (h _ w σ ([] :: β) hRep) ?_
  rintro e a' w' ⟨s', σ', β', hR, hst, hkp, hq⟩
  have main : ((resV P fn.results.toList s').1 ∧ match s'.st with
    | own :: own0 :: Ω => post ((resV P fn.results.toList s').2.mg own0.length) ((own0 ++ own.map (Obj.mg own0.length)) :: Ω)
    | _ => False) →
      a'.defers = [] ∧ ∃ v, (results fn a'.tmps).run P w' = .ok v w' ∧ ∃ v_1 r S' σ' β', Ending.returned v = Ending.returned v_1 ∧ RepS w' σ' S' β' ∧ Keep (own0 :: Ω) β S' β' ∧ Step (own0 :: Ω) β σ w S' β' σ' w' ∧ RepV w' σ' S' β' r v_1 ∧ post r S' := by
    rintro ⟨q1, q2⟩
    obtain ⟨v, hv, hrep⟩ := res_sound (fn := fn) hR q1
    obtain ⟨tm, st⟩ := s'
    simp only at q2
    split at q2
    · rename_i own own1 Ω1
      obtain ⟨bo, bΩ', rfl, hlo⟩ := frames hR
      cases bΩ' with
      | nil => have := hR.S.shape.1; simp at this
      | cons bo1 bΩ1 =>
        have hl1 : bo1.length = own1.length := by
          obtain ⟨gr, h1, h2⟩ := hR.S.shape.2 1 own1 rfl
          simp at h1; rw [h1]; exact h2
        have hkp' : Keep (own0 :: Ω) β (own1 :: Ω1) (bo1 :: bΩ1) := hkp
        have hst' : Step ([] :: own0 :: Ω) ([] :: β) σ w (own :: own1 :: Ω1) (bo :: bo1 :: bΩ1) σ' w' := hst
        exact ⟨hR.defers, v, hv, v, _, _, σ', _, rfl, mg_S hR.S, hkp'.trans (mg_keep hl1), ⟨hst'.size, hst'.os, hst'.output, fun b hb ho => hst'.far b hb (fun x => ho (own_up1 x)), hst'.near, fun b hb => (hst'.own b (mg_own hR.S hb)).imp own_up1 id⟩, mg_V hl1 hrep, q2⟩
    · exact q2.elim
  cases e with
  | normal => exact main hq
  | ret => exact main hq
  | _ => exact hq.elim
def escS (P : Program) (rs : List ResultVar) (post : V → Store → Prop) (s : St) (r : R) : Prop := r.1 ∧ match s.st with
  | own :: own0 :: Ω => post (r.2.mg own0.length) ((own0 ++ own.map (Obj.mg own0.length)) :: Ω)
  | _ => False
@[congr] theorem escS_congr {rs : List ResultVar} {post : V → Store → Prop} {s s' : St} {r r' : R} (h1 : s = s') (h2 : r = r') : escS P rs post s r = escS P rs post s' r' := by rw [h1, h2]
theorem escQ_ret {rs : List ResultVar} {post : V → Store → Prop} {tm : List (Nat × V)} {S : Store} : escQ P rs post .ret ⟨tm, S⟩ = escS P rs post ⟨tm, S⟩ (resV P rs ⟨tm, S⟩) := rfl
theorem escQ_normal {rs : List ResultVar} {post : V → Store → Prop} {tm : List (Nat × V)} {S : Store} : escQ P rs post .normal ⟨tm, S⟩ = escS P rs post ⟨tm, S⟩ (resV P rs ⟨tm, S⟩) := rfl
theorem escS_mk {rs : List ResultVar} {post : V → Store → Prop} {tm : List (Nat × V)} {own own0 : List Obj} {Ω : Store} {p : Prop} {v : V} :
    escS P rs post ⟨tm, own :: own0 :: Ω⟩ (p, v) = (p ∧ post (v.mg own0.length) ((own0 ++ own.map (Obj.mg own0.length)) :: Ω)) := rfl
theorem acall_cwe {f : FuncId} {fn : Func} {c : Code} {args : List V} {own0 : List Obj} {Ω : Store} {post : V → Store → Prop} {rs : List ResultVar} (hmix : P.follows .mixedOrders = true) (hf : P.funcs[f]? = some fn) (hN : fn.ntmps = N)
    (hb : fn.body = some c) (hn : (fn.name == "runtime.NumGoroutine") = false) (hr : fn.results.toList = rs) (hl : Nat.ble args.length N = true) (hok : codeOk N c = true)
    (h : CW P N c (escQ P rs post) ⟨argTm (args.map (V.up 1)) 0, [] :: own0 :: Ω⟩) : ACall P f args (own0 :: Ω) post := by
  subst hN
  subst hr
  exact acall_esc hf hb hn (Nat.le_of_ble_eq_true hl) (cw_sound hmix c _ _ hok h)
theorem mgK_0 {n j : Nat} : mgK n (0, j) = (0, n + j) := rfl
theorem mgK_1 {n l j : Nat} : mgK n (1 + l, j) = (l, j) := by rw [Nat.add_comm]; rfl
end
attribute [go_sem ↓] escQ_ret escQ_normal
attribute [go_sem] escS_mk V.mg C.mg Obj.mg mgK_0 mgK_1
end Go.Ab

namespace Go.Ab
section
variable {P : Program} {N : Nat} {S : Store} {s : St} {tm : List (Nat × V)}
def loneK (E : Md) (R : Array Oper) (K : St → Prop) (s : St) : Prop := loneB E R s.tm = true ∧ K s
@[congr] theorem loneK_congr {E : Md} {R : Array Oper} {K : St → Prop} {s s' : St} (h2 : s = s') : loneK E R K s = loneK E R K s' := by rw [h2]
def CWL (P : Program) (N : Nat) : Code → (Exit → St → Prop) → St → Prop
  | .seq x y, Q, s => CWL P N x (thenK (CWL P N y Q) Q) s
  | .region _ R true, Q, s => dops P (autoEL R N) R R.toList s (loneK (autoEL R N) R (Q .normal))
  | .region id R false, Q, s => CW P N (.region id R false) Q s
  | .cond c x y, Q, s => CW P N (.cond c x y) Q s
  | .block id c, Q, s => CW P N (.block id c) Q s
  | .exit id, Q, s => CW P N (.exit id) Q s
  | .ret, Q, s => CW P N .ret Q s
  | .skip, Q, s => CW P N .skip Q s
  | .loop c, Q, s => CW P N (.loop c) Q s
  | _, _, _ => False
theorem cwl_seq {x y : Code} {Q : Exit → St → Prop} : CWL P N (.seq x y) Q s = CWL P N x (thenK (CWL P N y Q) Q) s := by rw [CWL]
theorem cwl_draw {id : Nat} {l : List Oper} {Q : Exit → St → Prop} : CWL P N (.region id ⟨l⟩ true) Q s = dops P (autoEL ⟨l⟩ N) ⟨l⟩ l s (loneK (autoEL ⟨l⟩ N) ⟨l⟩ (Q .normal)) := by rw [CWL]
theorem cwl_region {id : Nat} {l : List Oper} {Q : Exit → St → Prop} : CWL P N (.region id ⟨l⟩ false) Q s = CW P N (.region id ⟨l⟩ false) Q s := by rw [CWL]
theorem cwl_cond {c : Operand} {x y : Code} {Q : Exit → St → Prop} : CWL P N (.cond c x y) Q s = CW P N (.cond c x y) Q s := by rw [CWL]
theorem cwl_ret {Q : Exit → St → Prop} : CWL P N .ret Q s = CW P N .ret Q s := by rw [CWL]
theorem cwl_skip {Q : Exit → St → Prop} : CWL P N .skip Q s = CW P N .skip Q s := by rw [CWL]
end
attribute [go_sem ↓] cwl_seq cwl_draw cwl_region cwl_cond cwl_ret cwl_skip
end Go.Ab

namespace Go.Ab
section
variable {P : Program} {N : Nat} {S : Store} {s : St} {tm : List (Nat × V)}
def CWM (P : Program) (N : Nat) : Code → (Exit → St → Prop) → St → Prop
  | .seq x y, Q, s => CWM P N x (thenK (CWM P N y Q) Q) s
  | .region _ R true, Q, s => dops P (autoEL R N) R R.toList s (loneK (autoEL R N) R (Q .normal))
  | .region id R false, Q, s => CW P N (.region id R false) Q s
  | .cond c x y, Q, s => condW (ev s.tm c) (CWM P N x Q) (CWM P N y Q) s
  | .block id c, Q, s => CWM P N c (inBlk id Q) s
  | .exit id, Q, s => CW P N (.exit id) Q s
  | .ret, Q, s => CW P N .ret Q s
  | .skip, Q, s => CW P N .skip Q s
  | .loop c, Q, s => CW P N (.loop c) Q s
  | _, _, _ => False
theorem cwm_seq {x y : Code} {Q : Exit → St → Prop} : CWM P N (.seq x y) Q s = CWM P N x (thenK (CWM P N y Q) Q) s := by rw [CWM]
theorem cwm_draw {id : Nat} {l : List Oper} {Q : Exit → St → Prop} : CWM P N (.region id ⟨l⟩ true) Q s = dops P (autoEL ⟨l⟩ N) ⟨l⟩ l s (loneK (autoEL ⟨l⟩ N) ⟨l⟩ (Q .normal)) := by rw [CWM]
theorem cwm_region {id : Nat} {l : List Oper} {Q : Exit → St → Prop} : CWM P N (.region id ⟨l⟩ false) Q s = CW P N (.region id ⟨l⟩ false) Q s := by rw [CWM]
theorem cwm_cond {c : Operand} {x y : Code} {Q : Exit → St → Prop} : CWM P N (.cond c x y) Q s = condW (ev s.tm c) (CWM P N x Q) (CWM P N y Q) s := by rw [CWM]
theorem cwm_block {id : Nat} {c : Code} {Q : Exit → St → Prop} : CWM P N (.block id c) Q s = CWM P N c (inBlk id Q) s := by rw [CWM]
theorem cwm_exit {id : Nat} {Q : Exit → St → Prop} : CWM P N (.exit id) Q s = CW P N (.exit id) Q s := by rw [CWM]
theorem cwm_ret {Q : Exit → St → Prop} : CWM P N .ret Q s = CW P N .ret Q s := by rw [CWM]
theorem cwm_skip {Q : Exit → St → Prop} : CWM P N .skip Q s = CW P N .skip Q s := by rw [CWM]
theorem cwm_loop {c : Code} {Q : Exit → St → Prop} : CWM P N (.loop c) Q s = CW P N (.loop c) Q s := by rw [CWM]
end
attribute [go_sem ↓] cwm_seq cwm_draw cwm_region cwm_cond cwm_block cwm_exit cwm_ret cwm_skip cwm_loop
end Go.Ab

namespace Go.Ab
def isCur (T : List TypeId) : Op → Bool
  | .call { callee := .value _, args := _, argTypes := ts } => !(ts.toList.all fun t => T.all fun u => !(t == u))
  | _ => false
def cMd (T : List TypeId) (R : Array Oper) : Md := fun op => match tryMd R 0 op with
  | 0 => if isCur T op then 3 else 0
  | m => m
def refKey : V → Option Key
  | .c (.ptr k _) => some k
  | .c (.eptr k _ _) => some k
  | .c (.msl k) => some k
  | .c (.mp k) => some k
  | .c (.xp k _ _) => some k
  | .c (.xq k _ _ _ _ _) => some k
  | _ => none
theorem refTo_key {v : V} {k : Key} (h : RefTo v k) : refKey v = some k := by
  rcases h with ⟨_, rfl⟩ | ⟨_, _, rfl⟩ | rfl | rfl | ⟨_, _, rfl⟩ | ⟨_, _, _, _, _, rfl⟩ <;> rfl
def keyNe : Key → Key → Bool
  | (0, a), (0, b) => a != b
  | (0, _), (_ + 1, _) => true
  | (_ + 1, _), (0, _) => true
  | _, _ => false
theorem keyNe_ne {k k' : Key} (h : keyNe k k' = true) : k ≠ k' := by
  rintro rfl
  obtain ⟨l, j⟩ := k
  cases l <;> simp [keyNe] at h
def awayC (v w : V) : Bool := match refKey v, refKey w with
  | some k, some k' => keyNe k k'
  | _, _ => true
def chOps : Op → List Operand
  | .store _ a _ => [a]
  | .call { callee := .value _, args := ags, argTypes := _ } => ags.toList
  | _ => []
def loneOkC (R : Array Oper) (i : Nat) (x : Oper) (j : Nat) (y : Oper) : Bool := isCallV y.op || (match x.op with
  | .store _ _ _ => true
  | .call { callee := .value _, args := _, argTypes := _ } => true
  | _ => false) && (chOps x.op).all (settled R i) && y.op.operands.toList.all (settled R j)
def clashC (T : List TypeId) (R : Array Oper) (p i j : Nat) (x y : Oper) : Bool := !(x.apart R y) || (!(decide (j = p)) && ((isDx (cMd T R) x.op && isDx (cMd T R) y.op) || (isSx (cMd T R) x.op && !(loneOkC R i x j y)) || (isSx (cMd T R) y.op && !(loneOkC R j y i x))))
def drawOkCP (T : List TypeId) (R : Array Oper) (N p : Nat) : Bool := pendOk (cMd T R) R p &&
  (List.range R.size).all fun j =>
    (match R[j]? with
     | some o => o.after.toList.all (fun e => !Region.binds .any e || decide (e.on < j)) && (match o.dst with | some d => decide (d < N) | none => true)
     | none => true) &&
    (List.range j).all fun i =>
      match R[i]?, R[j]? with
      | some x, some y => ((masks R.toList []).getD j 0).testBit i || !(clashC T R p i j x y)
      | _, _ => true
def pOfC (T : List TypeId) (R : Array Oper) (N : Nat) : Nat := if drawOkCP T R N R.size then R.size else ((List.range R.size).find? fun p => hasAlloc R p && drawOkCP T R N p).getD R.size
def drawOkC (T : List TypeId) (R : Array Oper) (N : Nat) : Bool := drawOkCP T R N (pOfC T R N)
def loneC (E : Md) (R : Array Oper) (tm : List (Nat × V)) : Bool :=
  (List.range R.size).all fun i => match R[i]? with
    | some x => !(isSx E x.op) || (chOps x.op).all fun a => (List.range R.size).all fun j => match R[j]? with
        | some y => bitIn R i j || isDx E y.op || isCallV y.op || isMv y.op || y.op.operands.toList.all (fun z => awayC (ev tm a) (ev tm z))
        | none => true
    | none => true
def Foot (vs : List V) (S S' : Store) : Prop := ∀ k, (∃ v ∈ vs, RefTo v k) ∨ getO S' k = getO S k
def footB (T : List TypeId) (R : Array Oper) (op : Op) (tm : List (Nat × V)) (S S' : Store) : Prop := match op with
  | .call { callee := .value x, args := ags, argTypes := ts } => cMd T R (.call { callee := .value x, args := ags, argTypes := ts }) = 3 → Foot (evL tm ags.toList) S S'
  | _ => True
section
variable {P : Program} {N : Nat} {S : Store} {s : St} {tm : List (Nat × V)} {T : List TypeId} {R : Array Oper}
def dopsC (P : Program) (T : List TypeId) (R : Array Oper) : List Oper → St → (St → Prop) → Prop
  | [], s, K => K s
  | o :: os, s, K => dguardW P (cMd T R) R o s fun s' => footB T R o.op s.tm s.st s'.st ∧ dopsC P T R os s' K
theorem cMd_cases {op : Op} (h : 2 ≤ cMd T R op) : cMd T R op = 3 ∨ (List.range R.size).all (fun i => match R[i]? with
    | some o => (callFn op != callFn o.op) || inOrder R i
    | none => true) = true := by
  unfold cMd at h ⊢
  split at h
  · rename_i e
    split at h
    · rename_i hc; left; rw [if_pos hc]
    · omega
  · rename_i m hm
    right
    unfold tryMd at h
    split at h
    · rename_i hq; exact hq
    · omega
theorem in_order {o : Oper} {i j : Nat} (ho : R[i]? = some o) (hj : j < R.size) (hij : i ≠ j) (h : (List.range R.size).all (fun i => match R[i]? with
    | some o' => (callFn o.op != callFn o'.op) || inOrder R i
    | none => true) = true) : bitIn R i j = true := by
  have hi : i < R.size := (Array.getElem?_eq_some_iff.1 ho).1
  have h1 := List.all_eq_true.1 h i (List.mem_range.2 hi)
  rw [ho] at h1
  simp only [bne_self_eq_false, Bool.false_or] at h1
  have h2 := List.all_eq_true.1 h1 j (List.mem_range.2 hj)
  unfold bitIn
  have hne : ¬ j = i := fun e => hij e.symm
  simp only [hne, decide_false, Bool.false_or] at h2
  by_cases e : i < j
  · rw [if_pos e]; rwa [if_neg (by omega)] at h2
  · rw [if_neg e]; rwa [if_pos (by omega)] at h2
theorem tstep_cur {o : Oper} {s s' : St} {v : V} (ht : TStep P (cMd T R) R o s v s') (hf : footB T R o.op s.tm s.st s'.st) (hc : isCallV o.op = true) (hm : cMd T R o.op = 3) {k : Key}
    (hk : ∀ a ∈ chOps o.op, ∀ k', refKey (ev s.tm a) = some k' → k' ≠ k) : getO s'.st k = getO s.st k := by
  obtain ⟨dst, op, ty, pos, after, guard⟩ := o
  cases op with
  | call c =>
    obtain ⟨cal, args, ts⟩ := c
    cases cal with
    | value f =>
      rcases hf hm k with ⟨v, hv, hr⟩ | h
      · obtain ⟨a, ha, rfl⟩ := List.mem_map.1 hv
        exact absurd rfl (hk a ha k (refTo_key hr))
      · exact h
    | _ => cases hc
  | _ => cases hc
theorem awayC_spec {v w : V} (h : awayC v w = true) {k k' : Key} (hv : refKey v = some k') (hw : RefTo w k) : k' ≠ k := by
  unfold awayC at h
  rw [hv, refTo_key hw] at h
  exact keyNe_ne h
theorem dok_cur {st : Nat → St} {vs : Nat → V} {p : Nat} (hok : drawOkCP T R N p = true)
    (hF : ∀ i, i < R.size → ∃ o, R[i]? = some o ∧ TStep P (cMd T R) R o (st i) (vs i) (st (i + 1)) ∧ footB T R o.op (st i).tm (st i).st (st (i + 1)).st) (hl : loneC (cMd T R) R (st R.size).tm = true) : DOk (cMd T R) R N st p := by
  unfold drawOkCP at hok
  rw [Bool.and_eq_true] at hok
  have hpd := pend_ok hok.1
  obtain ⟨hed, h2⟩ := draw_parts (f := fun i j x y => clashC T R p i j x y) hok.2
  have hT : ∀ i, i < R.size → ∃ o, R[i]? = some o ∧ TStep P (cMd T R) R o (st i) (vs i) (st (i + 1)) := fun i hi => by
    obtain ⟨o, a, b, _⟩ := hF i hi
    exact ⟨o, a, b⟩
  refine ⟨?_, ?_, ?_, ?_, hpd⟩
  · intro i o e ho he hb
    have h2 := hed i o ho
    simp only [Bool.and_eq_true] at h2
    have h3 := List.all_eq_true.1 h2.1 e (by simpa using he)
    simpa [hb] using h3
  · intro i o ho d hd
    have h2 := hed i o ho
    simp only [Bool.and_eq_true, hd] at h2
    simpa using h2.2
  · intro i j x y hij hx hy hc
    rcases h2 i j x y hij hx hy with h | h
    · exact .inl h
    · unfold clashC at h
      unfold clash0 at hc
      rw [Bool.or_eq_false_iff, Bool.not_eq_false'] at h
      rw [h.1] at hc
      simp only [Bool.not_true, Bool.false_or] at hc
      by_cases e : j = p
      · exact .inr ⟨e, (Bool.and_eq_true _ _ ▸ hc).1, h.1⟩
      · have h3 := h.2
        simp only [e, decide_false, Bool.not_false, Bool.true_and, Bool.or_eq_false_iff] at h3
        rw [hc] at h3; cases h3.1.1
  · intro i j x o hij hx ho hs hD hc
    have hjp : j ≠ p := fun e => by
      subst e
      have := (alloc_dx (E := cMd T R) (hpd o ho).1).1
      rw [hD] at this; cases this
    have hip : i ≠ p := fun e => by
      subst e
      have := (alloc_dx (E := cMd T R) (hpd x hx).1).2.1
      rw [hs] at this; cases this
    cases hb : bitIn R i j with
    | true => exact .inl rfl
    | false =>
      refine .inr ?_
      rintro k ⟨hmv, z, hz, hk⟩
      have hi : i < R.size := (Array.getElem?_eq_some_iff.1 hx).1
      have hj : j < R.size := (Array.getElem?_eq_some_iff.1 ho).1
      have hlo : loneOkC R i x j o = true := by
        unfold bitIn at hb
        by_cases e : i < j
        · rw [if_pos e] at hb
          rcases h2 i j x o e hx ho with h | h
          · rw [hb] at h; cases h
          · simp only [clashC, hjp, decide_false, Bool.not_false, hs, Bool.true_and, Bool.or_eq_false_iff, Bool.not_eq_false'] at h
            exact h.2.1.2
        · rw [if_neg e] at hb
          rcases h2 j i o x (by omega) ho hx with h | h
          · rw [hb] at h; cases h
          · simp only [clashC, hip, decide_false, Bool.not_false, hs, Bool.true_and, Bool.or_eq_false_iff, Bool.not_eq_false'] at h
            exact h.2.2
      unfold loneOkC at hlo
      rw [hc, Bool.false_or, Bool.and_eq_true, Bool.and_eq_true] at hlo
      obtain ⟨⟨hop, hsa⟩, hsy⟩ := hlo
      have hz' : z ∈ o.op.operands.toList := by simpa using hz
      have hsz := List.all_eq_true.1 hsy z hz'
      have h1 := List.all_eq_true.1 hl i (List.mem_range.2 hi)
      rw [hx] at h1
      simp only [hs, Bool.not_true, Bool.false_or] at h1
      have key : ∀ a ∈ chOps x.op, ∀ k', refKey (ev (st i).tm a) = some k' → k' ≠ k := fun a ha k' hk' => by
        have h3 := List.all_eq_true.1 h1 a ha
        have h4 := List.all_eq_true.1 h3 j (List.mem_range.2 hj)
        rw [ho] at h4
        simp only [hb, hD, hc, hmv, Bool.false_or] at h4
        have h5 := List.all_eq_true.1 h4 z hz'
        rw [settled_ev hT (by omega) (List.all_eq_true.1 hsa a ha), settled_ev hT (by omega) hsz] at h5
        exact awayC_spec h5 hk' hk
      obtain ⟨x', hx', ht, hf⟩ := hF i hi
      rw [hx] at hx'; cases hx'
      split at hop
      · rename_i t a y e
        refine tstep_store e ht fun k' hk' => key a (by rw [e]; exact List.mem_singleton.2 rfl) k' ?_
        rcases hk' with ⟨_, h⟩ | ⟨_, _, h⟩ | ⟨_, _, _, _, _, h⟩ <;> rw [h] <;> rfl
      · rename_i f ags ts e
        have hcv : isCallV x.op = true := by rw [e]; rfl
        have h2m : 2 ≤ cMd T R x.op := by
          unfold isSx at hs
          have hns : isStore x.op = false := by rw [e]; rfl
          rw [hns, Bool.false_or, Bool.and_eq_true, decide_eq_true_eq] at hs
          exact hs.1
        rcases cMd_cases h2m with h3 | h3
        · exact tstep_cur ht hf hcv h3 key
        · rw [in_order hx hj hij h3] at hb; cases hb
      · cases hop
theorem aw_draw_cur {id : Nat} {Q : Exit → St → Prop} {s : St} (hmix : P.follows .mixedOrders = true) (hok : drawOkC T R N = true) (h : dopsC P T R R.toList s (fun s' => loneC (cMd T R) R s'.tm = true ∧ Q .normal s')) : AW P N (.region id R true) Q s := by
  obtain ⟨st, vs, h0, hK, hT⟩ := dops_runF (F := fun o s s' => footB T R o.op s.tm s.st s'.st) (D := fun os s => dopsC P T R os s (fun s' => loneC (cMd T R) R s'.tm = true ∧ Q .normal s')) (fun _ h => h) (fun o os s h => by
    obtain ⟨v, s', a, b⟩ := dguard_step h
    exact ⟨v, s', a, b⟩) R.size 0 (by omega) s h
  have hT' := fun i hi => hT i (Nat.zero_le i) hi
  refine aw_draw0 (vs := vs) hmix h0 hK.2 (fun i hi => ?_) (dok_cur hok hT' hK.1)
  obtain ⟨o, a, b, _⟩ := hT' i hi
  exact ⟨o, a, b⟩
def loneCK (E : Md) (R : Array Oper) (K : St → Prop) (s : St) : Prop := loneC E R s.tm = true ∧ K s
@[congr] theorem loneCK_congr {E : Md} {R : Array Oper} {K : St → Prop} {s s' : St} (h2 : s = s') : loneCK E R K s = loneCK E R K s' := by rw [h2]
def dopsCK (P : Program) (T : List TypeId) (R : Array Oper) (os : List Oper) (K : St → Prop) (s : St) : Prop := dopsC P T R os s K
def footK (P : Program) (T : List TypeId) (R : Array Oper) (op : Op) (tm : List (Nat × V)) (S : Store) (os : List Oper) (K : St → Prop) (s' : St) : Prop := footB T R op tm S s'.st ∧ dopsCK P T R os K s'
@[congr] theorem dopsC_congr {os : List Oper} {s s' : St} {K : St → Prop} (h2 : s = s') : dopsC P T R os s K = dopsC P T R os s' K := by rw [h2]
@[congr] theorem dopsCK_congr {os : List Oper} {s s' : St} {K : St → Prop} (h2 : s = s') : dopsCK P T R os K s = dopsCK P T R os K s' := by rw [h2]
@[congr] theorem footK_congr {op : Op} {os : List Oper} {s s' : St} {K : St → Prop} (h2 : s = s') : footK P T R op tm S os K s = footK P T R op tm S os K s' := by rw [h2]
theorem dopsC_nil {K : St → Prop} : dopsC P T R [] ⟨tm, S⟩ K = K ⟨tm, S⟩ := rfl
theorem dopsC_cons {o : Oper} {os : List Oper} {K : St → Prop} : dopsC P T R (o :: os) ⟨tm, S⟩ K = dguardW P (cMd T R) R o ⟨tm, S⟩ (footK P T R o.op tm S os K) := rfl
theorem dopsCK_nil {K : St → Prop} : dopsCK P T R [] K ⟨tm, S⟩ = K ⟨tm, S⟩ := rfl
theorem dopsCK_cons {o : Oper} {os : List Oper} {K : St → Prop} : dopsCK P T R (o :: os) K ⟨tm, S⟩ = dguardW P (cMd T R) R o ⟨tm, S⟩ (footK P T R o.op tm S os K) := rfl
theorem footK_mk {op : Op} {os : List Oper} {K : St → Prop} {tm' : List (Nat × V)} {S' : Store} : footK P T R op tm S os K ⟨tm', S'⟩ = (footB T R op tm S S' ∧ dopsCK P T R os K ⟨tm', S'⟩) := rfl
theorem foot_same {vs : List V} : Foot vs S S = True := by simp [Foot]
theorem foot_set {vs : List V} {k : Key} {off : Nat} {x : Obj} : Foot (.c (.ptr k off) :: vs) S (setO S k x) = True := by
  refine eq_true fun k' => ?_
  by_cases e : k = k'
  · subst e; exact .inl ⟨_, List.mem_cons_self, .inl ⟨_, rfl⟩⟩
  · exact .inr (getO_setO_ne _ _ _ _ e)
theorem foot_set1 {vs : List V} {l j off : Nat} {fr : List Obj} {x : Obj} : Foot (.c (.ptr (1 + l, j) off) :: vs) (fr :: S) (fr :: setO S (l, j) x) = True := by
  have := foot_set (S := fr :: S) (vs := vs) (k := (1 + l, j)) (off := off) (x := x)
  rwa [setO_up1] at this
theorem foot_set2 {vs : List V} {l j off : Nat} {fr : List Obj} {x y : Obj} : Foot (.c (.ptr (1 + l, j) off) :: vs) (fr :: setO S (l, j) x) (fr :: setO S (l, j) y) = True := by
  have := foot_set1 (S := setO S (l, j) x) (vs := vs) (l := l) (j := j) (off := off) (fr := fr) (x := y)
  rwa [setO_twice] at this
theorem imp_tr {p : Prop} : (p → True) = True := by simp
def CWC (P : Program) (N : Nat) (T : List TypeId) : Code → (Exit → St → Prop) → St → Prop
  | .seq x y, Q, s => CWC P N T x (thenK (CWC P N T y Q) Q) s
  | .region _ R true, Q, s => dopsC P T R R.toList s (loneCK (cMd T R) R (Q .normal))
  | .region id R false, Q, s => CW P N (.region id R false) Q s
  | .cond c x y, Q, s => condW (ev s.tm c) (CWC P N T x Q) (CWC P N T y Q) s
  | .block id c, Q, s => CWC P N T c (inBlk id Q) s
  | .exit id, Q, s => CW P N (.exit id) Q s
  | .ret, Q, s => CW P N .ret Q s
  | .skip, Q, s => CW P N .skip Q s
  | .loop c, Q, s => CW P N (.loop c) Q s
  | _, _, _ => False
def codeOkC (T : List TypeId) (N : Nat) : Code → Bool
  | .seq x y => codeOkC T N x && codeOkC T N y
  | .region _ R true => drawOkC T R N
  | .cond _ x y => codeOkC T N x && codeOkC T N y
  | .block _ c => codeOkC T N c
  | .loop _ => true
  | c => codeOk N c
theorem cwc_sound (hmix : P.follows .mixedOrders = true) : ∀ (c : Code) (Q : Exit → St → Prop) (s : St), codeOkC T N c = true → CWC P N T c Q s → AW P N c Q s
  | .seq x y, Q, s, ok, h => by
    simp only [codeOkC, Bool.and_eq_true] at ok
    refine aw_seq (AW.mono (cwc_sound hmix x _ s ok.1 h) fun e s' h' => ?_)
    cases e with
    | normal => exact cwc_sound hmix y Q s' ok.2 h'
    | _ => exact h'
  | .region _ R true, Q, s, ok, h => aw_draw_cur hmix ok h
  | .region id R false, Q, s, ok, h => cw_sound hmix _ Q s ok h
  | .cond c x y, Q, s, ok, h => by
    simp only [codeOkC, Bool.and_eq_true] at ok
    simp only [CWC, condW] at h
    split at h
    · rename_i b hb
      exact aw_cond hb (fun e => cwc_sound hmix x Q s ok.1 (h.1 e)) (fun e => cwc_sound hmix y Q s ok.2 (h.2 e))
    · exact h.elim
  | .block id c, Q, s, ok, h => aw_block (cwc_sound hmix c _ s ok h)
  | .exit id, Q, s, ok, h => cw_sound hmix _ Q s ok h
  | .ret, Q, s, ok, h => cw_sound hmix _ Q s ok h
  | .skip, Q, s, ok, h => cw_sound hmix _ Q s ok h
  | .loop c, Q, s, ok, h => by
    rw [CWC, cw_loop] at h
    exact h
  | .rangeFunc _ _ _ _, Q, s, ok, h => h.elim
  | .scope _, Q, s, ok, h => h.elim
  | .label _, Q, s, ok, h => h.elim
  | .goto _, Q, s, ok, h => h.elim
  | .refuse _, Q, s, ok, h => h.elim
theorem cwc_seq {x y : Code} {Q : Exit → St → Prop} : CWC P N T (.seq x y) Q s = CWC P N T x (thenK (CWC P N T y Q) Q) s := by rw [CWC]
theorem cwc_draw {id : Nat} {l : List Oper} {Q : Exit → St → Prop} : CWC P N T (.region id ⟨l⟩ true) Q s = dopsC P T ⟨l⟩ l s (loneCK (cMd T ⟨l⟩) ⟨l⟩ (Q .normal)) := by rw [CWC]
theorem cwc_region {id : Nat} {l : List Oper} {Q : Exit → St → Prop} : CWC P N T (.region id ⟨l⟩ false) Q s = CW P N (.region id ⟨l⟩ false) Q s := by rw [CWC]
theorem cwc_cond {c : Operand} {x y : Code} {Q : Exit → St → Prop} : CWC P N T (.cond c x y) Q s = condW (ev s.tm c) (CWC P N T x Q) (CWC P N T y Q) s := by rw [CWC]
theorem cwc_block {id : Nat} {c : Code} {Q : Exit → St → Prop} : CWC P N T (.block id c) Q s = CWC P N T c (inBlk id Q) s := by rw [CWC]
theorem cwc_exit {id : Nat} {Q : Exit → St → Prop} : CWC P N T (.exit id) Q s = CW P N (.exit id) Q s := by rw [CWC]
theorem cwc_ret {Q : Exit → St → Prop} : CWC P N T .ret Q s = CW P N .ret Q s := by rw [CWC]
theorem cwc_skip {Q : Exit → St → Prop} : CWC P N T .skip Q s = CW P N .skip Q s := by rw [CWC]
theorem cwc_loop {c : Code} {Q : Exit → St → Prop} : CWC P N T (.loop c) Q s = CW P N (.loop c) Q s := by rw [CWC]
theorem loop_atC {ι : Type} {c : Code} {Q : Exit → St → Prop} (T : List TypeId) (hmix : P.follows .mixedOrders = true) (hok : codeOkC T N c = true) (ts : List Nat) (f : ι → List V) (g : ι → Store) (p : ι → Prop) (μ : ι → Nat) (i0 : ι)
    (h1 : ts.map (look s.tm) = f i0) (h2 : s.st = g i0) (h3 : p i0)
    (round : ∀ i, p i → CWC P N T c (thenK (Inv N ts f g p μ i) Q) ⟨zipTm ts (f i), g i⟩) : AW P N (.loop c) Q s := by
  refine aw_loop (ι := ι) (fun i s => ∃ s0, Ghost N s s0 ∧ ts.map (look s0.tm) = f i ∧ s0.st = g i ∧ p i) μ i0 ⟨s, Ghost.refl _ _, h1, h2, h3⟩ fun i s hI => ?_
  obtain ⟨s0, hg, h1, h2, h3⟩ := hI
  refine aw_ghost ?_ hg
  have hr := (cwc_sound hmix c _ _ hok (round i h3)).mono (Q' := thenK (fun s' => ∃ j, μ j < μ i ∧ ∃ s0, Ghost N s' s0 ∧ ts.map (look s0.tm) = f j ∧ s0.st = g j ∧ p j) Q) fun e s' h => by
    cases e with
    | normal =>
      obtain ⟨j, s0, a1, a2, a3, a4, a5⟩ := h
      exact ⟨j, a1, s0, a2, a3, a4, a5⟩
    | _ => exact h
  obtain ⟨tm, st⟩ := s0
  simp only at h1 h2
  subst h2
  rw [← h1] at hr
  exact aw_tm hr fun t => look_zip _ ts t
theorem acall_cwc (T : List TypeId) {f : FuncId} {fn : Func} {c : Code} {args : List V} {post : V → Store → Prop} {rs : List ResultVar} (hmix : P.follows .mixedOrders = true) (hf : P.funcs[f]? = some fn) (hN : fn.ntmps = N)
    (hb : fn.body = some c) (hn : (fn.name == "runtime.NumGoroutine") = false) (hr : fn.results.toList = rs) (hl : Nat.ble args.length N = true) (hok : codeOkC T N c = true)
    (h : CWC P N T c (retF P rs post) ⟨argTm (args.map (V.up 1)) 0, [] :: S⟩) : ACall P f args S post := by
  subst hN
  subst hr
  exact acall_enter hf hb hn (Nat.le_of_ble_eq_true hl) (aw_end frzAll_ghost (cwc_sound hmix c _ _ hok h))
end
attribute [go_sem ↓] cwc_seq cwc_draw cwc_region cwc_cond cwc_block cwc_exit cwc_ret cwc_skip cwc_loop dopsC_nil dopsC_cons dopsCK_nil dopsCK_cons
attribute [go_sem] footK_mk footB foot_same foot_set1 foot_set2 imp_tr
end Go.Ab

namespace Go.Proofs.YtnceiannponbjaaGreat.Fa
open Go Go.Ab
abbrev TyF (t c b : Nat) (z : List C) : Prop := Tryz.prog.cellsOf t = c ∧ Tryz.prog.bytesOf t = b ∧ (Tryz.prog.info? t).isSome = true ∧ zeroCs Tryz.prog t = some z
theorem tyF {t c b : Nat} {z : List C} (h1 : Tryz.prog.cellsOf t = c := by kernel_rfl) (h2 : Tryz.prog.bytesOf t = b := by kernel_rfl) (h3 : (Tryz.prog.info? t).isSome = true := by kernel_rfl) (h4 : zeroCs Tryz.prog t = some z := by kernel_rfl) : TyF t c b z := ⟨h1, h2, h3, h4⟩
theorem ty1 : TyF 1 1 8 [.d (.o .nilFunc)] := tyF
theorem ty2 : TyF 2 1 8 [.d (.i .i64 0)] := tyF
theorem ty3 : TyF 3 1 8 [.d (.i .i64 0)] := tyF
theorem ty4 : TyF 4 1 1 [.d (.b false)] := tyF
theorem zval4 : zeroV Tryz.prog 4 = some (.bool false) := by kernel_rfl
theorem ty5 : TyF 5 1 1 [.d (.i .u8 0)] := tyF
theorem ty9 : TyF 9 1 16 [.d (.s [])] := tyF
theorem ty12 : TyF 12 1 8 [.d (.i .u64 0)] := tyF
theorem ty22 : TyF 22 1 24 [.fsl []] := tyF
theorem ty24 : TyF 24 1 24 [.fsl []] := tyF
theorem ty25 : TyF 25 1 24 [.fsl []] := tyF
theorem ty26 : TyF 26 3 64 [.d (.s []), .fsl [], .fsl []] := tyF
theorem ty27 : TyF 27 3 64 [.d (.s []), .fsl [], .fsl []] := tyF
theorem ty29 : TyF 29 1 24 [.fsl []] := tyF
theorem ty31 : TyF 31 2 40 [.d (.s []), .fsl []] := tyF
theorem ty33 : TyF 33 1 8 [.d (.o .nilFunc)] := tyF
theorem ty36 : TyF 36 1 8 [.d (.o .nilFunc)] := tyF
theorem ty37 : TyF 37 1 8 [.d (.o .nilFunc)] := tyF
theorem ty38 : TyF 38 1 8 [.d (.o .nilFunc)] := tyF
theorem ty39 : TyF 39 1 8 [.d (.o (.pointer none))] := tyF
theorem ty45 : TyF 45 1 24 [.fsl []] := tyF
theorem ty47 : TyF 47 2 40 [.d (.s []), .fsl []] := tyF
theorem ty50 : TyF 50 1 8 [.d (.o .nilFunc)] := tyF
theorem ty60 : TyF 60 1 8 [.d (.o .nilFunc)] := tyF
theorem ty62 : TyF 62 3 48 [.d (.i .i64 0), .d (.s []), .fsl []] := tyF
theorem ty69 : TyF 69 3 40 [.fsl [], .d (.i .i64 0), .d (.i .i64 0)] := tyF
theorem ty76 : TyF 76 1 8 [.d (.o .nilFunc)] := tyF
theorem ty91 : TyF 91 1 8 [.d (.o (.map none))] := tyF
theorem ty109 : TyF 109 1 8 [.d (.o .nilFunc)] := tyF
theorem laidOut : laidOutB Tryz.prog = true := by kernel_rfl
theorem own : ownKnob Tryz.prog.godebug = none := by kernel_rfl
attribute [go_sem] ty1 Tryz.underlying1 ty2 Tryz.underlying2 ty3 Tryz.underlying3 ty4 Tryz.underlying4 zval4 ty5 Tryz.underlying5 ty9 Tryz.underlying9 ty12 Tryz.underlying12 ty22 Tryz.underlying22 ty24 Tryz.underlying24 ty25 Tryz.underlying25 ty26 Tryz.underlying26 ty27 Tryz.underlying27 ty29 Tryz.underlying29 ty31 Tryz.underlying31 ty33 Tryz.underlying33 ty36 Tryz.underlying36 ty37 Tryz.underlying37 ty38 Tryz.underlying38 ty39 Tryz.underlying39 ty45 Tryz.underlying45 ty47 Tryz.underlying47 ty50 Tryz.underlying50 ty60 Tryz.underlying60 ty62 Tryz.underlying62 ty69 Tryz.underlying69 ty76 Tryz.underlying76 ty91 Tryz.underlying91 ty109 Tryz.underlying109
end Go.Proofs.YtnceiannponbjaaGreat.Fa

namespace Go.Proofs.YtnceiannponbjaaGreat
open Go Go.Ab
end Go.Proofs.YtnceiannponbjaaGreat

namespace Go.Ab
def encB (x : Int) : List D := [.i .u8 x]
theorem and255 (a : Int) : 0 ≤ andK .i64 a 255 ∧ andK .i64 a 255 ≤ 255 := by
  have h : (BitVec.ofInt IntKind.i64.bits a &&& BitVec.ofInt IntKind.i64.bits 255).toNat ≤ 255 := by
    rw [BitVec.toNat_and]
    refine Nat.le_trans Nat.and_le_right ?_
    decide
  unfold andK
  rw [IntWalk.i64_in _ (by omega)]
  omega
structure Bytes (bs : List Int) : Prop where
  len : bs.length ≤ 1048576
  rng : ∀ x ∈ bs, 0 ≤ x ∧ x ≤ 255
structure Cu (bs : List Int) where
  i : Int
  h : Int
  lo : 0 ≤ i
  hi : i ≤ bs.length
def cur {bs : List Int} (c : Cu bs) : List C := [.d (.sl (bs.map encB)), .d (.i .i64 c.i), .d (.i .i64 c.h)]
def hN (h : Int) : Int := IntKind.i64.wrap (IntKind.i64.wrap (h * 6364136223846793005) + 1442695040888963407)
def drawX (h : Int) : Int := andK .i64 (xorK .i64 (shrK .i64 (hN h) 33) (shrK .i64 (hN h) 45)) 255
def byteU {bs : List Int} (c : Cu bs) : Int × Cu bs :=
  if h : c.i < bs.length then (andK .i64 (drawX c.h + bs.getD c.i.toNat 0) 255, ⟨c.i + 1, hN c.h, by have := c.lo; omega, by omega⟩) else (drawX c.h, ⟨c.i, hN c.h, c.lo, c.hi⟩)
theorem byteU_rng {bs : List Int} (c : Cu bs) : 0 ≤ (byteU c).1 ∧ (byteU c).1 ≤ 255 := by
  unfold byteU
  split
  · exact and255 _
  · exact and255 _
def belowD {bs : List Int} (n : Int) (c : Cu bs) : Int × Cu bs := ((byteU c).1.tmod n, (byteU c).2)
theorem belowD_rng {bs : List Int} {n : Int} (c : Cu bs) (h : 1 ≤ n) : 0 ≤ (belowD n c).1 ∧ (belowD n c).1 < n :=
  ⟨Int.tmod_nonneg _ (byteU_rng c).1, Int.tmod_lt_of_pos _ (by omega)⟩
def onceD {bs : List Int} (n : Int) (c : Cu bs) : Bool × Cu bs := (decide ((belowD n c).1 = 0), (belowD n c).2)
def pickD {bs : List Int} (xs : List (List UInt8)) (c : Cu bs) : List UInt8 × Cu bs := (xs.getD (belowD xs.length c).1.toNat [], (belowD xs.length c).2)
theorem pickD_mem {bs : List Int} {xs : List (List UInt8)} (c : Cu bs) (h : 1 ≤ xs.length) : (pickD xs c).1 ∈ xs := by
  have := belowD_rng (n := xs.length) c (by omega)
  unfold pickD
  have hi : (belowD (xs.length : Int) c).1.toNat < xs.length := by omega
  simp only [List.getD, List.getElem?_eq_getElem hi, Option.getD_some]
  exact List.getElem_mem hi
end Go.Ab
namespace Go.Proofs.YtnceiannponbjaaGreat
open Go Go.Ab
theorem l1Byte_ok {bs : List Int} (hB : Bytes bs) (c : Cu bs) (l j : Nat) (S : Store) (hk : getO S (l, j) = some (.box (cur c))) :
    ACall Tryz.prog 77 [.c (.ptr (l, j) 0)] S (fun r S' => r = .c (.d (.i .i64 (byteU c).1)) ∧ S' = setO S (l, j) (.box (cur (byteU c).2))) := by
  have h0 : 0 ≤ drawX c.h ∧ drawX c.h ≤ 255 := and255 _
  have hl := hB.len
  have g : ∀ x : Ab.Obj, getO (setO S (l, j) x) (l, j) = some x := fun x => getO_setO_eq _ _ _ _ hk
  obtain ⟨i, h, lo, hi⟩ := c
  simp only at h0
  by_cases hlt : i < bs.length
  · have hb := hB.rng (bs[i.toNat]'(by omega)) (List.getElem_mem _)
    have h1 : decide (i < (bs.length : Int)) = true := decide_eq_true hlt
    have e : bs.getD i.toNat 0 = bs[i.toNat]'(by omega) := by simp [List.getD, (show i.toNat < bs.length by omega)]
    rw [byteU, dif_pos hlt]
    simp only [e]
    unfold drawX hN at *
    refine acall_cw (rs := [.tmp 2]) Tryz.checked.mixed Tryz.func77 Tryz.ntmps77 rfl rfl rfl rfl rfl ?_
    simp -implicitDefEqProofs (disch := omega) only [go_sem, hk, cur, g, setO_twice, h1, encB]
    (repeat (with_reducible refine And.intro ?_ ?_; focus first | omega | rfl | assumption | exact ⟨_, rfl, rfl⟩ | (simp; omega) | (simp; done)))
    all_goals first | exact ⟨rfl, rfl⟩ | rfl | omega
  · have h1 : decide (i < (bs.length : Int)) = false := decide_eq_false hlt
    rw [byteU, dif_neg hlt]
    unfold drawX hN at *
    refine acall_cw (rs := [.tmp 2]) Tryz.checked.mixed Tryz.func77 Tryz.ntmps77 rfl rfl rfl rfl rfl ?_
    simp -implicitDefEqProofs (disch := omega) only [go_sem, hk, cur, g, setO_twice, h1, encB]
    first | done | exact ⟨rfl, rfl⟩ | rfl
theorem l1Below_ok {bs : List Int} (hB : Bytes bs) (c : Cu bs) (l j : Nat) (S : Store) (n : Int) (hk : getO S (l, j) = some (.box (cur c))) (h1 : 1 ≤ n) (h2 : n ≤ 256) :
    ACall Tryz.prog 41 [.c (.ptr (l, j) 0), .c (.d (.i .i64 n))] S (fun r S' => r = .c (.d (.i .i64 (belowD n c).1)) ∧ S' = setO S (l, j) (.box (cur (belowD n c).2))) := by
  have hx := byteU_rng c
  have d1 : decide (n ≤ 0) = false := decide_eq_false (by omega)
  have d2 : decide (n ≤ 256) = true := decide_eq_true h2
  refine acall_cw (rs := [.tmp 4]) Tryz.checked.mixed Tryz.func41 Tryz.ntmps41 rfl rfl rfl rfl rfl ?_
  simp -implicitDefEqProofs (disch := omega) only [go_sem, d1, d2]
  refine call_d rfl (l1Byte_ok hB c (1 + l) j ([] :: S) (by rw [getO_up1]; exact hk)) ?_
  simp -implicitDefEqProofs (disch := omega) only [go_sem, setO_up1]
  (repeat (with_reducible refine And.intro ?_ ?_; focus first | omega | rfl | assumption | exact ⟨_, rfl, rfl⟩ | (simp; omega) | (simp; done)))
  first | done | exact ⟨rfl, rfl⟩ | rfl
theorem l1Once_ok {bs : List Int} (hB : Bytes bs) (c : Cu bs) (l j : Nat) (S : Store) (n : Int) (hk : getO S (l, j) = some (.box (cur c))) (h1 : 1 ≤ n) (h2 : n ≤ 256) :
    ACall Tryz.prog 68 [.c (.ptr (l, j) 0), .c (.d (.i .i64 n))] S (fun r S' => r = .c (.d (.b (onceD n c).1)) ∧ S' = setO S (l, j) (.box (cur (onceD n c).2))) := by
  refine acall_cw (rs := [.tmp 4]) Tryz.checked.mixed Tryz.func68 Tryz.ntmps68 rfl rfl rfl rfl rfl ?_
  simp -implicitDefEqProofs (disch := omega) only [go_sem]
  refine call_d rfl (l1Below_ok hB c (1 + l) j ([] :: S) n (by rw [getO_up1]; exact hk) h1 h2) ?_
  simp -implicitDefEqProofs (disch := omega) only [go_sem, setO_up1]
  first | done | exact ⟨rfl, rfl⟩ | rfl
theorem l1Pick_ok {bs : List Int} (hB : Bytes bs) (c : Cu bs) (l j : Nat) (S : Store) (xs : List (List UInt8)) (hk : getO S (l, j) = some (.box (cur c))) (h1 : 1 ≤ xs.length) (h2 : xs.length ≤ 256) :
    ACall Tryz.prog 42 [.c (.ptr (l, j) 0), .c (.d (.sl (xs.map encS)))] S (fun r S' => r = .c (.d (.s (pickD xs c).1)) ∧ S' = setO S (l, j) (.box (cur (pickD xs c).2))) := by
  have hx := belowD_rng (n := xs.length) c (by omega)
  refine acall_cw (rs := [.tmp 4]) Tryz.checked.mixed Tryz.func42 Tryz.ntmps42 rfl rfl rfl rfl rfl ?_
  simp -implicitDefEqProofs (disch := omega) only [go_sem, encS]
  refine call_d rfl (l1Below_ok hB c (1 + l) j ([] :: S) xs.length (by rw [getO_up1]; exact hk) (by omega) (by omega)) ?_
  have hi : (belowD (xs.length : Int) c).1.toNat < xs.length := by omega
  have e : (pickD xs c).1 = xs[(belowD (xs.length : Int) c).1.toNat] := by simp only [pickD, List.getD, List.getElem?_eq_getElem hi, Option.getD_some]
  simp -implicitDefEqProofs (disch := omega) only [go_sem, encS, setO_up1]
  (repeat (with_reducible refine And.intro ?_ ?_; focus first | omega | rfl | assumption | exact ⟨_, rfl, rfl⟩ | (simp; omega) | (simp; done)))
  rw [e]
  first | done | exact ⟨rfl, rfl⟩ | rfl
end Go.Proofs.YtnceiannponbjaaGreat

namespace Go.Ab
def stepH (h b : Int) : Int := andK .i64 (IntKind.i64.wrap (IntKind.i64.wrap (IntKind.i64.wrap (h * 131) + b) + 7)) 1073741823
def hashL : List Int → Int → Int
  | [], h => h
  | b :: r, h => hashL r (stepH h b)
def newD (bs : List Int) : Cu bs := ⟨0, hashL (bs.take 4000) (28803 + bs.length), Int.le_refl _, by omega⟩
theorem list_bytes {es : List (List D)} (h : ∀ y ∈ es, ∃ x, y = [.i .u8 x] ∧ (Lit.int .u8 x).wf = true) : ∃ xs : List Int, es = xs.map encB ∧ ∀ x ∈ xs, 0 ≤ x ∧ x ≤ 255 := by
  induction es with
  | nil => exact ⟨[], rfl, fun x h => by cases h⟩
  | cons y es ih =>
    obtain ⟨x, rfl, hx⟩ := h y List.mem_cons_self
    obtain ⟨xs, rfl, hxs⟩ := ih fun z hz => h z (List.mem_cons_of_mem _ hz)
    refine ⟨x :: xs, rfl, fun z hz => ?_⟩
    rcases List.mem_cons.1 hz with rfl | hz
    · have h1 : IntKind.u8.min = 0 := by decide
      have h2 : IntKind.u8.max = 255 := by decide
      simp only [Lit.wf, Bool.and_eq_true, decide_eq_true_eq, h1, h2] at hx
      exact hx
    · exact hxs z hz
end Go.Ab
namespace Go.Proofs.YtnceiannponbjaaGreat
open Go Go.Ab
theorem l1New_ok {bs : List Int} (hB : Bytes bs) (own0 : List Ab.Obj) (Ω : Store) : ACall Tryz.prog 15 [.c (.d (.sl (bs.map encB)))] (own0 :: Ω) (fun r S' => r = .c (.ptr (0, own0.length) 0) ∧ S' = (own0 ++ [.box (cur (newD bs))]) :: Ω) := by
  have hl := hB.len
  refine acall_cwe (rs := [.tmp 2]) Tryz.checked.mixed Tryz.func15 Tryz.ntmps15 rfl rfl rfl rfl rfl ?_
  simp -implicitDefEqProofs (disch := omega) only [go_sem]
  refine loop_at (ι := Nat × Int) Tryz.checked.mixed rfl [0, 3, 4] (fun y => [.c (.d (.sl (bs.map encB))), .c (.d (.i .i64 y.2)), .c (.d (.i .i64 y.1))]) (fun _ => [] :: own0 :: Ω)
    (fun y => y.1 ≤ bs.length ∧ y.1 ≤ 4000 ∧ hashL ((bs.take 4000).drop y.1) y.2 = hashL (bs.take 4000) (28803 + bs.length)) (fun y => bs.length - y.1) (0, 28803 + bs.length) rfl rfl ⟨Nat.zero_le _, Nat.zero_le _, by rw [List.drop_zero]⟩ ?_
  rintro ⟨i, q⟩ ⟨p1, p2, p3⟩
  simp only at p1 p2 p3
  simp -implicitDefEqProofs (disch := omega) only [go_sem]
  have fin : (¬ i < bs.length ∨ ¬ i < 4000) → (own0 ++ [Ab.Obj.box [.d (.sl (bs.map encB)), .d (.i .i64 0), .d (.i .i64 q)]]) :: Ω = (own0 ++ [.box (cur (newD bs))]) :: Ω := fun hq => by
    rw [List.drop_eq_nil_of_le (by rw [List.length_take]; omega)] at p3
    rw [show q = hashL (bs.take 4000) (28803 + bs.length) from p3]
    rfl
  with_reducible refine split2 (fun hb => ?_) (fun hb => ?_) <;> have h := hb <;> (try simp only [wf_preprocess] at h) <;> simp -implicitDefEqProofs (disch := omega) only [go_sem, hb] <;> (repeat (with_reducible refine And.intro ?_ ?_; focus first | omega | rfl | assumption | exact ⟨_, rfl, rfl⟩ | (simp; omega) | (simp; done)))
  · with_reducible refine split2 (fun hb => ?_) (fun hb => ?_) <;> have h := hb <;> (try simp only [wf_preprocess] at h) <;> simp -implicitDefEqProofs (disch := omega) only [go_sem, hb] <;> (repeat (with_reducible refine And.intro ?_ ?_; focus first | omega | rfl | assumption | exact ⟨_, rfl, rfl⟩ | (simp; omega) | (simp; done)))
    · have hi : i < bs.length := by omega
      have hb := hB.rng bs[i] (List.getElem_mem hi)
      have ht : (bs.take 4000).drop i = bs[i] :: (bs.take 4000).drop (i + 1) := by
        rw [List.drop_eq_getElem_cons (by rw [List.length_take]; omega), List.getElem_take]
      rw [ht, hashL] at p3
      simp -implicitDefEqProofs (disch := omega) only [go_sem, encB]
      (repeat (with_reducible refine And.intro ?_ ?_; focus first | omega | rfl | assumption | exact ⟨_, rfl, rfl⟩ | (simp; omega) | (simp; done)))
      all_goals try omega
      exact inv_at (i + 1, _) (by simp only; omega) rfl rfl ⟨by simp only; omega, by simp only; omega, p3⟩
    · exact fin (.inr (by omega))
  · exact fin (.inl (by omega))
theorem big_ok (bs : List Int) : PCall Tryz.prog 4 [.c (.d (.sl (bs.map encB)))] (.c (.d (.b (decide (1048576 < (bs.length : Int)))))) := fun S => by
  refine acall_cw (rs := [.tmp 2]) Tryz.checked.mixed Tryz.func4 Tryz.ntmps4 rfl rfl rfl rfl rfl ?_
  simp -implicitDefEqProofs (disch := omega) only [go_sem]
end Go.Proofs.YtnceiannponbjaaGreat

namespace Go.Ab
def pushL (S : Store) (os : List Obj) : Store := match S with
  | fr :: Ω => (fr ++ os) :: Ω
  | [] => []
def topL (S : Store) : Nat := match S with
  | fr :: _ => fr.length
  | [] => 0
def hasTop (S : Store) : Bool := match S with
  | _ :: _ => true
  | [] => false
theorem pushL_cons {fr : List Obj} {Ω : Store} {os : List Obj} : pushL (fr :: Ω) os = (fr ++ os) :: Ω := rfl
theorem topL_cons {fr : List Obj} {Ω : Store} : topL (fr :: Ω) = fr.length := rfl
theorem hasTop_cons {fr : List Obj} {Ω : Store} : hasTop (fr :: Ω) = true := rfl
theorem hasTop_set {k : Key} {x : Obj} : ∀ {S : Store}, hasTop (setO S k x) = hasTop S
  | [] => rfl
  | fr :: S => by
    obtain ⟨l, j⟩ := k
    cases l <;> rfl
theorem topL_set {k : Key} {x : Obj} : ∀ {S : Store}, topL (setO S k x) = topL S
  | [] => rfl
  | fr :: S => by
    obtain ⟨l, j⟩ := k
    cases l
    · show (fr.set j x).length = fr.length
      simp
    · rfl
def Esc (P : Program) (f : FuncId) (args : List V) (S : Store) (raw : V → List Obj → Store → Prop) : Prop :=
  Known P f ∧ ∀ w σ β vs, RepS w σ S β → RepVs w σ S β args vs →
    Calls P f vs.toArray w fun e w' => ∃ v r own S1 bo β1 σ', e = .returned v ∧ RepS w' σ' (own :: S1) (bo :: β1) ∧ Keep S β S1 β1 ∧ Step S β σ w (own :: S1) (bo :: β1) σ' w' ∧ RepV w' σ' (own :: S1) (bo :: β1) r v ∧ raw r own S1
def rawQ (P : Program) (rs : List ResultVar) (raw : V → List Obj → Store → Prop) (e : Exit) (s : St) : Prop :=
  match e with
  | .normal | .ret => (resV P rs s).1 ∧ match s.st with
    | own :: S1 => raw (resV P rs s).2 own S1
    | [] => False
  | _ => False
section
variable {P : Program} {N : Nat} {s : St} {S : Store}
theorem esc_enter {f : FuncId} {fn : Func} {c : Code} {args : List V} {raw : V → List Obj → Store → Prop} (hf : P.funcs[f]? = some fn) (hb : fn.body = some c) (hn : (fn.name == "runtime.NumGoroutine") = false)
    (hl : args.length ≤ fn.ntmps) (h : AW P fn.ntmps c (rawQ P fn.results.toList raw) ⟨argTm (args.map (V.up 1)) 0, [] :: S⟩) : Esc P f args S raw := by
  refine ⟨⟨fn, hf, hn, by simp [hb]⟩, fun w σ β vs hS hargs => ?_⟩
  refine calls_of_wp hf hb ?_
  have hlen : vs.length = args.length := hargs.1.symm
  have hRep : Rep fn.ntmps ⟨argTm (args.map (V.up 1)) 0, [] :: S⟩ { tmps := vs.toArray ++ Array.replicate (fn.ntmps - vs.toArray.size) undef, defers := [] } w σ ([] :: β) := by
    refine ⟨by simp; omega, rfl, hS.up1, fun t => ?_⟩
    show RepV w σ ([] :: S) ([] :: β) (look (argTm (args.map (V.up 1)) 0) t) _
    rw [look_argTm, if_pos (Nat.zero_le _), Nat.sub_zero, List.getElem?_map]
    cases ha : args[t]? with
    | none => exact trivial
    | some x =>
      obtain ⟨v, hv, hr⟩ := hargs.2 t x ha
      have ht := (List.getElem?_eq_some_iff.1 hv).1
      have : (vs.toArray ++ Array.replicate (fn.ntmps - vs.toArray.size) undef).getD t undef = v := by
        rw [Array.getD_eq_getD_getElem?, Array.getElem?_append_left (by simpa using ht)]
        simp [hv]
      rw [this]
      exact rep_upV (S := [] :: S) (β := [] :: β) 1 hr
  refine wp_mono (h _ w σ ([] :: β) hRep) ?_
  rintro e a' w' ⟨s', σ', β', hR, hst, hkp, hq⟩
  have main : ((resV P fn.results.toList s').1 ∧ match s'.st with
    | own :: S1 => raw (resV P fn.results.toList s').2 own S1
    | [] => False) →
      a'.defers = [] ∧ ∃ v, (results fn a'.tmps).run P w' = .ok v w' ∧ ∃ v1 r own S1 bo β1 σ', Ending.returned v = Ending.returned v1 ∧ RepS w' σ' (own :: S1) (bo :: β1) ∧ Keep S β S1 β1 ∧ Step S β σ w (own :: S1) (bo :: β1) σ' w' ∧ RepV w' σ' (own :: S1) (bo :: β1) r v1 ∧ raw r own S1 := by
    rintro ⟨q1, q2⟩
    obtain ⟨v, hv, hrep⟩ := res_sound (fn := fn) hR q1
    obtain ⟨tm, st⟩ := s'
    simp only at q2
    split at q2
    · rename_i own S1
      obtain ⟨bo, β1, rfl, hlo⟩ := frames hR
      have hst' : Step ([] :: S) ([] :: β) σ w (own :: S1) (bo :: β1) σ' w' := hst
      exact ⟨hR.defers, v, hv, v, _, own, S1, bo, β1, σ', rfl, hR.S, hkp, ⟨hst'.size, hst'.os, hst'.output, fun b hb ho => hst'.far b hb (fun x => ho (own_up1 x)), hst'.near, fun b hb => (hst'.own b hb).imp own_up1 id⟩, hrep, q2⟩
    · exact q2.elim
  cases e with
  | normal => exact main hq
  | ret => exact main hq
  | _ => exact hq.elim
def rawS (P : Program) (rs : List ResultVar) (raw : V → List Obj → Store → Prop) (s : St) (r : R) : Prop := r.1 ∧ match s.st with
  | own :: S1 => raw r.2 own S1
  | [] => False
@[congr] theorem rawS_congr {rs : List ResultVar} {raw : V → List Obj → Store → Prop} {s s' : St} {r r' : R} (h1 : s = s') (h2 : r = r') : rawS P rs raw s r = rawS P rs raw s' r' := by rw [h1, h2]
theorem rawQ_ret {rs : List ResultVar} {raw : V → List Obj → Store → Prop} {tm : List (Nat × V)} {S : Store} : rawQ P rs raw .ret ⟨tm, S⟩ = rawS P rs raw ⟨tm, S⟩ (resV P rs ⟨tm, S⟩) := rfl
theorem rawQ_normal {rs : List ResultVar} {raw : V → List Obj → Store → Prop} {tm : List (Nat × V)} {S : Store} : rawQ P rs raw .normal ⟨tm, S⟩ = rawS P rs raw ⟨tm, S⟩ (resV P rs ⟨tm, S⟩) := rfl
theorem rawS_mk {rs : List ResultVar} {raw : V → List Obj → Store → Prop} {tm : List (Nat × V)} {own : List Obj} {S1 : Store} {p : Prop} {v : V} : rawS P rs raw ⟨tm, own :: S1⟩ (p, v) = (p ∧ raw v own S1) := rfl
theorem esc_cw {f : FuncId} {fn : Func} {c : Code} {args : List V} {raw : V → List Obj → Store → Prop} {rs : List ResultVar} (hmix : P.follows .mixedOrders = true) (hf : P.funcs[f]? = some fn) (hN : fn.ntmps = N)
    (hb : fn.body = some c) (hn : (fn.name == "runtime.NumGoroutine") = false) (hr : fn.results.toList = rs) (hl : Nat.ble args.length N = true) (hok : codeOk N c = true)
    (h : CW P N c (rawQ P rs raw) ⟨argTm (args.map (V.up 1)) 0, [] :: S⟩) : Esc P f args S raw := by
  subst hN
  subst hr
  exact esc_enter hf hb hn (Nat.le_of_ble_eq_true hl) (cw_sound hmix c _ _ hok h)
theorem esc_cwc (T : List TypeId) {f : FuncId} {fn : Func} {c : Code} {args : List V} {raw : V → List Obj → Store → Prop} {rs : List ResultVar} (hmix : P.follows .mixedOrders = true) (hf : P.funcs[f]? = some fn) (hN : fn.ntmps = N)
    (hb : fn.body = some c) (hn : (fn.name == "runtime.NumGoroutine") = false) (hr : fn.results.toList = rs) (hl : Nat.ble args.length N = true) (hok : codeOkC T N c = true)
    (h : CWC P N T c (rawQ P rs raw) ⟨argTm (args.map (V.up 1)) 0, [] :: S⟩) : Esc P f args S raw := by
  subst hN
  subst hr
  exact esc_enter hf hb hn (Nat.le_of_ble_eq_true hl) (cwc_sound hmix c _ _ hok h)
theorem Esc.mono {f : FuncId} {args : List V} {raw raw' : V → List Obj → Store → Prop} (h : Esc P f args S raw) (hi : ∀ r own S1, raw r own S1 → raw' r own S1) : Esc P f args S raw' :=
  ⟨h.1, fun w σ β vs hS hv => (h.2 w σ β vs hS hv).mono fun e w' ⟨v, r, own, S1, bo, β1, σ', q1, q2, q3, q4, q5, q6⟩ => ⟨v, r, own, S1, bo, β1, σ', q1, q2, q3, q4, q5, hi _ _ _ q6⟩⟩
end
def SlOf (own : List Obj) (x : C) (z : Nat) (es : List (List D)) : Prop := (∃ m, own[m]? = some (.tok z es) ∧ x = .tsl (0, m) es) ∨ (x = .fsl es ∧ ∀ e ∈ es, e.length = z)
section
variable {w : World} {σ : Nat → Nat} {own fr : List Obj} {Ω : Store} {bo bf : List Value} {bΩ : Hs}
theorem slof_data {S1 : Store} {β1 : Hs} {x : C} {z : Nat} {es : List (List D)} {v : Value} (h : SlOf own x z es) (hr : RepC w σ (own :: S1) (bo :: β1) x v) : RepD w σ (.sl es) v := by
  rcases h with ⟨m, h1, rfl⟩ | ⟨rfl, _⟩
  · exact hr.1
  · exact hr.1
theorem slof_tok {S1 : Store} {β1 : Hs} {x : C} {z : Nat} {es : List (List D)} {v : Value} (hS : RepS w σ (own :: S1) (bo :: β1)) (h : SlOf own x z es) (hr : RepC w σ (own :: S1) (bo :: β1) x v) :
    (∀ S' β', RepObj w σ S' β' (.tok z es) v) ∧ ∀ b, owns (.tok z es) v b → ∃ m, own[m]? = some (.tok z es) ∧ x = .tsl (0, m) es ∧ bo[m]? = some v := by
  rcases h with ⟨m, h1, rfl⟩ | ⟨rfl, h2⟩
  · obtain ⟨hd, o, ho, hl⟩ := hr
    rw [getO_zero, h1] at ho; cases ho
    have hb := (hl _ _ (.inl rfl)).2 rfl
    obtain ⟨hv, e1, e2⟩ := hS.obj (0, m) _ (by rw [getO_zero]; exact h1)
    rw [hb] at e1; cases e1
    rw [getO_zero] at hb
    exact ⟨fun _ _ => e2, fun b _ => ⟨m, h1, rfl, hb⟩⟩
  · obtain ⟨hd, a, n, rfl⟩ := hr
    have hn : n = es.length := by cases hd <;> rfl
    subst hn
    refine ⟨fun _ _ => ⟨hd, h2, a, es.length, rfl, Nat.le_refl _, .inl rfl⟩, fun b hb => ?_⟩
    cases a with
    | none => cases hb
    | some a => simp [owns, blk] at hb
end
def plainL (cs : List C) : Bool := cs.all fun c => match c with
  | .d _ => true
  | _ => false
theorem plain_repC {w : World} {σ : Nat → Nat} {S S' : Store} {β β' : Hs} {c : C} {v : Value} (h : (match c with
  | .d _ => true
  | _ => false) = true) (hr : RepC w σ S β c v) : RepC w σ S' β' c v := by
  cases c <;> first | exact hr | (cases h; done)
theorem plain_cells {w : World} {σ : Nat → Nat} {S S' : Store} {β β' : Hs} {pre post : List C} {x x' : C} {a : List Value} (h1 : plainL pre = true) (h2 : plainL post = true) (hr : RepCs w σ S β (pre ++ x :: post) a)
    (hx : ∀ v, a[pre.length]? = some v → RepC w σ S β x v → RepC w σ S' β' x' v) : RepCs w σ S' β' (pre ++ x' :: post) a := by
  refine ⟨by simpa using hr.1, fun j y hy => ?_⟩
  rcases Nat.lt_trichotomy j pre.length with hj | hj | hj
  · rw [List.getElem?_append_left hj] at hy
    obtain ⟨v, e1, e2, e3⟩ := hr.2 j y (by rw [List.getElem?_append_left hj]; exact hy)
    exact ⟨v, e1, plain_repC (List.all_eq_true.1 h1 y (List.mem_of_getElem? hy)) e2, e3⟩
  · subst hj
    rw [List.getElem?_append_right (Nat.le_refl _), Nat.sub_self, List.getElem?_cons_zero] at hy
    cases hy
    obtain ⟨v, e1, e2, e3⟩ := hr.2 pre.length x (by rw [List.getElem?_append_right (Nat.le_refl _), Nat.sub_self]; rfl)
    exact ⟨v, e1, hx v e1 e2, e3⟩
  · rw [List.getElem?_append_right (by omega), show j - pre.length = (j - pre.length - 1) + 1 by omega, List.getElem?_cons_succ] at hy
    obtain ⟨v, e1, e2, e3⟩ := hr.2 j y (by rw [List.getElem?_append_right (by omega), show j - pre.length = (j - pre.length - 1) + 1 by omega, List.getElem?_cons_succ]; exact hy)
    exact ⟨v, e1, plain_repC (List.all_eq_true.1 h2 y (List.mem_of_getElem? hy)) e2, e3⟩
section
variable {P : Program} {S S' : Store} {f : FuncId} {args : List V}
theorem Esc.plain {pre post : List C} {z : Nat} {es : List (List D)} (h1 : plainL pre = true) (h2 : plainL post = true) (h : Esc P f args S fun r own S1 => S1 = S' ∧ ∃ x, r = .agg (pre ++ x :: post) ∧ SlOf own x z es) :
    ACall P f args S fun r S1 => r = .agg (pre ++ .d (.sl es) :: post) ∧ S1 = S' := by
  refine ⟨h.1, fun w σ β vs hS hv => (h.2 w σ β vs hS hv).mono fun e w' ⟨v, r, own, S1, bo, β1, σ', q1, q2, q3, q4, q5, q6, x, q7, q8⟩ => ?_⟩
  subst q6 q7
  obtain ⟨a, rfl, hc⟩ := q5
  exact ⟨_, .agg (pre ++ .d (.sl es) :: post), S1, σ', β1, q1, q2.down1, q3, ⟨q4.size, q4.os, q4.output, q4.far, q4.near, fun b hb => q4.own b (own_down1 hb)⟩, ⟨a, rfl, plain_cells h1 h2 hc fun v e1 e2 => slof_data q8 e2⟩, rfl, rfl⟩
theorem Esc.push {pre post : List C} {z : Nat} {es : List (List D)} (h1 : plainL pre = true) (h2 : plainL post = true) (ht : hasTop S' = true) (h : Esc P f args S fun r own S1 => S1 = S' ∧ ∃ x, r = .agg (pre ++ x :: post) ∧ SlOf own x z es) :
    ACall P f args S fun r S1 => r = .agg (pre ++ .tsl (0, topL S') es :: post) ∧ S1 = pushL S' [.tok z es] := by
  refine ⟨h.1, fun w σ β vs hS hv => (h.2 w σ β vs hS hv).mono fun e w' ⟨v, r, own, S1, bo, β1, σ', q1, q2, q3, q4, q5, q6, x, q7, q8⟩ => ?_⟩
  subst q6 q7
  obtain ⟨a, rfl, hc⟩ := q5
  obtain ⟨u, e1, e2, e3⟩ := hc.2 pre.length x (by rw [List.getElem?_append_right (Nat.le_refl _), Nat.sub_self]; rfl)
  obtain ⟨k1, k2⟩ := slof_tok q2 q8 e2
  cases S1 with
  | nil => cases ht
  | cons fr Ω =>
  have hd := q2.down1
  obtain ⟨bf, bΩ, rfl, hlen⟩ : ∃ bf bΩ, β1 = bf :: bΩ ∧ bf.length = fr.length := by
    cases β1 with
    | nil => have := hd.shape.1; simp at this
    | cons bf bΩ =>
      refine ⟨bf, bΩ, rfl, ?_⟩
      obtain ⟨gr, q1, q2⟩ := hd.shape.2 0 fr rfl
      simp at q1; rw [q1]; exact q2
  obtain ⟨l1, l2, l3⟩ := hd.lay (o := .tok z es) (h := u) hlen (k1 _ _) fun b hb ⟨k, o, hh, f1, f2, f3⟩ => by
    obtain ⟨m, g1, g2, g3⟩ := k2 b hb
    have := q2.apart (0, m) (k.1 + 1, k.2) _ o u hh b (by rw [getO_zero]; exact g1) (by rw [getO_zero]; exact g3) hb (by rw [getO_succ]; exact f1) (by rw [getO_succ]; exact f2) f3
    cases this
  refine ⟨_, .agg (pre ++ .tsl (0, topL (fr :: Ω)) es :: post), _, σ', _, q1, l1, q3.trans l2, ⟨q4.size, q4.os, q4.output, q4.far, q4.near, fun b hb => ?_⟩, ⟨a, rfl, plain_cells h1 h2 hc fun v f1 f2 => ?_⟩, rfl, rfl⟩
  · rcases l3 b hb with q | q
    · exact q4.own b (own_down1 q)
    · obtain ⟨m, g1, g2, g3⟩ := k2 b q
      exact q4.own b ⟨(0, m), _, u, by rw [getO_zero]; exact g1, by rw [getO_zero]; exact g3, q⟩
  · rw [e1] at f1; cases f1
    refine ⟨slof_data q8 e2, _, by rw [topL_cons]; exact getO_push_new _ _ _, fun esz es' e => ?_⟩
    obtain ⟨_, rfl⟩ := istok_of (lab := none) e
    exact ⟨Nat.le_refl _, fun _ => by rw [topL_cons, ← hlen, getO_push_new]⟩
end
attribute [go_sem ↓] rawQ_ret rawQ_normal
attribute [go_sem] rawS_mk pushL_cons topL_cons hasTop_cons hasTop_set topL_set
end Go.Ab

namespace Go.Proofs.YtnceiannponbjaaGreat
open Go Go.Ab
end Go.Proofs.YtnceiannponbjaaGreat

namespace Go.Ab
def varT (s : List UInt8) : MType := .mk 1 s []
def conT (s : List UInt8) (l : List MType) : MType := .mk 2 s l
def projT (s : List UInt8) (t : MType) : MType := .mk 3 s [t]
def dynT (s : List UInt8) : MType := .mk 4 s []
def baseL : List (List UInt8) := [[105, 110, 116], [98, 111, 111, 108], [117, 110, 105, 116]]
def listL : List (List UInt8) := [[108, 105, 115, 116], [108, 105, 115, 116], [98, 111, 120]]
def tyD {bs : List Int} (vars : List (List UInt8)) : Nat → Cu bs → MType × Cu bs
  | 0, c => if (belowD 8 c).1 < 3 ∧ 0 < vars.length then (varT (pickD vars (belowD 8 c).2).1, (pickD vars (belowD 8 c).2).2)
    else (conT (pickD baseL (belowD 8 c).2).1 [], (pickD baseL (belowD 8 c).2).2)
  | n + 1, c => if (belowD 8 c).1 < 3 ∧ 0 < vars.length then (varT (pickD vars (belowD 8 c).2).1, (pickD vars (belowD 8 c).2).2)
    else if (belowD 8 c).1 < 5 then (conT (pickD baseL (belowD 8 c).2).1 [], (pickD baseL (belowD 8 c).2).2)
    else if (belowD 8 c).1 = 5 then (conT [112, 97, 105, 114] [(tyD vars n (belowD 8 c).2).1, (tyD vars n (tyD vars n (belowD 8 c).2).2).1], (tyD vars n (tyD vars n (belowD 8 c).2).2).2)
    else (conT (pickD listL (belowD 8 c).2).1 [(tyD vars n (pickD listL (belowD 8 c).2).2).1], (tyD vars n (pickD listL (belowD 8 c).2).2).2)
def Short8 (l : List (List UInt8)) : Prop := ∀ s ∈ l, s.length ≤ 8
theorem pickD_len {bs : List Int} {xs : List (List UInt8)} (c : Cu bs) (h : Short8 xs) : (pickD xs c).1.length ≤ 8 := by
  by_cases h1 : 1 ≤ xs.length
  · exact h _ (pickD_mem c h1)
  · have : xs = [] := List.eq_nil_of_length_eq_zero (by omega)
    subst this
    simp [pickD]
theorem short_base : Short8 baseL := by unfold Short8; decide
theorem short_list : Short8 listL := by unfold Short8; decide
theorem sz_var (s : List UInt8) : (varT s).sz = s.length := by simp [varT, MType.sz, MType.enc_eq, szRow, D.sz, szRows, MType.fName, MType.fArgs]
theorem sz_con0 (s : List UInt8) : (conT s []).sz = s.length := by simp [conT, MType.sz, MType.enc_eq, szRow, D.sz, szRows, MType.fName, MType.fArgs]
theorem sz_con1 (s : List UInt8) (t : MType) : (conT s [t]).sz = s.length + 1 + t.sz := by
  have := MType.sz_def t
  simp only [conT, MType.sz, MType.enc_eq, szRow, D.sz, szRows, MType.fName, MType.fArgs, List.map_cons, List.map_nil, List.length_cons, List.length_nil] at this ⊢
  omega
theorem sz_con2 (s : List UInt8) (t u : MType) : (conT s [t, u]).sz = s.length + 2 + t.sz + u.sz := by
  have h1 := MType.sz_def t
  have h2 := MType.sz_def u
  simp only [conT, MType.sz, MType.enc_eq, szRow, D.sz, szRows, MType.fName, MType.fArgs, List.map_cons, List.map_nil, List.length_cons, List.length_nil] at h1 h2 ⊢
  omega
theorem tyD_sz {bs : List Int} {vars : List (List UInt8)} (hv : Short8 vars) : ∀ (n : Nat) (c : Cu bs), (tyD vars n c).1.sz + 10 ≤ 18 * 2 ^ n
  | 0, c => by
    rw [tyD]
    split
    · have := pickD_len (belowD 8 c).2 hv
      simp only [sz_var]; omega
    · have := pickD_len (belowD 8 c).2 short_base
      simp only [sz_con0]; omega
  | n + 1, c => by
    have ih := tyD_sz hv n (bs := bs)
    have hp : 2 ^ (n + 1) = 2 ^ n + 2 ^ n := by rw [Nat.pow_succ]; omega
    have h2 := Nat.one_le_two_pow (n := n)
    rw [tyD]
    split
    · have := pickD_len (belowD 8 c).2 hv
      simp only [sz_var]; omega
    split
    · have := pickD_len (belowD 8 c).2 short_base
      simp only [sz_con0]; omega
    split
    · have h3 := ih (belowD 8 c).2
      have h4 := ih (tyD vars n (belowD 8 c).2).2
      simp only [sz_con2, List.length_cons, List.length_nil]
      omega
    · have h3 := ih (pickD listL (belowD 8 c).2).2
      have := pickD_len (belowD 8 c).2 short_list
      simp only [sz_con1]
      omega
def tyP (t : MType) : List C := [.d (.i .i64 t.fKind), .d (.s t.fName)]
theorem tyP_plain (t : MType) : plainL (tyP t) = true := rfl
def tyRaw (t : MType) (S' : Store) (r : V) (own : List Obj) (S1 : Store) : Prop := S1 = S' ∧ ∃ x, r = .agg (tyP t ++ x :: []) ∧ SlOf own x 3 (t.fArgs.map MType.enc)
end Go.Ab
namespace Go.Proofs.YtnceiannponbjaaGreat
open Go Go.Ab
theorem encT_len (l : List MType) : ∀ y ∈ l.map MType.enc, y.length = 3 := by
  intro y hy
  obtain ⟨x, _, rfl⟩ := List.mem_map.1 hy
  rw [MType.enc_eq]; rfl
theorem l4Var_ok (s : List UInt8) : PCall Tryz.prog 39 [.c (.d (.s s))] (.agg [.d (.i .i64 1), .d (.s s), .fsl []]) := fun S => by
  refine acall_cw (rs := [.cell 2 62]) Tryz.checked.mixed Tryz.func39 Tryz.ntmps39 rfl rfl rfl rfl rfl ?_
  simp -implicitDefEqProofs (disch := omega) only [go_sem]
  first | done | exact ⟨rfl, rfl⟩ | rfl
theorem l4Con_esc (s : List UInt8) (l : List MType) {es : List (List D)} (he : es = l.map MType.enc) (hl : l.length ≤ 1048576) {a : C} (ha : a = .d (.sl es) ∨ a = .fsl es) (S : Store) : Esc Tryz.prog 40 [.c (.d (.s s)), .c a] S (tyRaw (conT s l) S) := by
  subst he
  refine esc_cw (rs := [.cell 4 62]) Tryz.checked.mixed Tryz.func40 Tryz.ntmps40 rfl rfl rfl rfl rfl ?_
  have hln := encT_len l
  rcases ha with rfl | rfl
  all_goals
    simp -implicitDefEqProofs (disch := omega) only [go_sem]
    refine ⟨hln, ⟨_, rfl, rfl⟩, fun y hy => absurd hy List.not_mem_nil, by omega, rfl, _, rfl, .inl ⟨1, rfl, rfl⟩⟩
theorem tyRaw_plain {f : FuncId} {args : List V} {S S' : Store} {t : MType} (h : Esc Tryz.prog f args S (tyRaw t S')) : ACall Tryz.prog f args S (fun r S1 => r = .agg [.d (.i .i64 t.fKind), .d (.s t.fName), .d (.sl (t.fArgs.map MType.enc))] ∧ S1 = S') :=
  Esc.plain (tyP_plain t) rfl h
theorem tyRaw_push {f : FuncId} {args : List V} {S S' : Store} {t : MType} (ht : hasTop S' = true) (h : Esc Tryz.prog f args S (tyRaw t S')) :
    ACall Tryz.prog f args S (fun r S1 => r = .agg [.d (.i .i64 t.fKind), .d (.s t.fName), .tsl (0, topL S') (t.fArgs.map MType.enc)] ∧ S1 = pushL S' [.tok 3 (t.fArgs.map MType.enc)]) :=
  Esc.push (tyP_plain t) rfl ht h
theorem l4Con_push (s : List UInt8) (l : List MType) {es : List (List D)} (he : es = l.map MType.enc) (hl : l.length ≤ 1048576) {a : C} (ha : a = .d (.sl es) ∨ a = .fsl es) {own : List Ab.Obj} {Ω : Store} :
    ACall Tryz.prog 40 [.c (.d (.s s)), .c a] (own :: Ω) (fun r S1 => r = .agg [.d (.i .i64 2), .d (.s s), .tsl (0, own.length) es] ∧ S1 = (own ++ [.tok 3 es]) :: Ω) := by
  have := tyRaw_push (S' := own :: Ω) rfl (l4Con_esc s l he hl ha (own :: Ω))
  rw [he]
  exact this
theorem l4Con_ok (s : List UInt8) (l : List MType) {es : List (List D)} (he : es = l.map MType.enc) (hl : l.length ≤ 1048576) {a : C} (ha : a = .d (.sl es) ∨ a = .fsl es) : PCall Tryz.prog 40 [.c (.d (.s s)), .c a] (.agg [.d (.i .i64 2), .d (.s s), .d (.sl es)]) := fun S => by
  have := tyRaw_plain (l4Con_esc s l he hl ha S)
  rw [he]
  exact this
theorem pick_idx {bs : List Int} {xs : List (List UInt8)} (c : Cu bs) (hi : (belowD (xs.length : Int) c).1.toNat < xs.length) : xs[(belowD (xs.length : Int) c).1.toNat] = (pickD xs c).1 := by
  simp only [pickD, List.getD, List.getElem?_eq_getElem hi, Option.getD_some]
theorem l4Ty_esc {bs : List Int} (hB : Bytes bs) {vars : List (List UInt8)} (hv : vars.length ≤ 256) : ∀ (n : Nat) (c : Cu bs) (l j : Nat) (S : Store), getO S (l, j) = some (.box (cur c)) → n ≤ 1048576 →
    Esc Tryz.prog 78 [.c (.ptr (l, j) 0), .c (.d (.sl (vars.map encS))), .c (.d (.i .i64 n))] S (tyRaw (tyD vars n c).1 (setO S (l, j) (.box (cur (tyD vars n c).2)))) := by
  intro n
  induction n with
  | zero =>
    intro c l j S hk hn
    have g : ∀ x : Ab.Obj, getO (setO S (l, j) x) (l, j) = some x := fun x => getO_setO_eq _ _ _ _ hk
    obtain ⟨k, hkd⟩ : ∃ k, k = (belowD 8 c).1 := ⟨_, rfl⟩
    obtain ⟨c1, hc1⟩ : ∃ c1, c1 = (belowD 8 c).2 := ⟨_, rfl⟩
    rw [tyD, ← hkd, ← hc1]
    refine esc_cw (rs := [.cell 6 62]) Tryz.checked.mixed Tryz.func78 Tryz.ntmps78 rfl rfl rfl rfl rfl ?_
    simp -implicitDefEqProofs (disch := omega) only [go_sem]
    refine call_d rfl (l1Below_ok hB c (1 + l) j _ 8 (by rw [getO_up1]; exact hk) (by omega) (by omega)) ?_
    rw [← hkd, ← hc1]
    have d0 : decide (((0 : Nat) : Int) ≤ 0) = true := rfl
    simp -implicitDefEqProofs (disch := omega) only [go_sem, setO_up1]
    with_reducible refine split2 (fun hb => ?_) (fun hb => ?_) <;> have h := hb <;> (try simp only [wf_preprocess] at h) <;> simp -implicitDefEqProofs (disch := omega) only [go_sem, hb, d0, setO_up1] <;> (repeat (with_reducible refine And.intro ?_ ?_; focus first | omega | rfl | assumption | exact ⟨_, rfl, rfl⟩ | (simp; omega) | (simp; done)))
    rotate_left
    rw [if_neg (by omega)]
    rotate_left
    with_reducible refine split2 (fun hb => ?_) (fun hb => ?_) <;> have h := hb <;> (try simp only [wf_preprocess] at h) <;> simp -implicitDefEqProofs (disch := omega) only [go_sem, hb, d0, setO_up1] <;> (repeat (with_reducible refine And.intro ?_ ?_; focus first | omega | rfl | assumption | exact ⟨_, rfl, rfl⟩ | (simp; omega) | (simp; done)))
    · have hx := belowD_rng (n := vars.length) c1 (by omega)
      have hi : (belowD (vars.length : Int) c1).1.toNat < vars.length := by omega
      rw [if_pos ⟨by omega, by omega⟩]
      refine call_d rfl (l1Below_ok hB c1 (1 + l) j _ vars.length (by rw [getO_up1]; exact g _) (by omega) (by omega)) ?_
      simp -implicitDefEqProofs (disch := omega) only [go_sem, setO_up1, setO_twice, encS]
      (repeat (with_reducible refine And.intro ?_ ?_; focus first | omega | rfl | assumption | exact ⟨_, rfl, rfl⟩ | (simp; omega) | (simp; done)))
      rw [pick_idx c1 hi]
      refine call_w (l4Var_ok (pickD vars c1).1) ?_
      simp -implicitDefEqProofs (disch := omega) only [go_sem] <;> (repeat (with_reducible refine And.intro ?_ ?_; focus first | omega | rfl | assumption | exact ⟨_, rfl, rfl⟩ | (simp; omega) | (simp; done)))
      exact ⟨rfl, _, rfl, .inr ⟨rfl, fun e he => by cases he⟩⟩
    rw [if_neg (by omega)]
    all_goals with_reducible refine split2 (fun hb => ?_) (fun hb => ?_) <;> have h := hb <;> (try simp only [wf_preprocess] at h) <;> simp -implicitDefEqProofs (disch := omega) only [go_sem, hb, d0, setO_up1] <;> (repeat (with_reducible refine And.intro ?_ ?_; focus first | omega | rfl | assumption | exact ⟨_, rfl, rfl⟩ | (simp; omega) | (simp; done)))
    all_goals
      refine call_m [true] rfl (l1Pick_ok hB c1 (1 + l) j _ baseL (by rw [getO_up1]; exact g _) (by decide) (by decide)) ?_
      simp -implicitDefEqProofs (disch := omega) only [go_sem, setO_up1, setO_twice]
      refine call_d rfl (l4Con_push _ [] rfl (Nat.zero_le _) (.inr rfl)) ?_
      simp -implicitDefEqProofs (disch := omega) only [go_sem, setO_up1, setO_twice]
      exact ⟨rfl, _, rfl, .inl ⟨1, rfl, rfl⟩⟩
  | succ n ih =>
    intro c l j S hk hn
    have g : ∀ x : Ab.Obj, getO (setO S (l, j) x) (l, j) = some x := fun x => getO_setO_eq _ _ _ _ hk
    obtain ⟨k, hkd⟩ : ∃ k, k = (belowD 8 c).1 := ⟨_, rfl⟩
    obtain ⟨c1, hc1⟩ : ∃ c1, c1 = (belowD 8 c).2 := ⟨_, rfl⟩
    have ih1 := fun c l j S hk => tyRaw_plain (ih c l j S hk (by omega))
    rw [tyD, ← hkd, ← hc1]
    refine esc_cw (rs := [.cell 6 62]) Tryz.checked.mixed Tryz.func78 Tryz.ntmps78 rfl rfl rfl rfl rfl ?_
    simp -implicitDefEqProofs (disch := omega) only [go_sem]
    refine call_d rfl (l1Below_ok hB c (1 + l) j _ 8 (by rw [getO_up1]; exact hk) (by omega) (by omega)) ?_
    rw [← hkd, ← hc1]
    have d0 : decide (((n + 1 : Nat) : Int) ≤ 0) = false := decide_eq_false (by omega)
    have d1 : ((n + 1 : Nat) : Int) - 1 = (n : Int) := by omega
    simp -implicitDefEqProofs (disch := omega) only [go_sem, setO_up1]
    with_reducible refine split2 (fun hb => ?_) (fun hb => ?_) <;> have h := hb <;> (try simp only [wf_preprocess] at h) <;> simp -implicitDefEqProofs (disch := omega) only [go_sem, hb, d0, setO_up1] <;> (repeat (with_reducible refine And.intro ?_ ?_; focus first | omega | rfl | assumption | exact ⟨_, rfl, rfl⟩ | (simp; omega) | (simp; done)))
    rotate_left
    rw [if_neg (by omega)]
    rotate_left
    with_reducible refine split2 (fun hb => ?_) (fun hb => ?_) <;> have h := hb <;> (try simp only [wf_preprocess] at h) <;> simp -implicitDefEqProofs (disch := omega) only [go_sem, hb, d0, setO_up1] <;> (repeat (with_reducible refine And.intro ?_ ?_; focus first | omega | rfl | assumption | exact ⟨_, rfl, rfl⟩ | (simp; omega) | (simp; done)))
    · have hx := belowD_rng (n := vars.length) c1 (by omega)
      have hi : (belowD (vars.length : Int) c1).1.toNat < vars.length := by omega
      rw [if_pos ⟨by omega, by omega⟩]
      refine call_d rfl (l1Below_ok hB c1 (1 + l) j _ vars.length (by rw [getO_up1]; exact g _) (by omega) (by omega)) ?_
      simp -implicitDefEqProofs (disch := omega) only [go_sem, setO_up1, setO_twice, encS]
      (repeat (with_reducible refine And.intro ?_ ?_; focus first | omega | rfl | assumption | exact ⟨_, rfl, rfl⟩ | (simp; omega) | (simp; done)))
      rw [pick_idx c1 hi]
      refine call_w (l4Var_ok (pickD vars c1).1) ?_
      simp -implicitDefEqProofs (disch := omega) only [go_sem] <;> (repeat (with_reducible refine And.intro ?_ ?_; focus first | omega | rfl | assumption | exact ⟨_, rfl, rfl⟩ | (simp; omega) | (simp; done)))
      exact ⟨rfl, _, rfl, .inr ⟨rfl, fun e he => by cases he⟩⟩
    rw [if_neg (by omega)]
    all_goals
      with_reducible refine split2 (fun hb => ?_) (fun hb => ?_) <;> have h := hb <;> (try simp only [wf_preprocess] at h) <;> simp -implicitDefEqProofs (disch := omega) only [go_sem, hb, d0, setO_up1] <;> (repeat (with_reducible refine And.intro ?_ ?_; focus first | omega | rfl | assumption | exact ⟨_, rfl, rfl⟩ | (simp; omega) | (simp; done)))
      · rw [if_pos (by omega)]
        refine call_m [true] rfl (l1Pick_ok hB c1 (1 + l) j _ baseL (by rw [getO_up1]; exact g _) (by decide) (by decide)) ?_
        simp -implicitDefEqProofs (disch := omega) only [go_sem, setO_up1, setO_twice]
        refine call_d rfl (l4Con_push _ [] rfl (Nat.zero_le _) (.inr rfl)) ?_
        simp -implicitDefEqProofs (disch := omega) only [go_sem, setO_up1, setO_twice]
        exact ⟨rfl, _, rfl, .inl ⟨1, rfl, rfl⟩⟩
      rw [if_neg (by omega)]
      with_reducible refine split2 (fun hb => ?_) (fun hb => ?_) <;> have h := hb <;> (try simp only [wf_preprocess] at h) <;> simp -implicitDefEqProofs (disch := omega) only [go_sem, hb, d1, setO_up1] <;> (repeat (with_reducible refine And.intro ?_ ?_; focus first | omega | rfl | assumption | exact ⟨_, rfl, rfl⟩ | (simp; omega) | (simp; done)))
      · rw [if_pos (by omega)]
        refine call_d rfl (ih1 c1 (1 + l) j _ (by rw [getO_up1]; exact g _)) ?_
        simp -implicitDefEqProofs (disch := omega) only [go_sem, d1, setO_up1, setO_twice]
        refine call_d rfl (ih1 (tyD vars n c1).2 (1 + l) j _ (by rw [getO_up1]; exact g _)) ?_
        simp -implicitDefEqProofs (disch := omega) only [go_sem, setO_up1, setO_twice]
        (repeat (with_reducible refine And.intro ?_ ?_; focus first | omega | rfl | assumption | exact ⟨_, rfl, rfl⟩ | (simp; omega) | (simp; done)))
        refine call_d rfl (l4Con_push _ [(tyD vars n c1).1, (tyD vars n (tyD vars n c1).2).1] (by simp only [List.map_cons, List.map_nil, MType.enc_eq]) (by simp) (.inr rfl)) ?_
        simp -implicitDefEqProofs (disch := omega) only [go_sem, setO_up1, setO_twice]
        refine ⟨rfl, _, rfl, .inl ⟨1, ?_, ?_⟩⟩ <;> simp only [conT, MType.fArgs, List.map_cons, List.map_nil, MType.enc_eq] <;> rfl
      · rw [if_neg (by omega)]
        refine call_m [true] rfl (l1Pick_ok hB c1 (1 + l) j _ listL (by rw [getO_up1]; exact g _) (by decide) (by decide)) ?_
        simp -implicitDefEqProofs (disch := omega) only [go_sem, d1, setO_up1, setO_twice]
        refine call_d rfl (ih1 (pickD listL c1).2 (1 + l) j _ (by rw [getO_up1]; exact g _)) ?_
        simp -implicitDefEqProofs (disch := omega) only [go_sem, setO_up1, setO_twice]
        (repeat (with_reducible refine And.intro ?_ ?_; focus first | omega | rfl | assumption | exact ⟨_, rfl, rfl⟩ | (simp; omega) | (simp; done)))
        refine call_d rfl (l4Con_push _ [(tyD vars n (pickD listL c1).2).1] (by simp only [List.map_cons, List.map_nil, MType.enc_eq]) (by simp) (.inr rfl)) ?_
        simp -implicitDefEqProofs (disch := omega) only [go_sem, setO_up1, setO_twice]
        refine ⟨rfl, _, rfl, .inl ⟨1, ?_, ?_⟩⟩ <;> simp only [conT, MType.fArgs, List.map_cons, List.map_nil, MType.enc_eq] <;> rfl
end Go.Proofs.YtnceiannponbjaaGreat

namespace Go.Proofs.YtnceiannponbjaaGreat
open Go Go.Ab
end Go.Proofs.YtnceiannponbjaaGreat

namespace Go.Proofs.YtnceiannponbjaaGreat
open Go Go.Ab
end Go.Proofs.YtnceiannponbjaaGreat

namespace Go.Proofs.YtnceiannponbjaaGreat
open Go Go.Ab
theorem l4Copy_all : ∀ n : Nat, (∀ x : MType, SizeOf.sizeOf x < n → x.sz ≤ 4194304 → PCall Tryz.prog 99 [x.v] x.v) ∧
    (∀ xs : List MType, SizeOf.sizeOf xs < n → xs.length + szRows (xs.map MType.enc) ≤ 4194304 → PCall Tryz.prog 115 [.c (.d (.sl (xs.map MType.enc)))] (.c (.d (.sl (xs.map MType.enc)))))
  | 0 => ⟨fun x h => by omega, fun x h => by omega⟩
  | n + 1 => by
    obtain ⟨ih, ihS⟩ := l4Copy_all n
    refine ⟨fun x hn hsz S => ?_, fun xs hn hsz S => ?_⟩
    · have lArgs := MType.lt_Args x
      simp only [MType.sz, MType.enc_eq, szRow, szRow_append, D.sz, List.length_map] at hsz
      refine acall_cw (rs := [.cell 2 62]) Tryz.checked.mixed Tryz.func99 Tryz.ntmps99 rfl rfl rfl rfl rfl ?_
      simp -implicitDefEqProofs (disch := omega) only [go_sem]
      refine call_w (ihS x.fArgs (by omega) (by omega)) ?_
      simp -implicitDefEqProofs (disch := omega) only [go_sem]
    · refine acall_cw (rs := [.tmp 2]) Tryz.checked.mixed Tryz.func115 Tryz.ntmps115 rfl rfl rfl rfl rfl ?_
      simp -implicitDefEqProofs (disch := omega) only [go_sem]
      refine aw_tok 3 3 [] rfl (by simp) ?_
      refine loop_at (ι := Nat × List (List D)) Tryz.checked.mixed rfl [0, 3, 4] (fun y => [.c (.d (.sl (xs.map MType.enc))), .c (.tsl (0, 0) y.2), .c (.d (.i .i64 y.1))]) (fun y => [.tok 3 y.2] :: S)
        (fun y => y.1 ≤ xs.length ∧ y.2 = (xs.map MType.enc).take y.1) (fun y => xs.length - y.1) (0, []) rfl rfl ⟨Nat.zero_le _, rfl⟩ ?_
      rintro ⟨i, es⟩ ⟨p1, p2⟩
      simp only at p1 p2
      have pl : es.length ≤ xs.length := by rw [p2]; simp; omega
      simp -implicitDefEqProofs (disch := omega) only [go_sem]
      with_reducible refine split2 (fun hb => ?_) (fun hb => ?_) <;> have h := hb <;> (try simp only [wf_preprocess] at h) <;> simp -implicitDefEqProofs (disch := omega) only [go_sem, hb] <;> (repeat (with_reducible refine And.intro ?_ ?_; focus first | omega | rfl | assumption | exact ⟨_, rfl, rfl⟩ | (simp; omega) | (simp; done)))
      · have hi : i < xs.length := by omega
        have hx : xs[i].sz ≤ szRows (xs.map MType.enc) := szRows_mem (List.mem_map_of_mem (List.getElem_mem hi))
        (repeat (with_reducible refine And.intro ?_ ?_; focus first | omega | rfl | assumption | exact ⟨_, rfl, rfl⟩ | (simp; omega) | (simp; done)))
        refine call_w (ih xs[i] (by have := List.sizeOf_lt_of_mem (List.getElem_mem hi); omega) (by omega)) ?_
        simp -implicitDefEqProofs (disch := omega) only [go_sem]
        (repeat (with_reducible refine And.intro ?_ ?_; focus first | omega | rfl | assumption | exact ⟨_, rfl, rfl⟩ | (simp; omega) | (simp; done)))
        exact inv_at (i + 1, _) (by simp only; omega) rfl rfl ⟨by simp only; omega, by rw [p2]; simp [List.take_succ_eq_append_getElem, hi, MType.enc_eq]⟩
      · have hi : i = xs.length := by omega
        rw [p2, List.take_of_length_le (by rw [List.length_map]; omega)]
theorem l4Copy_ok (x : MType) (h : x.sz ≤ 4194304) : PCall Tryz.prog 99 [x.v] x.v := (l4Copy_all _).1 x (Nat.lt_succ_self _) h
end Go.Proofs.YtnceiannponbjaaGreat

namespace Go.Proofs.YtnceiannponbjaaGreat
open Go Go.Ab
end Go.Proofs.YtnceiannponbjaaGreat

namespace Go.Ab
def abL : List (List UInt8) := [[97], [98]]
def assocL : List (List UInt8) := [[97, 100, 100], [115, 104, 111, 119]]
theorem short_ab : Short8 abL := by unfold Short8; decide
theorem short_assoc : Short8 assocL := by unfold Short8; decide
def freeT {bs : List Int} (t : MType) (c : Cu bs) : MType × Cu bs :=
  if (belowD 8 c).1 = 0 then (projT (pickD assocL (belowD 8 c).2).1 t, (pickD assocL (belowD 8 c).2).2) else
  if (belowD 8 c).1 = 1 then (conT [108, 105, 115, 116] [projT [97, 100, 100] t], (belowD 8 c).2) else
  if (belowD 8 c).1 = 2 then (dynT [115, 104, 111, 119], (belowD 8 c).2) else (t, (belowD 8 c).2)
def freeD {bs : List Int} (n : Nat) (c : Cu bs) : MType × Cu bs := freeT (tyD abL n c).1 (tyD abL n c).2
theorem sz_proj (s : List UInt8) (t : MType) : (projT s t).sz = s.length + 1 + t.sz := by
  have := MType.sz_def t
  simp only [projT, MType.sz, MType.enc_eq, szRow, D.sz, szRows, MType.fName, MType.fArgs, List.map_cons, List.map_nil, List.length_cons, List.length_nil] at this ⊢
  omega
theorem sz_dyn (s : List UInt8) : (dynT s).sz = s.length := by simp [dynT, MType.sz, MType.enc_eq, szRow, D.sz, szRows, MType.fName, MType.fArgs]
theorem freeD_sz {bs : List Int} (n : Nat) (c : Cu bs) : (freeD n c).1.sz ≤ 18 * 2 ^ n + 10 := by
  have h := tyD_sz short_ab n c
  unfold freeD freeT
  split
  · have := pickD_len (belowD 8 (tyD abL n c).2).2 short_assoc
    simp only [sz_proj]; omega
  split
  · simp only [sz_con1, sz_proj, List.length_cons, List.length_nil]; omega
  split
  · simp only [sz_dyn, List.length_cons, List.length_nil]; omega
  · show (tyD abL n c).1.sz ≤ _
    omega
end Go.Ab
namespace Go.Proofs.YtnceiannponbjaaGreat
open Go Go.Ab
theorem l4Proj_ok (s : List UInt8) (t : MType) (h : t.sz ≤ 4194304) : PCall Tryz.prog 79 [.c (.d (.s s)), t.v] (.agg [.d (.i .i64 3), .d (.s s), .fsl ([t].map MType.enc)]) := fun S => by
  refine acall_cw (rs := [.cell 4 62]) Tryz.checked.mixed Tryz.func79 Tryz.ntmps79 rfl rfl rfl rfl rfl ?_
  simp -implicitDefEqProofs (disch := omega) only [go_sem]
  refine call_w (l4Copy_ok t h) ?_
  simp -implicitDefEqProofs (disch := omega) only [go_sem] <;> (repeat (with_reducible refine And.intro ?_ ?_; focus first | omega | rfl | assumption | exact ⟨_, rfl, rfl⟩ | (simp; omega) | (simp; done)))
theorem l4Free_esc {bs : List Int} (hB : Bytes bs) (n : Nat) (c : Cu bs) (l j : Nat) (S : Store) (hk : getO S (l, j) = some (.box (cur c))) (hn : n ≤ 16) :
    Esc Tryz.prog 43 [.c (.ptr (l, j) 0), .c (.d (.i .i64 n))] S (tyRaw (freeD n c).1 (setO S (l, j) (.box (cur (freeD n c).2)))) := by
  have g : ∀ x : Ab.Obj, getO (setO S (l, j) x) (l, j) = some x := fun x => getO_setO_eq _ _ _ _ hk
  unfold freeD
  obtain ⟨t, ht⟩ : ∃ t, t = (tyD abL n c).1 := ⟨_, rfl⟩
  obtain ⟨c1, hc1⟩ : ∃ c1, c1 = (tyD abL n c).2 := ⟨_, rfl⟩
  have hsz : t.sz ≤ 4194304 := by
    have := tyD_sz short_ab n c
    have h2 : 2 ^ n ≤ 2 ^ 16 := Nat.pow_le_pow_right (by omega) hn
    rw [ht]; omega
  rw [← ht, ← hc1]
  unfold freeT
  obtain ⟨k, hkd⟩ : ∃ k, k = (belowD 8 c1).1 := ⟨_, rfl⟩
  obtain ⟨c2, hc2⟩ : ∃ c2, c2 = (belowD 8 c1).2 := ⟨_, rfl⟩
  rw [← hkd, ← hc2]
  refine esc_cwc [39] (rs := [.cell 4 62]) Tryz.checked.mixed Tryz.func43 Tryz.ntmps43 rfl rfl rfl rfl rfl ?_
  simp -implicitDefEqProofs (disch := omega) only [go_sem]
  have h1 := tyRaw_push (S' := [.box [.d (.i .i64 0), .d (.s []), .fsl []]] :: setO S (l, j) (.box (cur (tyD abL n c).2))) rfl (by
    have := l4Ty_esc hB (vars := abL) (by decide) n c (1 + l) j ([.box [.d (.i .i64 0), .d (.s []), .fsl []]] :: S) (by rw [getO_up1]; exact hk) (by omega)
    rw [setO_up1] at this
    exact this)
  rw [← ht, ← hc1] at h1
  refine call_m [true] rfl h1 ?_
  simp -implicitDefEqProofs (disch := omega) only [go_sem, setO_up1]
  refine call_d rfl (l1Below_ok hB c1 (1 + l) j _ 8 (by rw [getO_up1]; exact g _) (by omega) (by omega)) ?_
  rw [← hkd, ← hc2]
  simp -implicitDefEqProofs (disch := omega) only [go_sem, setO_up1, setO_twice]
  with_reducible refine split2 (fun hb => ?_) (fun hb => ?_) <;> have h := hb <;> (try simp only [wf_preprocess] at h) <;> simp -implicitDefEqProofs (disch := omega) only [go_sem, hb, setO_up1, setO_twice] <;> (repeat (with_reducible refine And.intro ?_ ?_; focus first | omega | rfl | assumption | exact ⟨_, rfl, rfl⟩ | (simp; omega) | (simp; done)))
  · rw [if_pos h]
    refine call_m [true] rfl (l1Pick_ok hB c2 (1 + l) j _ assocL (by rw [getO_up1]; exact g _) (by decide) (by decide)) ?_
    simp -implicitDefEqProofs (disch := omega) only [go_sem, setO_up1, setO_twice]
    refine call_w (l4Proj_ok (pickD assocL c2).1 t hsz) ?_
    simp -implicitDefEqProofs (disch := omega) only [go_sem, setO_up1, setO_twice]
    refine ⟨by cases l <;> rfl, ?_⟩
    simp -implicitDefEqProofs (disch := omega) only [go_sem, setO_up1, setO_twice]
    exact ⟨rfl, _, rfl, .inr ⟨by simp [projT, MType.fArgs, MType.enc_eq], encT_len [t]⟩⟩
  rw [if_neg h]
  with_reducible refine split2 (fun hb => ?_) (fun hb => ?_) <;> have h := hb <;> (try simp only [wf_preprocess] at h) <;> simp -implicitDefEqProofs (disch := omega) only [go_sem, hb, setO_up1, setO_twice] <;> (repeat (with_reducible refine And.intro ?_ ?_; focus first | omega | rfl | assumption | exact ⟨_, rfl, rfl⟩ | (simp; omega) | (simp; done)))
  · rw [if_pos h]
    refine call_w (l4Proj_ok [97, 100, 100] t hsz) ?_
    simp -implicitDefEqProofs (disch := omega) only [go_sem, setO_up1, setO_twice]
    (repeat (with_reducible refine And.intro ?_ ?_; focus first | omega | rfl | assumption | exact ⟨_, rfl, rfl⟩ | (simp; omega) | (simp; done)))
    refine call_d rfl (l4Con_push _ [projT [97, 100, 100] t] (by simp [projT, MType.enc_eq, MType.fKind, MType.fName, MType.fArgs]) (by simp) (.inr rfl)) ?_
    simp -implicitDefEqProofs (disch := omega) only [go_sem, setO_up1, setO_twice]
    refine ⟨rfl, _, rfl, .inl ⟨3, ?_, ?_⟩⟩ <;> simp [conT, projT, MType.enc_eq, MType.fKind, MType.fName, MType.fArgs]
  rw [if_neg h]
  with_reducible refine split2 (fun hb => ?_) (fun hb => ?_) <;> have h := hb <;> (try simp only [wf_preprocess] at h) <;> simp -implicitDefEqProofs (disch := omega) only [go_sem, hb, setO_up1, setO_twice] <;> (repeat (with_reducible refine And.intro ?_ ?_; focus first | omega | rfl | assumption | exact ⟨_, rfl, rfl⟩ | (simp; omega) | (simp; done)))
  · rw [if_pos h]
    exact ⟨rfl, _, rfl, .inr ⟨rfl, fun e he => by cases he⟩⟩
  rw [if_neg h]
  exact ⟨rfl, _, rfl, .inl ⟨1, rfl, rfl⟩⟩
theorem l4Free_ok {bs : List Int} (hB : Bytes bs) (n : Nat) (c : Cu bs) (l j : Nat) (S : Store) (hk : getO S (l, j) = some (.box (cur c))) (hn : n ≤ 16) :
    ACall Tryz.prog 43 [.c (.ptr (l, j) 0), .c (.d (.i .i64 n))] S (fun r S1 => r = (freeD n c).1.v ∧ S1 = setO S (l, j) (.box (cur (freeD n c).2))) :=
  tyRaw_plain (l4Free_esc hB n c l j S hk hn)
end Go.Proofs.YtnceiannponbjaaGreat

namespace Go.Ab
section
variable {w : World} {σ : Nat → Nat}
end
section
variable {P : Program} {S S' : Store} {f : FuncId} {args : List V}
end
end Go.Ab

namespace Go.Proofs.YtnceiannponbjaaGreat
open Go Go.Ab
end Go.Proofs.YtnceiannponbjaaGreat

namespace Go.Ab
mutual
def MExpr.cnt : MExpr → Nat
  | .mk _ _ _ _ _ a b => 1 + (MExpr.cnts a + MArm.cnts b)
def MExpr.cnts : List MExpr → Nat
  | [] => 0
  | x :: xs => x.cnt + MExpr.cnts xs
def MArm.cnt : MArm → Nat
  | .mk _ _ b => b.cnt
def MArm.cnts : List MArm → Nat
  | [] => 0
  | x :: xs => x.cnt + MArm.cnts xs
end
theorem MExpr.cnt_eq (x : MExpr) : x.cnt = 1 + (MExpr.cnts x.fArgs + MArm.cnts x.fArms) := by cases x; rw [MExpr.cnt]; rfl
theorem MArm.cnt_eq (x : MArm) : x.cnt = x.fBody.cnt := by cases x; rw [MArm.cnt]; rfl
theorem MExpr.cnts_drop {xs : List MExpr} {i : Nat} (hi : i < xs.length) : MExpr.cnts (xs.drop i) = xs[i].cnt + MExpr.cnts (xs.drop (i + 1)) := by rw [List.drop_eq_getElem_cons hi, MExpr.cnts]
theorem MArm.cnts_drop {xs : List MArm} {i : Nat} (hi : i < xs.length) : MArm.cnts (xs.drop i) = xs[i].fBody.cnt + MArm.cnts (xs.drop (i + 1)) := by rw [List.drop_eq_getElem_cons hi, MArm.cnts, MArm.cnt_eq]
theorem MArm.sz_body (x : MArm) : x.fBody.sz ≤ x.sz := by
  simp only [MArm.sz, MArm.enc_eq, MExpr.sz, szRow, szRow_append, D.sz, List.length_map]
  omega
mutual
theorem MExpr.cnt_le : ∀ x : MExpr, x.cnt ≤ 1 + x.sz
  | .mk k t n m ty a b => by
    have h1 := MExpr.cnts_le a
    have h2 := MArm.cnts_le b
    rw [MExpr.cnt]
    simp only [MExpr.sz, MExpr.enc_eq, szRow, szRow_append, D.sz, List.length_map, MExpr.fArgs, MExpr.fArms]
    omega
theorem MExpr.cnts_le : ∀ xs : List MExpr, MExpr.cnts xs ≤ xs.length + szRows (xs.map MExpr.enc)
  | [] => by simp [MExpr.cnts]
  | x :: xs => by
    have h1 := MExpr.cnt_le x
    have h2 := MExpr.cnts_le xs
    rw [MExpr.cnts, List.length_cons, List.map_cons, szRows, MExpr.sz_def]
    omega
theorem MArm.cnt_le : ∀ x : MArm, x.cnt ≤ 1 + x.sz
  | .mk c v b => by
    have h1 := MExpr.cnt_le b
    have h2 := MArm.sz_body (.mk c v b)
    rw [MArm.cnt]
    simp only [MArm.fBody] at h2
    omega
theorem MArm.cnts_le : ∀ xs : List MArm, MArm.cnts xs ≤ xs.length + szRows (xs.map MArm.enc)
  | [] => by simp [MArm.cnts]
  | x :: xs => by
    have h1 := MArm.cnt_le x
    have h2 := MArm.cnts_le xs
    rw [MArm.cnts, List.length_cons, List.map_cons, szRows, MArm.sz_def]
    omega
end
end Go.Ab
namespace Go.Proofs.YtnceiannponbjaaGreat
open Go Go.Ab
end Go.Proofs.YtnceiannponbjaaGreat

namespace Go.Ab
theorem Short8.append {a b : List (List UInt8)} (h : Short8 a) (k : Short8 b) : Short8 (a ++ b) := fun s hs => (List.mem_append.1 hs).elim (h s) (k s)
end Go.Ab
namespace Go.Proofs.YtnceiannponbjaaGreat
open Go Go.Ab
end Go.Proofs.YtnceiannponbjaaGreat

namespace Go.Ab
end Go.Ab
namespace Go.Proofs.YtnceiannponbjaaGreat
open Go Go.Ab
end Go.Proofs.YtnceiannponbjaaGreat

namespace Go.Ab
def fourD {bs : List Int} (n : Int) (c : Cu bs) : Int × Cu bs :=
  (((byteU c).1 * 16777216 + (byteU (byteU c).2).1 * 65536 + (byteU (byteU (byteU c).2).2).1 * 256 + (byteU (byteU (byteU (byteU c).2).2).2).1).tmod n, (byteU (byteU (byteU (byteU c).2).2).2).2)
def belowG {bs : List Int} (n : Int) (c : Cu bs) : Int × Cu bs := if n ≤ 256 then belowD n c else fourD n c
theorem belowG_rng {bs : List Int} {n : Int} (c : Cu bs) (h : 1 ≤ n) : 0 ≤ (belowG n c).1 ∧ (belowG n c).1 < n := by
  unfold belowG
  split
  · exact belowD_rng c h
  · have h1 := byteU_rng c
    have h2 := byteU_rng (byteU c).2
    have h3 := byteU_rng (byteU (byteU c).2).2
    have h4 := byteU_rng (byteU (byteU (byteU c).2).2).2
    exact ⟨Int.tmod_nonneg _ (by omega), Int.tmod_lt_of_pos _ (by omega)⟩
end Go.Ab
namespace Go.Proofs.YtnceiannponbjaaGreat
open Go Go.Ab
theorem l1BelowG_ok {bs : List Int} (hB : Bytes bs) (c : Cu bs) (l j : Nat) (S : Store) (n : Int) (hk : getO S (l, j) = some (.box (cur c))) (h1 : 1 ≤ n) (h2 : n ≤ 1048577) :
    ACall Tryz.prog 41 [.c (.ptr (l, j) 0), .c (.d (.i .i64 n))] S (fun r S' => r = .c (.d (.i .i64 (belowG n c).1)) ∧ S' = setO S (l, j) (.box (cur (belowG n c).2))) := by
  unfold belowG
  by_cases hn : n ≤ 256
  · rw [if_pos hn]
    exact l1Below_ok hB c l j S n hk h1 hn
  rw [if_neg hn]
  unfold fourD
  have g : ∀ x : Ab.Obj, getO (setO S (l, j) x) (l, j) = some x := fun x => getO_setO_eq _ _ _ _ hk
  have r1 := byteU_rng c
  have r2 := byteU_rng (byteU c).2
  have r3 := byteU_rng (byteU (byteU c).2).2
  have r4 := byteU_rng (byteU (byteU (byteU c).2).2).2
  generalize hx1 : (byteU c).1 = x1 at *
  generalize hc1 : (byteU c).2 = c1 at *
  generalize hx2 : (byteU c1).1 = x2 at *
  generalize hc2 : (byteU c1).2 = c2 at *
  generalize hx3 : (byteU c2).1 = x3 at *
  generalize hc3 : (byteU c2).2 = c3 at *
  generalize hx4 : (byteU c3).1 = x4 at *
  generalize hc4 : (byteU c3).2 = c4 at *
  have d1 : decide (n ≤ 0) = false := decide_eq_false (by omega)
  have d2 : decide (n ≤ 256) = false := decide_eq_false hn
  have q1 := l1Byte_ok hB c (1 + l) j ([] :: S) (by rw [getO_up1]; exact hk)
  rw [hx1, hc1, setO_up1] at q1
  have q2 := l1Byte_ok hB c1 (1 + l) j ([] :: setO S (l, j) (.box (cur c1))) (by rw [getO_up1]; exact g _)
  rw [hx2, hc2, setO_up1, setO_twice] at q2
  have q3 := l1Byte_ok hB c2 (1 + l) j ([] :: setO S (l, j) (.box (cur c2))) (by rw [getO_up1]; exact g _)
  rw [hx3, hc3, setO_up1, setO_twice] at q3
  have q4 := l1Byte_ok hB c3 (1 + l) j ([] :: setO S (l, j) (.box (cur c3))) (by rw [getO_up1]; exact g _)
  rw [hx4, hc4, setO_up1, setO_twice] at q4
  refine acall_cw (rs := [.tmp 4]) Tryz.checked.mixed Tryz.func41 Tryz.ntmps41 rfl rfl rfl rfl rfl ?_
  simp -implicitDefEqProofs (disch := omega) only [go_sem, d1, d2]
  refine call_d rfl q1 ?_
  simp -implicitDefEqProofs (disch := omega) only [go_sem]
  refine call_d rfl q2 ?_
  simp -implicitDefEqProofs (disch := omega) only [go_sem]
  refine call_d rfl q3 ?_
  simp -implicitDefEqProofs (disch := omega) only [go_sem]
  refine call_d rfl q4 ?_
  simp -implicitDefEqProofs (disch := omega) only [go_sem]
  (repeat (with_reducible refine And.intro ?_ ?_; focus first | omega | rfl | assumption | exact ⟨_, rfl, rfl⟩ | (simp; omega) | (simp; done)))
  first | omega | exact ⟨rfl, rfl⟩ | rfl
end Go.Proofs.YtnceiannponbjaaGreat

namespace Go.Ab
def lowerB (b : UInt8) : Prop := 97 ≤ b.toNat ∧ b.toNat ≤ 122
def digitB (b : UInt8) : Prop := 48 ≤ b.toNat ∧ b.toNat ≤ 57
def nameOk (s : List UInt8) : Prop := ∀ i, i < s.length → lowerB (s.getD i 0) ∨ (i ≠ 0 ∧ digitB (s.getD i 0))
def reserved : List (List UInt8) := [[105, 110, 116], [98, 111, 111, 108], [97, 115, 115, 111, 99], [100, 121, 110], [105, 102], [108, 101, 116], [99, 97, 115, 101], [110, 101, 119], [109, 101, 116, 104, 111, 100], [112, 97, 99, 107], [116, 114, 117, 101], [102, 97, 108, 115, 101]]
noncomputable def validName (s : List UInt8) : Bool := dec ((1 ≤ s.length ∧ s.length ≤ 8) ∧ s ∉ reserved ∧ nameOk s)
noncomputable def builtInB (s : List UInt8) : Bool := dec (s = [105, 110, 116] ∨ s = [98, 111, 111, 108])
noncomputable def indexS (xs : List (List UInt8)) (s : List UInt8) : Int := if s ∈ xs then ((xs.findIdx fun x => dec (x = s) : Nat) : Int) else -1
theorem indexS_here {xs : List (List UInt8)} {s : List UInt8} {i : Nat} (hi : i < xs.length) (hj : ∀ j, j < i → xs.getD j [] ≠ s) (h : xs.getD i [] = s) : indexS xs s = i := by
  have e : ∀ j, ∀ hj : j < xs.length, xs.getD j [] = xs[j] := fun j hj => by simp [List.getD, hj]
  have hm : s ∈ xs := by rw [← h, e i hi]; exact List.getElem_mem hi
  unfold indexS
  rw [if_pos hm]
  congr 1
  rw [List.findIdx_eq hi]
  exact ⟨dec_true (by rw [← e i hi]; exact h), fun j hji => dec_false (by rw [← e j (by omega)]; exact hj j hji)⟩
theorem indexS_no {xs : List (List UInt8)} {s : List UInt8} (hj : ∀ j, j < xs.length → xs.getD j [] ≠ s) : indexS xs s = -1 := by
  unfold indexS
  refine if_neg fun hm => ?_
  obtain ⟨j, h1, h2⟩ := List.getElem_of_mem hm
  exact hj j h1 (by simp [List.getD, h1, h2])
theorem indexS_pos {xs : List (List UInt8)} {s : List UInt8} : decide (indexS xs s ≥ 0) = dec (s ∈ xs) := by
  rw [decide_dec]
  refine dec_congr ?_
  unfold indexS
  split
  · rename_i h; exact ⟨fun _ => h, fun _ => by omega⟩
  · rename_i h; exact ⟨fun x => by omega, fun x => absurd x h⟩
def indexP {α : Type} (p : α → Bool) (xs : List α) : Int := if xs.any p then ((xs.findIdx p : Nat) : Int) else -1
theorem indexP_here {α : Type} {p : α → Bool} {xs : List α} {i : Nat} (hi : i < xs.length) (hj : ∀ j, ∀ hj : j < xs.length, j < i → p xs[j] = false) (h : p xs[i] = true) : indexP p xs = i := by
  unfold indexP
  rw [if_pos (List.any_eq_true.2 ⟨xs[i], List.getElem_mem hi, h⟩)]
  congr 1
  rw [List.findIdx_eq hi]
  exact ⟨h, fun j hji => hj j (by omega) hji⟩
theorem indexP_no {α : Type} {p : α → Bool} {xs : List α} (hj : ∀ j, ∀ hj : j < xs.length, p xs[j] = false) : indexP p xs = -1 := by
  unfold indexP
  refine if_neg fun h => ?_
  obtain ⟨x, hx, hp⟩ := List.any_eq_true.1 h
  obtain ⟨j, h1, h2⟩ := List.getElem_of_mem hx
  rw [← h2, hj j h1] at hp
  cases hp
theorem indexP_pos {α : Type} {p : α → Bool} {xs : List α} : decide (indexP p xs ≥ 0) = xs.any p := by
  unfold indexP
  cases h : xs.any p with
  | true => simp
  | false => simp
noncomputable def fineT (k : Int) (n : List UInt8) (len : Nat) : Bool :=
  dec ((k = 1 ∨ k = 4) ∧ validName n = true ∧ len = 0 ∨ k = 3 ∧ validName n = true ∧ len = 1 ∨ k = 2 ∧ (validName n = true ∧ len ≤ 3 ∨ builtInB n = true ∧ len = 0))
mutual
noncomputable def formed : MType → Bool
  | .mk k n a => fineT k n a.length && formeds a
noncomputable def formeds : List MType → Bool
  | [] => true
  | t :: ts => formed t && formeds ts
end
theorem formed_eq (t : MType) : formed t = (fineT t.fKind t.fName t.fArgs.length && formeds t.fArgs) := by cases t; rw [formed]; rfl
theorem formeds_iff : ∀ {ts : List MType}, formeds ts = true ↔ ∀ t ∈ ts, formed t = true
  | [] => by simp [formeds]
  | t :: ts => by simp [formeds, formeds_iff (ts := ts)]
theorem formeds_any : ∀ {ts : List MType}, (ts.any fun t => !formed t) = !formeds ts
  | [] => rfl
  | t :: ts => by rw [List.any_cons, formeds_any (ts := ts), formeds]; simp
mutual
def depthT : MType → Nat
  | .mk _ _ a => depths a
def depths : List MType → Nat
  | [] => 0
  | t :: ts => max (depthT t + 1) (depths ts)
end
theorem depthT_eq (t : MType) : depthT t = depths t.fArgs := by cases t; rw [depthT]; rfl
mutual
theorem depthT_le : ∀ t : MType, depthT t + 1 ≤ t.cnt
  | .mk k n a => by
    have := depths_le a
    rw [depthT, MType.cnt]; omega
theorem depths_le : ∀ ts : List MType, depths ts ≤ MType.cnts ts
  | [] => by simp [depths]
  | t :: ts => by
    have h1 := depthT_le t
    have h2 := depths_le ts
    rw [depths, MType.cnts]
    omega
end
noncomputable def validType (t : MType) : Bool := dec (formed t = true ∧ depthT t ≤ 6 ∧ t.cnt ≤ 60)
end Go.Ab

namespace Go.Ab
def atomX (s : List UInt8) : MSExpr := .mk s []
def listX (l : List MSExpr) : MSExpr := .mk [] l
def wordsX (l : List (List UInt8)) : List MSExpr := l.map atomX
def zeroX : MSExpr := .mk [] []
theorem fAtom_atom (s : List UInt8) : (atomX s).fAtom = s := rfl
theorem fList_atom (s : List UInt8) : (atomX s).fList = [] := rfl
theorem fAtom_list (l : List MSExpr) : (listX l).fAtom = [] := rfl
theorem fList_list (l : List MSExpr) : (listX l).fList = l := rfl
def wDyn : List UInt8 := [100, 121, 110]
def wAssoc : List UInt8 := [97, 115, 115, 111, 99]
mutual
def sxT : MType → MSExpr
  | .mk k n zs => if k = 1 then atomX ([39] ++ n) else if k = 4 then listX [atomX wDyn, atomX n] else if k = 2 ∧ zs.length = 0 then atomX n else
    listX ((if k = 3 then [atomX wAssoc] else []) ++ [atomX n] ++ sxTs zs)
def sxTs : List MType → List MSExpr
  | [] => []
  | t :: ts => sxT t :: sxTs ts
end
theorem sxTs_map : ∀ l, sxTs l = l.map sxT
  | [] => rfl
  | t :: ts => by rw [sxTs, List.map_cons, sxTs_map ts]
theorem sxT_eq (x : MType) : sxT x = if x.fKind = 1 then atomX ([39] ++ x.fName) else if x.fKind = 4 then listX [atomX wDyn, atomX x.fName] else if x.fKind = 2 ∧ x.fArgs.length = 0 then atomX x.fName else
    listX ((if x.fKind = 3 then [atomX wAssoc] else []) ++ [atomX x.fName] ++ x.fArgs.map sxT) := by
  cases x; rw [sxT, sxTs_map]; rfl
theorem valid_formed {t : MType} (h : validType t = true) : formed t = true := (of_dec h).1
theorem sx_sz (x : MSExpr) : x.sz = x.fAtom.length + (x.fList.length + szRows (x.fList.map MSExpr.enc)) := by
  simp only [MSExpr.sz, MSExpr.enc_eq, szRow, D.sz, List.length_map]; omega
def szX : List MSExpr → Nat
  | [] => 0
  | x :: xs => x.sz + szX xs
theorem szX_rows : ∀ l, szRows (l.map MSExpr.enc) = szX l
  | [] => rfl
  | x :: xs => by rw [List.map_cons, szRows, szX, szX_rows xs]; rfl
theorem szX_append : ∀ a b, szX (a ++ b) = szX a + szX b
  | [], b => by simp [szX]
  | x :: a, b => by rw [List.cons_append, szX, szX, szX_append a b]; omega
theorem szX_mem {x : MSExpr} : ∀ {l : List MSExpr}, x ∈ l → x.sz ≤ szX l
  | y :: l, h => by
    rw [szX]
    rcases List.mem_cons.1 h with rfl | h
    · omega
    · have := szX_mem h; omega
theorem sz_atom (s : List UInt8) : (atomX s).sz = s.length := by rw [sx_sz]; simp [atomX, MSExpr.fAtom, MSExpr.fList, szRows]
theorem sz_list (l : List MSExpr) : (listX l).sz = l.length + szX l := by rw [sx_sz, szX_rows]; simp [listX, MSExpr.fAtom, MSExpr.fList]
theorem szX_words : ∀ l : List (List UInt8), szX (wordsX l) = (l.map List.length).sum
  | [] => rfl
  | s :: l => by rw [wordsX, List.map_cons, szX, sz_atom, ← wordsX, szX_words l, List.map_cons, List.sum_cons]
theorem words_len (l : List (List UInt8)) : (wordsX l).length = l.length := by simp [wordsX]
theorem szRows_encS : ∀ l : List (List UInt8), szRows (l.map encS) = (l.map List.length).sum
  | [] => rfl
  | s :: l => by rw [List.map_cons, szRows, szRows_encS l, List.map_cons, List.sum_cons]; simp [encS, szRow, D.sz]
def szT : List MType → Nat
  | [] => 0
  | x :: xs => x.sz + szT xs
theorem szT_rows : ∀ l, szRows (l.map MType.enc) = szT l
  | [] => rfl
  | x :: xs => by rw [List.map_cons, szRows, szT, szT_rows xs]; rfl
theorem ty_sz_eq (x : MType) : x.sz = x.fName.length + (x.fArgs.length + szT x.fArgs) := by
  rw [← szT_rows]; simp only [MType.sz, MType.enc_eq, szRow, D.sz, List.length_map]; omega
mutual
theorem sxT_le : ∀ x : MType, (sxT x).sz ≤ 12 + 16 * x.sz
  | .mk k n zs => by
    have h := sxTs_le zs
    rw [ty_sz_eq]
    simp only [MType.fName, MType.fArgs]
    rw [sxT]
    split
    · rw [sz_atom]; simp; omega
    · split
      · rw [sz_list]; simp [szX, sz_atom, wDyn]; omega
      · split
        · rw [sz_atom]; omega
        · rw [sz_list, szX_append, szX_append, List.length_append, List.length_append, sxTs_map, List.length_map, ← sxTs_map]
          split <;> simp [szX, sz_atom, wAssoc] <;> omega
theorem sxTs_le : ∀ xs : List MType, szX (sxTs xs) ≤ 12 * xs.length + 16 * szT xs
  | [] => by simp [sxTs, szX]
  | x :: xs => by
    have h1 := sxT_le x
    have h2 := sxTs_le xs
    rw [sxTs, szX, szT, List.length_cons]; omega
end
theorem sxT_map_le (xs : List MType) : szX (xs.map sxT) ≤ 12 * xs.length + 16 * szT xs := by rw [← sxTs_map]; exact sxTs_le xs
def atomByte (b : UInt8) : Bool := decide (97 ≤ b.toNat ∧ b.toNat ≤ 122) || decide (48 ≤ b.toNat ∧ b.toNat ≤ 57) || decide (b ∈ ([39, 45, 43, 42, 60, 61, 46] : List UInt8))
def validAtom (s : List UInt8) : Bool := s.all atomByte && decide (1 ≤ s.length ∧ s.length ≤ 12)
mutual
def formX : MSExpr → Bool
  | .mk a l => if a = [] then formXs l else validAtom a && decide (l.length = 0)
def formXs : List MSExpr → Bool
  | [] => true
  | x :: xs => formX x && formXs xs
end
mutual
def depthX : MSExpr → Nat
  | .mk a l => if a = [] then depthXs l + 1 else 0
def depthXs : List MSExpr → Nat
  | [] => 0
  | x :: xs => max (depthX x) (depthXs xs)
end
mutual
def nodeX : MSExpr → Nat
  | .mk _ l => nodeXs l + 1
def nodeXs : List MSExpr → Nat
  | [] => 0
  | x :: xs => nodeX x + nodeXs xs
end
theorem formX_eq (x : MSExpr) : formX x = if x.fAtom = [] then formXs x.fList else validAtom x.fAtom && decide (x.fList.length = 0) := by cases x; rw [formX]; rfl
theorem depthX_eq (x : MSExpr) : depthX x = if x.fAtom = [] then depthXs x.fList + 1 else 0 := by cases x; rw [depthX]; rfl
theorem nodeX_eq (x : MSExpr) : nodeX x = nodeXs x.fList + 1 := by cases x; rw [nodeX]; rfl
theorem formXs_any : ∀ {l : List MSExpr}, (l.any fun t => !formX t) = !formXs l
  | [] => rfl
  | t :: ts => by rw [List.any_cons, formXs_any (l := ts), formXs]; simp
mutual
theorem depthX_node : ∀ x : MSExpr, depthX x ≤ nodeX x
  | .mk a l => by
    have := depthXs_node l
    rw [depthX, nodeX]; split <;> omega
theorem depthXs_node : ∀ l : List MSExpr, depthXs l ≤ nodeXs l
  | [] => by simp [depthXs]
  | x :: xs => by
    have h1 := depthX_node x
    have h2 := depthXs_node xs
    rw [depthXs, nodeXs]; omega
end
mutual
theorem nodeX_sz : ∀ x : MSExpr, nodeX x ≤ x.sz + 1
  | .mk a l => by
    have := nodeXs_sz l
    rw [sx_sz, nodeX, szX_rows]; simp only [MSExpr.fAtom, MSExpr.fList]; omega
theorem nodeXs_sz : ∀ l : List MSExpr, nodeXs l ≤ l.length + szX l
  | [] => by simp [nodeXs]
  | x :: xs => by
    have h1 := nodeX_sz x
    have h2 := nodeXs_sz xs
    rw [nodeXs, szX, List.length_cons]; omega
end
def validX (x : MSExpr) : Bool := formX x && decide (depthX x ≤ 14 ∧ nodeX x ≤ 900)
mutual
theorem formX_sz : ∀ x : MSExpr, formX x = true → x.sz + 1 ≤ 13 * nodeX x
  | .mk a l => fun h => by
    rw [formX] at h
    rw [sx_sz, nodeX, szX_rows]
    simp only [MSExpr.fAtom, MSExpr.fList]
    split at h
    · rename_i ha
      have := formXs_sz l h
      subst ha
      simp only [List.length_nil]; omega
    · rw [Bool.and_eq_true, decide_eq_true_eq] at h
      have h1 := h.1
      unfold validAtom at h1
      rw [Bool.and_eq_true, decide_eq_true_eq] at h1
      have : l = [] := List.eq_nil_of_length_eq_zero h.2
      subst this
      simp [szX]; omega
theorem formXs_sz : ∀ l : List MSExpr, formXs l = true → l.length + szX l ≤ 13 * nodeXs l
  | [], _ => by simp [szX]
  | x :: xs, h => by
    rw [formXs, Bool.and_eq_true] at h
    have h1 := formX_sz x h.1
    have h2 := formXs_sz xs h.2
    rw [szX, nodeXs, List.length_cons]; omega
end
theorem validX_sz {x : MSExpr} (h : validX x = true) : x.sz ≤ 11700 := by
  unfold validX at h
  rw [Bool.and_eq_true, decide_eq_true_eq] at h
  have := formX_sz x h.1
  omega
def ifX (x : MSExpr) : MSExpr := if validX x = true then x else zeroX
def outX : Bool → MSExpr → MSExpr
  | true, x => ifX x
  | false, _ => zeroX
theorem ifX_sz (x : MSExpr) : (ifX x).sz ≤ 11700 := by
  unfold ifX
  split
  · rename_i h; exact validX_sz h
  · rw [sx_sz]; simp [zeroX, MSExpr.fAtom, MSExpr.fList, szRows]
theorem outX_sz (b : Bool) (x : MSExpr) : (outX b x).sz ≤ 11700 := by
  cases b with
  | true => exact ifX_sz x
  | false => rw [outX, sx_sz]; simp [zeroX, MSExpr.fAtom, MSExpr.fList, szRows]
end Go.Ab

namespace Go.Ab
def sxL : List (List UInt8) := [[97], [105, 110, 116], [39, 98], [48], [45, 53], [120, 46, 121]]
theorem short_sx : Short8 sxL := by unfold Short8; decide
def manyX {bs : List Int} (f : Cu bs → MSExpr × Cu bs) : Nat → List MSExpr → Cu bs → List MSExpr × Cu bs
  | 0, out, c => (out, c)
  | n + 1, out, c => manyX f n (out ++ [(f c).1]) (f c).2
def sxN {bs : List Int} : Nat → Cu bs → MSExpr × Cu bs
  | 0, c => (atomX (pickD sxL c).1, (pickD sxL c).2)
  | n + 1, c => if (onceD 2 c).1 = true then (atomX (pickD sxL (onceD 2 c).2).1, (pickD sxL (onceD 2 c).2).2)
    else (listX (manyX (sxN n) (belowD 4 (onceD 2 c).2).1.toNat [] (belowD 4 (onceD 2 c).2).2).1, (manyX (sxN n) (belowD 4 (onceD 2 c).2).1.toNat [] (belowD 4 (onceD 2 c).2).2).2)
theorem manyX_sz {bs : List Int} {f : Cu bs → MSExpr × Cu bs} {B : Nat} (hf : ∀ c, (f c).1.sz ≤ B) : ∀ (n : Nat) (out : List MSExpr) (c : Cu bs),
    (manyX f n out c).1.length = out.length + n ∧ szX (manyX f n out c).1 ≤ szX out + n * B
  | 0, out, c => ⟨rfl, by show szX out ≤ _; omega⟩
  | n + 1, out, c => by
    obtain ⟨h1, h2⟩ := manyX_sz hf n (out ++ [(f c).1]) (f c).2
    have := hf c
    rw [manyX]
    rw [szX_append] at h2
    simp only [szX] at h2
    rw [List.length_append] at h1
    refine ⟨by rw [h1]; simp only [List.length_cons, List.length_nil]; omega, ?_⟩
    rw [Nat.add_mul]
    omega
theorem atom_sz (s : List UInt8) : (atomX s).sz = s.length := by rw [sx_sz, fAtom_atom, fList_atom]; simp [szRows]
theorem list_sz (l : List MSExpr) : (listX l).sz = l.length + szX l := by rw [sx_sz, fAtom_list, fList_list, szX_rows]; simp
theorem sxN_sz {bs : List Int} : ∀ (n : Nat) (c : Cu bs), (sxN n c).1.sz + 3 ≤ 11 * 4 ^ n
  | 0, c => by
    have := pickD_len c short_sx
    rw [sxN, atom_sz]; omega
  | n + 1, c => by
    have hp : 1 ≤ 4 ^ n := Nat.pow_pos (by omega)
    rw [sxN, Nat.pow_succ]
    split
    · have := pickD_len (onceD 2 c).2 short_sx
      rw [atom_sz]; omega
    · have hr := belowD_rng (n := 4) (onceD 2 c).2 (by omega)
      obtain ⟨h1, h2⟩ := manyX_sz (f := sxN n) (B := 11 * 4 ^ n - 3) (fun c => by have := sxN_sz n c; omega) (belowD 4 (onceD 2 c).2).1.toNat [] (belowD 4 (onceD 2 c).2).2
      rw [list_sz]
      have h3 : (belowD 4 (onceD 2 c).2).1.toNat ≤ 3 := by omega
      have h4 := Nat.mul_le_mul_right (11 * 4 ^ n - 3) h3
      simp only [szX, List.length_nil] at h1 h2
      omega
def turnK {bs : List Int} (x : MSExpr) (m : Int) (k : Nat) (c : Cu bs) : MSExpr × Cu bs :=
  if m = 0 then (.mk x.fAtom (x.fList.set k (sxN 1 c).1), (sxN 1 c).2) else
  if m = 1 then (.mk x.fAtom (x.fList.eraseIdx k), c) else (.mk x.fAtom (x.fList ++ [x.fList.getD k zeroX]), c)
def turnX {bs : List Int} (x : MSExpr) (c : Cu bs) : MSExpr × Cu bs :=
  if x.fList.length = 0 then (x, c) else
  if (onceD 3 c).1 = true then turnK x (belowD 3 (belowG x.fList.length (onceD 3 c).2).2).1 (belowG x.fList.length (onceD 3 c).2).1.toNat (belowD 3 (belowG x.fList.length (onceD 3 c).2).2).2
  else (x, (onceD 3 c).2)
theorem szX_set (y : MSExpr) : ∀ (l : List MSExpr) (k : Nat), szX (l.set k y) ≤ szX l + y.sz
  | [], k => by simp [szX]
  | x :: l, 0 => by simp only [List.set_cons_zero, szX]; omega
  | x :: l, k + 1 => by have := szX_set y l k; simp only [List.set_cons_succ, szX]; omega
theorem szX_erase : ∀ (l : List MSExpr) (k : Nat), szX (l.eraseIdx k) ≤ szX l
  | [], k => by simp [szX]
  | x :: l, 0 => by simp [szX]
  | x :: l, k + 1 => by have := szX_erase l k; simp only [List.eraseIdx_cons_succ, szX]; omega
theorem szX_at : ∀ (l : List MSExpr) (k : Nat), (l.getD k zeroX).sz ≤ szX l
  | [], k => by rw [List.getD_nil, show zeroX = listX [] from rfl, list_sz]; simp [szX]
  | x :: l, 0 => by simp [szX]
  | x :: l, k + 1 => by have := szX_at l k; simp only [List.getD_cons_succ, szX]; omega
theorem turnX_sz {bs : List Int} (x : MSExpr) (c : Cu bs) : (turnX x c).1.sz ≤ 2 * x.sz + 50 := by
  have hx : ∀ (a : List UInt8) (l : List MSExpr), (MSExpr.mk a l).sz = a.length + (l.length + szX l) := fun a l => by rw [sx_sz, szX_rows]; rfl
  have h0 := hx x.fAtom x.fList
  rw [MSExpr.eta] at h0
  unfold turnX
  split
  · show x.sz ≤ _; omega
  rename_i hn
  split
  · generalize (belowD 3 (belowG x.fList.length (onceD 3 c).2).2).1 = m
    generalize (belowG x.fList.length (onceD 3 c).2).1.toNat = k
    generalize (belowD 3 (belowG x.fList.length (onceD 3 c).2).2).2 = c1
    unfold turnK
    split
    · have := szX_set (sxN 1 c1).1 x.fList k
      have := sxN_sz 1 c1
      simp only [hx, List.length_set]; omega
    split
    · have := szX_erase x.fList k
      have := List.length_eraseIdx_le x.fList k
      simp only [hx]; omega
    · have := szX_at x.fList k
      simp only [hx, szX_append, szX, List.length_append, List.length_cons, List.length_nil]; omega
  · show x.sz ≤ _; omega
end Go.Ab

namespace Go.Ab
mutual
def cntD : D → Nat
  | .sl es => cntRs es + 1
  | .ol _ _ => 0
  | .b _ => 0
  | .i _ _ => 0
  | .s _ => 0
  | .o _ => 0
def cntR : List D → Nat
  | [] => 0
  | d :: ds => cntD d + cntR ds
def cntRs : List (List D) → Nat
  | [] => 0
  | r :: rs => cntR r + cntRs rs
end
mutual
def labD : D → Nat → D
  | .sl es, n => .ol n (labRs es (n + 1))
  | .ol m es, _ => .ol m es
  | .b x, _ => .b x
  | .i k x, _ => .i k x
  | .s l, _ => .s l
  | .o v, _ => .o v
def labR : List D → Nat → List D
  | [], _ => []
  | d :: ds, n => labD d n :: labR ds (n + cntD d)
def labRs : List (List D) → Nat → List (List D)
  | [], _ => []
  | r :: rs, n => labR r n :: labRs rs (n + cntR r)
end
mutual
def plD : D → Bool
  | .sl es => plRs es
  | .ol _ _ => false
  | .b _ => true
  | .i _ _ => true
  | .s _ => true
  | .o _ => false
def plR : List D → Bool
  | [] => true
  | d :: ds => plD d && plR ds
def plRs : List (List D) → Bool
  | [] => true
  | r :: rs => plR r && plRs rs
end
theorem labRs_append : ∀ a b n, labRs (a ++ b) n = labRs a n ++ labRs b (n + cntRs a)
  | [], b, n => by simp [labRs, cntRs]
  | d :: ds, b, n => by rw [List.cons_append, labRs, labRs, labRs_append ds b, cntRs, Nat.add_assoc]; rfl
theorem labR_length : ∀ r n, (labR r n).length = r.length
  | [], _ => rfl
  | d :: ds, n => by rw [labR, List.length_cons, labR_length ds, List.length_cons]
theorem labRs_length : ∀ rs n, (labRs rs n).length = rs.length
  | [], _ => rfl
  | r :: rs, n => by rw [labRs, List.length_cons, labRs_length rs, List.length_cons]
theorem labRs_rows {z : Nat} : ∀ {rs : List (List D)} {n : Nat}, (∀ r ∈ rs, r.length = z) → ∀ r ∈ labRs rs n, r.length = z
  | [], _, _, r, h => by rw [labRs] at h; cases h
  | a :: rs, n, ha, r, h => by
    rw [labRs] at h
    rcases List.mem_cons.1 h with e | h
    · rw [e, labR_length]; exact ha a (by simp)
    · exact labRs_rows (fun r hr => ha r (by simp [hr])) r h
theorem plR_append : ∀ a b, plR (a ++ b) = (plR a && plR b)
  | [], b => by simp [plR]
  | d :: ds, b => by rw [List.cons_append, plR, plR, plR_append ds b, Bool.and_assoc]
theorem plRs_map {α : Type} {f : α → List D} : ∀ {xs : List α}, (∀ x ∈ xs, plR (f x) = true) → plRs (xs.map f) = true
  | [], _ => rfl
  | x :: xs, h => by
    rw [List.map_cons, plRs, h x (by simp), plRs_map fun y hy => h y (by simp [hy])]; rfl
section
variable {P : Program} {w : World} {σ σ' : Nat → Nat} {S : Store} {β : Hs} {N : Nat} {s : St}
mutual
theorem er_D : ∀ (d : D) (n : Nat) (v : Value), RepD w σ (labD d n) v → RepD w σ d v
  | .sl es, n, v, h => by
    rw [labD] at h
    have hl := labRs_length es (n + 1)
    have hrec := er_Rs es (n + 1)
    generalize labRs es (n + 1) = q at h hl hrec
    cases h with
    | onil n a cap =>
      have : es = [] := List.eq_nil_of_length_eq_zero (by simpa using hl.symm)
      subst this
      exact .nil a cap
    | ol n b off cap esz q vals c t hcap hlen hb hσ hfit hc hv hx =>
      obtain ⟨r1, r2⟩ := hrec vals hv
      rw [hl] at hcap hfit hc ⊢
      refine .sl b off cap esz es vals c t (0, 0) hcap (fun e he => ?_) hb (by omega) hc r2
      obtain ⟨e', h1, h2⟩ := r1 e he
      rw [← h2]; exact hlen e' h1
  | .ol m es, n, v, h => h
  | .b x, n, v, h => h
  | .i k x, n, v, h => h
  | .s l, n, v, h => h
  | .o u, n, v, h => h
theorem er_R : ∀ (r : List D) (n : Nat) (vals : Nat → Value), (∀ j d, (labR r n)[j]? = some d → RepD w σ d (vals j)) → ∀ (j : Nat) d, r[j]? = some d → RepD w σ d (vals j)
  | [], n, vals, h, j, d, hd => by simp at hd
  | a :: r, n, vals, h, j, d, hd => by
    cases j with
    | zero =>
      simp at hd; subst hd
      exact er_D a n _ (h 0 _ rfl)
    | succ j => exact er_R r (n + cntD a) (fun i => vals (i + 1)) (fun i d hi => h (i + 1) d (by rw [labR]; exact hi)) j d hd
theorem er_Rs : ∀ (rs : List (List D)) (n : Nat) (vals : Nat → Value), (∀ j d, (labRs rs n).flatten[j]? = some d → RepD w σ d (vals j)) →
    (∀ e ∈ rs, ∃ e' ∈ labRs rs n, e'.length = e.length) ∧ ∀ (j : Nat) d, rs.flatten[j]? = some d → RepD w σ d (vals j)
  | [], n, vals, h => ⟨fun e he => (by cases he), fun j d hd => (by simp at hd)⟩
  | r :: rs, n, vals, h => by
    rw [labRs, List.flatten_cons] at h
    have h1 := er_R r n vals fun j d hd => h j d (by rw [List.getElem?_append_left (List.getElem?_eq_some_iff.1 hd).1]; exact hd)
    obtain ⟨h2, h3⟩ := er_Rs rs (n + cntR r) (fun i => vals (r.length + i)) fun j d hd => h (r.length + j) d (by rw [List.getElem?_append_right (by rw [labR_length]; omega), labR_length, Nat.add_sub_cancel_left]; exact hd)
    refine ⟨fun e he => ?_, fun j d hd => ?_⟩
    · rcases List.mem_cons.1 he with e1 | he
      · subst e1; exact ⟨_, by rw [labRs]; exact List.mem_cons_self .., labR_length _ _⟩
      · obtain ⟨e', q1, q2⟩ := h2 e he
        exact ⟨e', by rw [labRs]; exact List.mem_cons_of_mem _ q1, q2⟩
    · rw [List.flatten_cons] at hd
      by_cases hj : j < r.length
      · rw [List.getElem?_append_left hj] at hd; exact h1 j d hd
      · rw [List.getElem?_append_right (by omega)] at hd
        have := h3 (j - r.length) d hd
        rwa [show r.length + (j - r.length) = j by omega] at this
end
theorem less_lab {r : List D} {n : Nat} : Less (.agg ((labR r n).map .d)) (.agg (r.map .d)) := by
  rintro w σ S β v ⟨a, ha, hl, hc⟩
  rw [List.length_map, labR_length] at hl
  refine ⟨a, ha, by rw [List.length_map]; exact hl, ?_⟩
  have key : ∀ (r : List D) (n : Nat) (vs : List Value), (∀ (j : Nat) (x : C), ((labR r n).map C.d)[j]? = some x → ∃ v : Value, vs[j]? = some v ∧ RepC w σ S β x v ∧ v.oneCell' = true) →
      ∀ (j : Nat) (x : C), (r.map C.d)[j]? = some x → ∃ v : Value, vs[j]? = some v ∧ RepC w σ S β x v ∧ v.oneCell' = true := by
    intro r
    induction r with
    | nil => intro n vs h j x hx; simp at hx
    | cons d ds ih =>
      intro n vs h j x hx
      cases j with
      | zero =>
        simp at hx; subst hx
        obtain ⟨v, h1, h2, h3⟩ := h 0 (.d (labD d n)) rfl
        exact ⟨v, h1, er_D d n v h2, h3⟩
      | succ j =>
        have := ih (n + cntD d) vs.tail (fun i y hy => by
          obtain ⟨v, h1, h2⟩ := h (i + 1) y (by rw [labR, List.map_cons]; exact hy)
          refine ⟨v, ?_, h2⟩
          cases vs with
          | nil => simp at h1
          | cons a b => exact h1) j x hx
        obtain ⟨v, h1, h2⟩ := this
        refine ⟨v, ?_, h2⟩
        cases vs with
        | nil => simp at h1
        | cons a b => exact h1
  exact key r n _ hc
theorem repcs_lab {r : List D} {n : Nat} {w : World} {σ : Nat → Nat} {S : Store} {β : Hs} {vs : List Value} (h : RepCs w σ S β ((labR r n).map .d) vs) : RepCs w σ S β (r.map .d) vs := by
  obtain ⟨a, ha, hc⟩ := less_lab w σ S β (.agg vs.toArray) ⟨vs.toArray, rfl, by simpa using h⟩
  cases ha
  simpa using hc
inductive Lesses : List V → List V → Prop
  | nil : Lesses [] []
  | cons {x y : V} {xs ys : List V} : Less x y → Lesses xs ys → Lesses (x :: xs) (y :: ys)
theorem Lesses.length : ∀ {xs ys : List V}, Lesses xs ys → xs.length = ys.length
  | _, _, .nil => rfl
  | _, _, .cons _ h => by rw [List.length_cons, List.length_cons, Lesses.length h]
theorem Lesses.at : ∀ {xs ys : List V}, Lesses xs ys → ∀ (j : Nat) (x y : V), xs[j]? = some x → ys[j]? = some y → Less x y
  | _, _, .nil, j, x, y, h, _ => by simp at h
  | _, _, .cons a h, 0, x, y, h1, h2 => by simp at h1 h2; subst h1; subst h2; exact a
  | _, _, .cons a h, j + 1, x, y, h1, h2 => Lesses.at h j x y (by simpa using h1) (by simpa using h2)
theorem PCall.args {f : FuncId} {args args' : List V} {r : V} (h : PCall P f args' r) (hl : Lesses args args') : PCall P f args r := fun S => (h S).weaken hl.length fun j x y hx hy w σ β v hr => hl.at j x y hx hy w σ S β v hr
theorem call_l {dr : Option Nat} {f : FuncId} {args args' : List V} {dst : Option Nat} {K : St → Prop} {r : V} (h : PCall P f args' r) (hl : Lesses (args.map V.bor) args') (hK : K (s.put dst r)) : CallG P dr f args s dst K := call_w (h.args hl) hK
def mapL (row : Bool) (j n : Nat) (es : List (List D)) (tm : List (Nat × V)) : List (Nat × V) := tm.map fun x => (x.1, x.2.mapC (C.lab row j n es))
theorem look_mapL {row : Bool} {j n : Nat} {es : List (List D)} {tm : List (Nat × V)} {t : Nat} : look (mapL row j n es tm) t = (look tm t).mapC (C.lab row j n es) := look_map (f := V.mapC (C.lab row j n es)) rfl tm t
def labC (j n : Nat) (tm : List (Nat × V)) (own : List Obj) (Ω : Store) : Option Obj → St
  | some (.mrow _ es) => ⟨mapL true j n es tm, (own.map (Obj.mapC (C.lab true j n es))).set j .dead :: Ω⟩
  | some (.ltok m _ es) => ⟨mapL false j m es tm, (own.map (Obj.mapC (C.lab false j m es))).set j .dead :: Ω⟩
  | _ => ⟨tm, own :: Ω⟩
def labAt (j n : Nat) (s : St) : St :=
  match s.st with
  | own :: Ω => labC j n s.tm own Ω (own[j]?)
  | [] => s
def labUp : Nat → Nat → St → St
  | 0, _, s => s
  | k + 1, n, s => labUp k n (labAt k n s)
def labAll (n : Nat) (s : St) : St :=
  match s.st with
  | own :: _ => labUp own.length n s
  | [] => s
theorem labAt_ghost (j n : Nat) (s : St) : Ghost N s (labAt j n s) := by
  obtain ⟨tm, st⟩ := s
  cases st with
  | nil => exact Ghost.refl _ _
  | cons own Ω =>
    show Ghost N ⟨tm, own :: Ω⟩ (labC j n tm own Ω (own[j]?))
    cases ho : own[j]? with
    | none => exact Ghost.refl _ _
    | some o =>
      cases o with
      | mrow z es => exact fun a w σ β hR => lab_rep j n z es true ho hR
      | ltok m z es => exact fun a w σ β hR => lab_rep j m z es false ho hR
      | _ => exact Ghost.refl _ _
theorem labUp_ghost : ∀ (k n : Nat) (s : St), Ghost N s (labUp k n s)
  | 0, n, s => Ghost.refl _ _
  | k + 1, n, s => (labAt_ghost k n s).trans (labUp_ghost k n _)
theorem labAll_ghost (n : Nat) (s : St) : Ghost N s (labAll n s) := by
  unfold labAll
  split
  · exact labUp_ghost _ _ _
  · exact Ghost.refl _ _
theorem labAt_mk {j n : Nat} {tm : List (Nat × V)} {own : List Obj} {Ω : Store} : labAt j n ⟨tm, own :: Ω⟩ = labC j n tm own Ω (own[j]?) := rfl
theorem labAll_mk {n : Nat} {tm : List (Nat × V)} {own : List Obj} {Ω : Store} : labAll n ⟨tm, own :: Ω⟩ = labUp own.length n ⟨tm, own :: Ω⟩ := rfl
def retL (P : Program) (n : Nat) (rs : List ResultVar) (post : V → Store → Prop) (e : Exit) (s : St) : Prop := retQ P rs post e (labAll n s)
theorem retL_ret {n : Nat} {rs : List ResultVar} {post : V → Store → Prop} : retL P n rs post .ret s = retS P rs post (labAll n s) := rfl
theorem retL_normal {n : Nat} {rs : List ResultVar} {post : V → Store → Prop} : retL P n rs post .normal s = retS P rs post (labAll n s) := rfl
theorem acall_cwL (n : Nat) {f : FuncId} {fn : Func} {c : Code} {args : List V} {post : V → Store → Prop} {rs : List ResultVar} (hmix : P.follows .mixedOrders = true) (hf : P.funcs[f]? = some fn) (hN : fn.ntmps = N)
    (hb : fn.body = some c) (hn : (fn.name == "runtime.NumGoroutine") = false) (hr : fn.results.toList = rs) (hl : Nat.ble args.length N = true) (hok : codeOk N c = true)
    (h : CW P N c (retL P n rs post) ⟨argTm (args.map (V.up 1)) 0, [.seed n] :: S⟩) : ACall P f args S post := by
  subst hN
  subst hr
  exact acall_enter hf hb hn (Nat.le_of_ble_eq_true hl) (aw_seed n (aw_end (labAll_ghost n) (cw_sound hmix c _ _ hok h)))
theorem lab_tsl1 {row : Bool} {j n l i : Nat} {es es' : List (List D)} : C.lab row j n es (.tsl (1 + l, i) es') = .tsl (1 + l, i) es' := by rw [Nat.add_comm]; rfl
theorem lab_tsl0 {row : Bool} {j n i : Nat} {es es' : List (List D)} : C.lab row j n es (.tsl (0, i) es') = if i = j ∧ row = false ∧ es'.length = es.length then .d (.ol n es) else .tsl (0, i) es' := rfl
theorem lab_msl1 {row : Bool} {j n l i : Nat} {es : List (List D)} : C.lab row j n es (.msl (1 + l, i)) = .msl (1 + l, i) := by rw [Nat.add_comm]; rfl
theorem lab_msl0 {row : Bool} {j n i : Nat} {es : List (List D)} : C.lab row j n es (.msl (0, i)) = if i = j ∧ row = true then .d (.ol n es) else .msl (0, i) := rfl
theorem lab_d {row : Bool} {j n : Nat} {es : List (List D)} {x : D} : C.lab row j n es (.d x) = .d x := rfl
theorem lab_any {row : Bool} {j n : Nat} {es : List (List D)} : C.lab row j n es .any = .any := rfl
theorem lab_fsl {row : Bool} {j n : Nat} {es es' : List (List D)} : C.lab row j n es (.fsl es') = .fsl es' := rfl
theorem lab_lfl {row : Bool} {j n m : Nat} {es es' : List (List D)} : C.lab row j n es (.lfl m es') = .lfl m es' := rfl
theorem lab_ptr {row : Bool} {j n off : Nat} {es : List (List D)} {k : Key} : C.lab row j n es (.ptr k off) = .ptr k off := rfl
theorem lab_fn {row : Bool} {j n f : Nat} {es : List (List D)} {caps : List (Key × Nat)} : C.lab row j n es (.fn f caps) = .fn f caps := rfl
theorem lab_rptr {row : Bool} {j n : Nat} {es : List (List D)} {cs : List D} : C.lab row j n es (.rptr cs) = .rptr cs := rfl
theorem inv_seed {ι : Type} {ts : List Nat} {f : ι → List V} {g : ι → Store} {p : ι → Prop} {μ : ι → Nat} {i : ι} {tm : List (Nat × V)} {own : List Obj} {Ω : Store} {m : Nat} (m' n : Nat) (hnd : ts.Nodup) (j : ι) (h1 : μ j < μ i) (h2 : ts.map (look tm) = f j) (h3 : (Obj.seed m' :: own.take n) :: Ω = g j)
    (hr : tmRefs (n + 1) (zipTm ts (f j)) = true) (ho : (own.take n).all (Obj.refs (n + 1)) = true) (h4 : p j) : Inv N ts f g p μ i ⟨tm, (.seed m :: own) :: Ω⟩ := by
  refine ⟨j, ⟨zipTm ts (f j), (.seed m' :: own.take n) :: Ω⟩, h1, ?_, ?_, h3, h4⟩
  · have hg : Ghost N ⟨tm, (.seed m :: own) :: Ω⟩ ⟨zipTm ts (f j), (.seed m :: own) :: Ω⟩ := by
      rw [← h2]
      exact tm_ghost fun t => look_zip _ ts t
    refine hg.trans ((drop_ghost (n + 1) hr ?_).trans (reseed_ghost m'))
    rw [List.take_succ_cons, List.all_cons, ho]; rfl
  · exact map_look_zip ts (f j) hnd (by rw [← h2]; simp)
end
attribute [go_sem ↓] retL_ret retL_normal labAll_mk
attribute [go_sem] labUp labAt_mk labC look_mapL V.mapC Obj.mapC lab_tsl1 lab_tsl0 lab_msl1 lab_msl0 lab_d lab_any lab_fsl lab_lfl lab_ptr lab_fn lab_rptr
end Go.Ab

namespace Go.Ab
section
variable {P : Program} {N : Nat} {S : Store} {s : St} {tm : List (Nat × V)}
end
end Go.Ab

namespace Go.Ab
theorem aw_seeds {P : Program} {N : Nat} {c : Code} {Q : Exit → St → Prop} {tm : List (Nat × V)} {Ω : Store} (n k : Nat) (h : AW P N c Q ⟨tm, [.seed n, .seed k] :: Ω⟩) : AW P N c Q ⟨tm, [] :: Ω⟩ := by
  refine aw_seed n (aw_ghost h fun a w σ β hR => ?_)
  obtain ⟨bo, bΩ, rfl, hlen⟩ := frames hR
  obtain ⟨hS', hk, hst⟩ := hR.S.push (o := .seed k) (h := undef) (Grow.refl hR.S.live) hlen trivial (fun b hb => by cases hb)
  exact ⟨σ, _, ⟨hR.size, hR.defers, hS', fun u => (hR.T u).mono (Near.refl _ _) hk⟩, hst, Keep.refl _ _⟩
section
variable {P : Program} {N : Nat} {S : Store}
theorem acall_cwLs (n k : Nat) {f : FuncId} {fn : Func} {c : Code} {args : List V} {post : V → Store → Prop} {rs : List ResultVar} (hmix : P.follows .mixedOrders = true) (hf : P.funcs[f]? = some fn) (hN : fn.ntmps = N)
    (hb : fn.body = some c) (hn : (fn.name == "runtime.NumGoroutine") = false) (hr : fn.results.toList = rs) (hl : Nat.ble args.length N = true) (hok : codeOk N c = true)
    (h : CW P N c (retL P n rs post) ⟨argTm (args.map (V.up 1)) 0, [.seed n, .seed k] :: S⟩) : ACall P f args S post := by
  subst hN
  subst hr
  exact acall_enter hf hb hn (Nat.le_of_ble_eq_true hl) (aw_seeds n k (aw_end (labAll_ghost n) (cw_sound hmix c _ _ hok h)))
end
end Go.Ab

namespace Go.Ab
section
variable {P : Program} {w w' : World} {σ σ' : Nat → Nat} {S : Store} {β : Hs}
def Sealed (w : World) (σ : Nat → Nat) (lo hi b : Nat) : Prop := ∃ c t fz m, w.heap[b]? = some (.cells c t fz) ∧ σ b = c.size + 1 + m ∧ lo ≤ m ∧ m < hi
theorem Sealed.mono {lo hi lo' hi' b : Nat} (h : Sealed w σ lo hi b) (h1 : lo' ≤ lo) (h2 : hi ≤ hi') : Sealed w σ lo' hi' b := by
  obtain ⟨c, t, fz, m, a1, a2, a3, a4⟩ := h
  exact ⟨c, t, fz, m, a1, a2, by omega, by omega⟩
theorem Sealed.apart {lo hi lo' hi' b : Nat} (h : Sealed w σ lo hi b) (h' : Sealed w σ lo' hi' b) (ho : hi ≤ lo') : False := by
  obtain ⟨c, t, fz, m, a1, a2, a3, a4⟩ := h
  obtain ⟨c', t', fz', m', b1, b2, b3, b4⟩ := h'
  rw [a1] at b1; cases b1
  omega
abbrev Kids := List (List (Option Value))
def kidAt (rows : Kids) (i o : Nat) : Option Value := ((rows[i]?).bind fun r => r[o]?).bind id
def rowsV (rows : Kids) : Array Value := (rows.map fun r => Value.tuple (r.map fun u => u.getD (.bool false)).toArray).toArray
def mkT (v : Value) (rows : Kids) : Value := .tuple #[v, .tuple (rowsV rows)]
theorem hdr_mkT {v : Value} {rows : Kids} : hdr (mkT v rows) = some v := rfl
def IsT (v : Value) : Prop := ∃ a, v = .tuple a
theorem kid_mkT {v : Value} {rows : Kids} (h : ∀ i o u, kidAt rows i o = some u → IsT u) (i o : Nat) : kid (mkT v rows) i o = kidAt rows i o := by
  have h' := h i o
  unfold kid mkT rowsV kidAt at *
  simp only [List.getElem?_toArray, List.getElem?_cons_succ, List.getElem?_cons_zero, List.getElem?_map]
  cases hr : rows[i]? with
  | none => rfl
  | some r =>
    rw [hr] at h'
    simp only [Option.map_some, List.getElem?_toArray, List.getElem?_map]
    cases hu : r[o]? with
    | none => simp [hu]
    | some u =>
      simp only [Option.bind_some, hu, id] at h'
      cases u with
      | none => simp [hu]
      | some u =>
        obtain ⟨a, rfl⟩ := h' u rfl
        simp [hu]
def CellT (w : World) (d : D) (v : Value) (u : Option Value) : Prop :=
  match d with
  | .sl es => ∃ T, u = some T ∧ IsT T ∧ hdr T = some v ∧ ExT w es T
  | d => u = none ∧ SD d v
theorem rows_lab {z : Nat} : ∀ {rs : List (List D)} {n : Nat}, (∀ r ∈ labRs rs n, r.length = z) → ∀ r ∈ rs, r.length = z
  | [], _, _, r, h => by cases h
  | a :: rs, n, ha, r, h => by
    rw [labRs] at ha
    rcases List.mem_cons.1 h with e | h
    · subst e; rw [← labR_length r n]; exact ha _ (by simp)
    · exact rows_lab (n := n + cntR a) (fun r hr => ha r (by simp [hr])) r h
structure RowT (w : World) (σ : Nat → Nat) (r : List D) (n m : Nat) (vals : Nat → Value) (us : List (Option Value)) : Prop where
  len : us.length = r.length
  cell : ∀ (j : Nat) (d : D), r[j]? = some d → ∃ u, us[j]? = some u ∧ CellT w d (vals j) u
  own : ∀ (j : Nat) (u : Value), us[j]? = some (some u) → ∀ b, Owns u b → Sealed w σ n m b
  apart : ∀ (j j' : Nat) (u u' : Value) (b : Nat), j ≠ j' → us[j]? = some (some u) → us[j']? = some (some u') → Owns u b → Owns u' b → False
structure RowsT (w : World) (σ : Nat → Nat) (z : Nat) (rs : List (List D)) (n m : Nat) (vals : Nat → Value) (U : Kids) : Prop where
  cell : ∀ (i o : Nat) (d : D), cellAt rs i o = some d → ∃ u, ((U[i]?).bind fun r => r[o]?) = some u ∧ CellT w d (vals (i * z + o)) u
  kid : ∀ (i o : Nat) (u : Value), kidAt U i o = some u → ∃ es, cellAt rs i o = some (.sl es)
  own : ∀ (i o : Nat) (u : Value), kidAt U i o = some u → ∀ b, Owns u b → Sealed w σ n m b
  apart : ∀ (i o i' o' : Nat) (u u' : Value) (b : Nat), (i, o) ≠ (i', o') → kidAt U i o = some u → kidAt U i' o' = some u' → Owns u b → Owns u' b → False
theorem kidAt_zero {us : List (Option Value)} {U : Kids} {o : Nat} {u : Value} : kidAt (us :: U) 0 o = some u ↔ us[o]? = some (some u) := by
  show (us[o]?).bind id = some u ↔ _
  cases us[o]? with
  | none => simp
  | some x => simp
mutual
theorem lab_D : ∀ (d : D) (n : Nat) (v : Value), plD d = true → RepD w σ (labD d n) v → ∃ u, CellT w d v u ∧ ∀ T, u = some T → ∀ b, Owns T b → Sealed w σ n (n + cntD d) b
  | .sl es, n, v, hp, h => by
    rw [labD] at h
    have hl := labRs_length es (n + 1)
    have hrec := lab_Rs es (n + 1)
    have hrow := fun z => rows_lab (z := z) (rs := es) (n := n + 1)
    generalize labRs es (n + 1) = q at h hl hrec hrow
    have hempty : ∀ a cap, es = [] → v = .slice a 0 cap → ∃ u, CellT w (.sl es) v u ∧ ∀ T, u = some T → ∀ b, Owns T b → Sealed w σ n (n + cntD (.sl es)) b := by
      rintro a cap rfl rfl
      have hk : ∀ i o, kid (mkT (.slice a 0 cap) []) i o = none := fun i o => by rw [kid_mkT (fun i o u h => by simp [kidAt] at h)]; simp [kidAt]
      refine ⟨some (mkT (.slice a 0 cap) []), ⟨_, rfl, ⟨_, rfl⟩, rfl, .nil a cap _ rfl hk⟩, fun T hT b hb => ?_⟩
      cases hT
      exfalso
      cases hb with
      | here h1 h2 => rw [hdr_mkT] at h1; cases h1; omega
      | kid h1 h2 => rw [hk] at h1; cases h1
    cases h with
    | onil n a cap => exact hempty a cap (List.eq_nil_of_length_eq_zero (by simpa using hl.symm)) rfl
    | ol n b off cap z q vals c t hcap hlen hb hσ hfit hc hv hx =>
      by_cases hne : es = []
      · subst hne
        have hq0 : q.length = 0 := by simpa using hl
        exact hempty _ _ rfl (by rw [hq0])
      rw [hl] at hcap hfit hc ⊢
      obtain ⟨U, hU⟩ := hrec z vals (hrow z hlen) (by simpa [plD] using hp) hv
      have hrl := hrow z hlen
      have hT : ∀ i o u, kidAt U i o = some u → IsT u := fun i o u hu => by
        obtain ⟨es', he⟩ := hU.kid i o u hu
        obtain ⟨u', h1, h2⟩ := hU.cell i o _ he
        obtain ⟨T, h3, h4, _⟩ := h2
        unfold kidAt at hu
        rw [h1, h3] at hu
        cases hu; exact h4
      have hkid : ∀ i o, kid (mkT (.slice (some ⟨b, off, none⟩) es.length cap) U) i o = kidAt U i o := kid_mkT hT
      have hcell : ∀ i o es', cellAt es i o = some (.sl es') → ∃ T, kidAt U i o = some T ∧ hdr T = some (vals (i * z + o)) ∧ ExT w es' T := fun i o es' he => by
        obtain ⟨u', h1, T, h3, h4, h5, h6⟩ := hU.cell i o _ he
        refine ⟨T, ?_, h5, h6⟩
        unfold kidAt
        rw [h1, h3]; rfl
      have hself : ∀ x, Sealed w σ (n + 1) (n + 1 + cntRs es) x → x ≠ b := by
        rintro x ⟨c', t', fz', m, a1, a2, a3, a4⟩ rfl
        rw [hb] at a1; cases a1
        omega
      refine ⟨some (mkT (.slice (some ⟨b, off, none⟩) es.length cap) U), ⟨_, rfl, ⟨_, rfl⟩, rfl, ?_⟩, fun T hT' x hx => ?_⟩
      · refine .mk b off cap z es _ c t (fun i o => vals (i * z + o)) (fun i o => (kidAt U i o).getD undef) rfl hne hcap hrl hb hfit (fun i o d hd => ?_) (fun i o d hd => ?_) (fun i o es' he => ?_) (fun i o es' he => ?_) (fun i o u hu hb' => ?_) (fun i o i' o' u u' x hio hu hu' h1 h2 => ?_) (fun i o u hu => ?_)
        · obtain ⟨hi, ho⟩ := cell_row hd
          rw [hrl _ (List.getElem_mem hi)] at ho
          refine hc _ ?_
          have : (i + 1) * z ≤ es.length * z := Nat.mul_le_mul_right _ hi
          rw [Nat.add_mul, Nat.one_mul] at this
          omega
        · obtain ⟨u, h1, h2⟩ := hU.cell i o d hd
          cases d <;> first | exact .inl ⟨_, rfl⟩ | exact .inr h2.2
        · obtain ⟨T, h1, h2, h3⟩ := hcell i o es' he
          rw [hkid, h1]
          exact ⟨rfl, h2⟩
        · obtain ⟨T, h1, h2, h3⟩ := hcell i o es' he
          rw [h1]; exact h3
        · rw [hkid] at hu
          exact hself b (hU.own i o u hu b hb') rfl
        · rw [hkid] at hu hu'
          exact hU.apart i o i' o' u u' x hio hu hu' h1 h2
        · rw [hkid] at hu
          exact hU.kid i o u hu
      · cases hT'
        cases hx with
        | here h1 h2 => rw [hdr_mkT] at h1; cases h1; exact ⟨c, t, (0, 0), n, hb, hσ, Nat.le_refl _, by rw [cntD]; omega⟩
        | kid h1 h2 =>
          rw [hkid] at h1
          exact (hU.own _ _ _ h1 _ h2).mono (by omega) (by rw [cntD]; omega)
  | .ol m es, n, v, hp, h => by simp [plD] at hp
  | .b x, n, v, hp, h => by rw [labD] at h; cases h; exact ⟨none, ⟨rfl, rfl⟩, fun T h => by cases h⟩
  | .i k x, n, v, hp, h => by rw [labD] at h; cases h; exact ⟨none, ⟨rfl, rfl⟩, fun T h => by cases h⟩
  | .s l, n, v, hp, h => by rw [labD] at h; cases h; exact ⟨none, ⟨rfl, rfl⟩, fun T h => by cases h⟩
  | .o u, n, v, hp, h => by simp [plD] at hp
theorem lab_R : ∀ (r : List D) (n : Nat) (vals : Nat → Value), plR r = true → (∀ (j : Nat) (d : D), (labR r n)[j]? = some d → RepD w σ d (vals j)) → ∃ us, RowT w σ r n (n + cntR r) vals us
  | [], n, vals, hp, h => ⟨[], rfl, fun j d h => by simp at h, fun j u h => by simp at h, fun j j' u u' b _ h => by simp at h⟩
  | d :: r, n, vals, hp, h => by
    rw [plR, Bool.and_eq_true] at hp
    rw [labR] at h
    obtain ⟨u, h1, h2⟩ := lab_D d n (vals 0) hp.1 (h 0 _ rfl)
    obtain ⟨us, hus⟩ := lab_R r (n + cntD d) (fun j => vals (j + 1)) hp.2 fun j x hx => h (j + 1) x hx
    rw [cntR]
    have hown : ∀ (j : Nat) (T : Value), us[j]? = some (some T) → ∀ b, Owns T b → Sealed w σ (n + cntD d) (n + cntD d + cntR r) b := hus.own
    refine ⟨u :: us, by rw [List.length_cons, List.length_cons, hus.len], fun j x hx => ?_, fun j T hT b hb => ?_, fun j j' T T' b hj hT hT' hb hb' => ?_⟩
    · cases j with
      | zero => simp at hx; subst hx; exact ⟨u, rfl, h1⟩
      | succ j => exact hus.cell j x hx
    · cases j with
      | zero => simp at hT; exact (h2 T hT b hb).mono (Nat.le_refl _) (by omega)
      | succ j => exact (hown j T hT b hb).mono (by omega) (by omega)
    · cases j with
      | zero =>
        cases j' with
        | zero => exact hj rfl
        | succ j' => simp at hT; exact (h2 T hT b hb).apart (hown j' T' hT' b hb') (Nat.le_refl _)
      | succ j =>
        cases j' with
        | zero => simp at hT'; exact (h2 T' hT' b hb').apart (hown j T hT b hb) (Nat.le_refl _)
        | succ j' => exact hus.apart j j' T T' b (by omega) hT hT' hb hb'
theorem lab_Rs : ∀ (rs : List (List D)) (n z : Nat) (vals : Nat → Value), (∀ r ∈ rs, r.length = z) → plRs rs = true → (∀ (j : Nat) (d : D), (labRs rs n).flatten[j]? = some d → RepD w σ d (vals j)) → ∃ U, RowsT w σ z rs n (n + cntRs rs) vals U
  | [], n, z, vals, hz, hp, h => ⟨[], fun i o d h => by simp [cellAt] at h, fun i o u h => by simp [kidAt] at h, fun i o u h => by simp [kidAt] at h, fun i o i' o' u u' b _ h => by simp [kidAt] at h⟩
  | r :: rs, n, z, vals, hz, hp, h => by
    rw [plRs, Bool.and_eq_true] at hp
    rw [labRs, List.flatten_cons] at h
    have hrz : r.length = z := hz r (by simp)
    obtain ⟨us, hus⟩ := lab_R r n vals hp.1 fun j d hd => h j d (by rw [List.getElem?_append_left (List.getElem?_eq_some_iff.1 hd).1]; exact hd)
    obtain ⟨U, hU⟩ := lab_Rs rs (n + cntR r) z (fun j => vals (z + j)) (fun r hr => hz r (by simp [hr])) hp.2 fun j d hd => h (z + j) d (by
      rw [List.getElem?_append_right (by rw [labR_length]; omega), labR_length, hrz, Nat.add_sub_cancel_left]; exact hd)
    rw [cntRs]
    have hown : ∀ (i o : Nat) (T : Value), kidAt U i o = some T → ∀ b, Owns T b → Sealed w σ (n + cntR r) (n + cntR r + cntRs rs) b := hU.own
    refine ⟨us :: U, fun i o d hd => ?_, fun i o u hu => ?_, fun i o T hT b hb => ?_, fun i o i' o' T T' b hio hT hT' hb hb' => ?_⟩
    · cases i with
      | zero =>
        obtain ⟨u, h1, h2⟩ := hus.cell o d hd
        exact ⟨u, h1, by rw [Nat.zero_mul, Nat.zero_add]; exact h2⟩
      | succ i =>
        obtain ⟨u, h1, h2⟩ := hU.cell i o d hd
        exact ⟨u, h1, by rw [show (i + 1) * z + o = z + (i * z + o) by rw [Nat.add_mul]; omega]; exact h2⟩
    · cases i with
      | zero =>
        rw [kidAt_zero] at hu
        have ho : o < r.length := by rw [← hus.len]; exact (List.getElem?_eq_some_iff.1 hu).1
        obtain ⟨u', h1, h2⟩ := hus.cell o r[o] (List.getElem?_eq_getElem ho)
        rw [hu] at h1; cases h1
        have hc : cellAt (r :: rs) 0 o = some r[o] := List.getElem?_eq_getElem ho
        rw [hc]
        generalize r[o] = d at h2
        cases d <;> first | exact ⟨_, rfl⟩ | (cases h2.1)
      | succ i => exact hU.kid i o u hu
    · cases i with
      | zero => rw [kidAt_zero] at hT; exact (hus.own o T hT b hb).mono (Nat.le_refl _) (by omega)
      | succ i => exact (hown i o T hT b hb).mono (by omega) (by omega)
    · cases i with
      | zero =>
        rw [kidAt_zero] at hT
        cases i' with
        | zero => rw [kidAt_zero] at hT'; exact hus.apart o o' T T' b (fun e => hio (by rw [e])) hT hT' hb hb'
        | succ i' => exact (hus.own o T hT b hb).apart (hown i' o' T' hT' b hb') (Nat.le_refl _)
      | succ i =>
        cases i' with
        | zero => rw [kidAt_zero] at hT'; exact (hus.own o' T' hT' b hb').apart (hown i o T hT b hb) (Nat.le_refl _)
        | succ i' => exact hU.apart i o i' o' T T' b (fun e => hio (by cases e; rfl)) hT hT' hb hb'
end
end
end Go.Ab

namespace Go.Ab
section
variable {P : Program} {w w' : World} {σ σ' : Nat → Nat} {S : Store} {β : Hs}
def rootD : D → List (List D)
  | .sl es => es
  | _ => []
def cellX (k : Key) (j : Nat) : D → C
  | .sl _ => .xp k j []
  | d => .d d
def rowX (k : Key) : Nat → List D → List C
  | _, [] => []
  | j, d :: ds => cellX k j d :: rowX k (j + 1) ds
theorem rowX_length {k : Key} : ∀ (j : Nat) (r : List D), (rowX k j r).length = r.length
  | _, [] => rfl
  | j, d :: ds => by rw [rowX, List.length_cons, rowX_length, List.length_cons]
theorem rowX_at {k : Key} : ∀ (r : List D) (j i : Nat), (rowX k j r)[i]? = (r[i]?).map (cellX k (j + i))
  | [], j, i => by simp [rowX]
  | d :: ds, j, 0 => rfl
  | d :: ds, j, i + 1 => by
    rw [rowX, List.getElem?_cons_succ, List.getElem?_cons_succ, rowX_at ds (j + 1) i, show j + 1 + i = j + (i + 1) by omega]
def pureC : C → C
  | .d x => .d x
  | .fsl es => .d (.sl es)
  | .tsl _ es => .d (.sl es)
  | .lfl n es => .d (.ol n es)
  | .rptr cs => .rptr cs
  | _ => .any
def pureV : V → V
  | .c x => .c (pureC x)
  | .agg cs => .agg (cs.map pureC)
  | _ => .any
theorem pure_repC {c : C} {v : Value} (h : RepC w σ S β c v) (S' : Store) (β' : Hs) : RepC w σ S' β' (pureC c) v := by
  cases c with
  | d x => exact h
  | fsl es => exact h.1
  | tsl k es => exact h.1
  | lfl n es => exact h.1
  | rptr cs => exact h
  | _ => trivial
theorem pure_rep {x : V} {v : Value} (h : RepV w σ S β x v) (S' : Store) (β' : Hs) : RepV w σ S' β' (pureV x) v := by
  cases x with
  | c x => exact ⟨pure_repC h.1 _ _, h.2⟩
  | agg cs =>
    obtain ⟨a, ha, hl, hc⟩ := h
    refine ⟨a, ha, by rw [List.length_map]; exact hl, fun i x hx => ?_⟩
    rw [List.getElem?_map] at hx
    cases hi : cs[i]? with
    | none => rw [hi] at hx; cases hx
    | some y =>
      rw [hi] at hx; cases hx
      obtain ⟨u, q1, q2, q3⟩ := hc i y hi
      exact ⟨u, q1, pure_repC q2 _ _, q3⟩
  | _ => trivial
theorem repS_empty (hl : ∀ b, b < w.heap.size ∨ σ b = 0) (hg : Glob w σ) : RepS w σ [] [] where
  glob := hg
  obj := fun k o h => by rw [getO_nil] at h; cases h
  apart := fun k k' o o' h h' b h1 => by rw [getO_nil] at h1; cases h1
  shape := ⟨rfl, fun l fr h => by simp at h⟩
  live := hl
theorem no_own0 {β : Hs} {b : Nat} : ¬ Own [] β b := fun ⟨k, o, h, h1, _⟩ => by rw [getO_nil] at h1; cases h1
def Holder (mk : List C → V) (m : Nat) : Prop := ∀ w σ S β cs v, cs.length = m → RepV w σ S β (mk cs) v → ∃ vs, RepCs w σ S β cs vs ∧ ∀ w' σ' S' β' cs', cs'.length = m → RepCs w' σ' S' β' cs' vs → RepV w' σ' S' β' (mk cs') v
def emptyT : Value := mkT (.slice none 0 0) []
theorem kid_empty (i o : Nat) : kid emptyT i o = none := by
  unfold emptyT
  rw [kid_mkT (fun i o u h => by simp [kidAt] at h)]; simp [kidAt]
theorem owns_empty {b : Nat} : ¬ Owns emptyT b := fun h => by
  cases h with
  | here h1 h2 => cases h1
  | kid h1 h2 => rw [kid_empty] at h1; cases h1
theorem bound_of (σ : Nat → Nat) : ∀ n : Nat, ∃ m, ∀ b, b < n → σ b ≤ m
  | 0 => ⟨0, fun b h => by omega⟩
  | n + 1 => by
    obtain ⟨m, hm⟩ := bound_of σ n
    refine ⟨max m (σ n), fun b hb => ?_⟩
    by_cases e : b = n
    · subst e; omega
    · have := hm b (by omega); omega
open Classical in
theorem ACall.own {f : FuncId} {args : List V} {own0 : List Obj} {Ω : Store} {mk : List C → V} {r : List D} (hm : Holder mk r.length) (hp : plR r = true)
    (h : ∀ n, PCall P f (args.map pureV) (mk ((labR r n).map .d))) :
    ACall P f args (own0 :: Ω) (fun r' S' => r' = mk (rowX (0, own0.length) 0 r) ∧ S' = (own0 ++ [.xf (r.map rootD)]) :: Ω) := by
  refine ⟨(h 0 []).1, fun w σ β vs hS hargs => ?_⟩
  obtain ⟨n, hn⟩ := bound_of σ w.heap.size
  have hargs0 : RepVs w σ [] [] (args.map pureV) vs := by
    refine ⟨by rw [List.length_map]; exact hargs.1, fun j x hx => ?_⟩
    rw [List.getElem?_map] at hx
    cases ha : args[j]? with
    | none => rw [ha] at hx; cases hx
    | some y =>
      rw [ha] at hx; cases hx
      obtain ⟨v, h1, h2⟩ := hargs.2 j y ha
      exact ⟨v, h1, pure_rep h2 _ _⟩
  refine ((h n []).2 w σ [] vs (repS_empty hS.live hS.glob) hargs0).mono fun e w' ⟨v, r', S', σ', β', he, hS', hk, hst, hv, hr', hS2⟩ => ?_
  subst hr'; subst hS2
  obtain ⟨us0, hcs, hback⟩ := hm w' σ' _ β' _ v (by rw [List.length_map, labR_length]) hv
  have hus0 : us0.length = r.length := by rw [← hcs.1, List.length_map, labR_length]
  obtain ⟨us, hus⟩ := lab_R r n (fun j => us0.getD j undef) hp (fun j d hd => by
    obtain ⟨u, h1, h2, _⟩ := hcs.2 j (.d d) (by rw [List.getElem?_map, hd]; rfl)
    simp only [List.getD_eq_getElem?_getD, h1, Option.getD_some]
    exact h2)
  let h0 : Value := .tuple (us.map fun u => u.getD emptyT).toArray
  have hroot : ∀ j, rootAt h0 j = (us[j]?).map fun u => u.getD emptyT := fun j => by simp [h0, rootAt]
  have hfresh : ∀ b, XOwns h0 b → w.heap.size ≤ b := by
    rintro b ⟨j, T, h1, h2⟩
    rw [hroot] at h1
    cases hu : us[j]? with
    | none => rw [hu] at h1; cases h1
    | some u =>
      rw [hu] at h1
      simp only [Option.map_some, Option.some.injEq] at h1
      cases u with
      | none => subst h1; exact absurd h2 owns_empty
      | some u =>
        simp at h1; subst h1
        obtain ⟨c, t, fz, m, a1, a2, a3, a4⟩ := hus.own j u hu b h2
        refine Nat.le_of_not_lt fun hlt => ?_
        have h1 := (hst.far b hlt no_own0).2
        have h2 := hn b hlt
        omega
  let σ2 : Nat → Nat := fun b => if XOwns h0 b then 0 else σ' b
  have hg : Grow w σ w' σ2 := ⟨hst.size, hst.os, hst.output, fun b hb => by
    obtain ⟨h1, h2⟩ := hst.far b hb no_own0
    exact ⟨h1, (if_neg fun hx => by have := hfresh b hx; omega).trans h2⟩, fun b => by
    rcases hS'.live b with hb | hb
    · exact .inl hb
    · right; show (if XOwns h0 b then 0 else σ' b) = 0; rw [hb]; split <;> rfl⟩
  cases β with
  | nil => have := hS.shape.1; simp at this
  | cons bo bΩ =>
  have hlen : bo.length = own0.length := by
    obtain ⟨gr, g1, g2⟩ := hS.shape.2 0 own0 rfl
    simp at g1; rw [g1]; exact g2
  obtain ⟨hS3, hk3, hst3⟩ := hS.push (o := .xf (r.map rootD)) (h := h0) hg hlen (by
    refine ⟨fun j es hj => ?_, fun j T hT => ?_, fun b hb => if_pos hb, fun j j' T T' x hjj hT hT' hx hx' => ?_⟩
    · rw [List.getElem?_map] at hj
      cases hd : r[j]? with
      | none => rw [hd] at hj; cases hj
      | some d =>
        rw [hd] at hj
        simp only [Option.map_some, Option.some.injEq] at hj
        subst hj
        obtain ⟨u, h1, h2⟩ := hus.cell j d hd
        rw [hroot, h1]
        have hsc : (∀ es, d ≠ .sl es) → ∃ T, Option.map (fun u => Option.getD u emptyT) (some u) = some T ∧ ExT w' (rootD d) T := fun hne => by
          have hu : u = none := by cases d <;> first | exact absurd rfl (hne _) | exact h2.1
          have hr0 : rootD d = [] := by cases d <;> first | exact absurd rfl (hne _) | rfl
          subst hu
          rw [hr0]
          exact ⟨emptyT, rfl, .nil none 0 _ rfl kid_empty⟩
        cases d with
        | sl es => obtain ⟨T, rfl, _, _, h6⟩ := h2; exact ⟨T, rfl, h6⟩
        | _ => exact hsc (fun es e => by cases e)
    · rw [List.length_map]
      rw [hroot] at hT
      cases hu : us[j]? with
      | none => rw [hu] at hT; cases hT
      | some u => rw [← hus.len]; exact (List.getElem?_eq_some_iff.1 hu).1
    · rw [hroot] at hT hT'
      cases hu : us[j]? with
      | none => rw [hu] at hT; cases hT
      | some u =>
        cases hu' : us[j']? with
        | none => rw [hu'] at hT'; cases hT'
        | some u' =>
          rw [hu] at hT; rw [hu'] at hT'
          simp only [Option.map_some, Option.some.injEq] at hT hT'
          cases u with
          | none => subst hT; exact owns_empty hx
          | some u =>
            cases u' with
            | none => subst hT'; exact owns_empty hx'
            | some u' => simp at hT hT'; subst hT; subst hT'; exact hus.apart j j' u u' x hjj hu hu' hx hx') (fun b hb => hfresh b hb)
  refine ⟨v, _, _, σ2, (bo ++ [h0]) :: bΩ, he, hS3, hk3, hst3, ?_, rfl, rfl⟩
  refine hback _ _ _ _ _ (by rw [rowX_length]) ⟨by rw [rowX_length, hus0], fun j x hx => ?_⟩
  rw [rowX_at, Nat.zero_add] at hx
  cases hd : r[j]? with
  | none => rw [hd] at hx; cases hx
  | some d =>
    rw [hd] at hx
    simp only [Option.map_some, Option.some.injEq] at hx
    obtain ⟨u, h1, h2⟩ := hus.cell j d hd
    have hjl : j < (labR r n).length := by rw [labR_length]; exact (List.getElem?_eq_some_iff.1 hd).1
    obtain ⟨v0, h3, _, h4⟩ := hcs.2 j (.d (labR r n)[j]) (by rw [List.getElem?_map, List.getElem?_eq_getElem hjl]; rfl)
    have hv0 : us0.getD j undef = v0 := by rw [List.getD_eq_getElem?_getD, h3]; rfl
    simp only [hv0] at h2
    refine ⟨v0, h3, ?_, h4⟩
    have hsc : (∀ es, d ≠ .sl es) → RepC w' σ2 ((own0 ++ [.xf (r.map rootD)]) :: Ω) ((bo ++ [h0]) :: bΩ) (.d d) v0 := fun hne => by
      have : SD d v0 := by cases d <;> first | exact absurd rfl (hne _) | exact h2.2
      exact rep_SD this
    cases d with
    | sl es =>
      subst hx
      obtain ⟨T, rfl, _, h5, _⟩ := h2
      refine ⟨_, getO_push_new _ _ _, fun rs _ => ⟨h0, by rw [← hlen, getO_push_new], ?_⟩⟩
      unfold hdrAt
      rw [hroot, h1]
      exact h5
    | _ => subst hx; exact hsc (fun es e => by cases e)
end
end Go.Ab

namespace Go.Ab
section
variable {P : Program} {w w' : World} {σ σ' : Nat → Nat} {S : Store} {β : Hs}
mutual
theorem st_D {σ2 : Nat → Nat} (hs : ∀ b c t fz, w.heap[b]? = some (.cells c t fz) → c.size < σ b → σ2 b = σ b) : ∀ (d : D) (n : Nat) (v : Value), plD d = true → RepD w σ (labD d n) v → RepD w σ2 (labD d n) v
  | .sl es, n, v, hp, h => by
    rw [labD] at h ⊢
    have hrec := st_Rs hs es (n + 1)
    generalize labRs es (n + 1) = q at h hrec ⊢
    cases h with
    | onil n a cap => exact .onil n a cap
    | ol n b off cap z q vals c t hcap hlen hb hσ hfit hc hv hx => exact .ol n b off cap z q vals c t hcap hlen hb ((hs b c t _ hb (by omega)).trans hσ) hfit hc (hrec vals (by simpa [plD] using hp) hv) hx
  | .ol m es, n, v, hp, h => by simp [plD] at hp
  | .b x, n, v, hp, h => by rw [labD] at h ⊢; cases h; constructor
  | .i k x, n, v, hp, h => by rw [labD] at h ⊢; cases h; constructor
  | .s l, n, v, hp, h => by rw [labD] at h ⊢; cases h; constructor
  | .o u, n, v, hp, h => by simp [plD] at hp
theorem st_R {σ2 : Nat → Nat} (hs : ∀ b c t fz, w.heap[b]? = some (.cells c t fz) → c.size < σ b → σ2 b = σ b) : ∀ (r : List D) (n : Nat) (vals : Nat → Value), plR r = true → (∀ (j : Nat) (d : D), (labR r n)[j]? = some d → RepD w σ d (vals j)) →
    ∀ (j : Nat) (d : D), (labR r n)[j]? = some d → RepD w σ2 d (vals j)
  | [], n, vals, hp, h, j, d, hd => by simp [labR] at hd
  | a :: r, n, vals, hp, h, j, d, hd => by
    rw [plR, Bool.and_eq_true] at hp
    rw [labR] at h hd
    cases j with
    | zero =>
      simp at hd; subst hd
      exact st_D hs a n _ hp.1 (h 0 _ rfl)
    | succ j => exact st_R hs r (n + cntD a) (fun i => vals (i + 1)) hp.2 (fun i d hi => h (i + 1) d hi) j d hd
theorem st_Rs {σ2 : Nat → Nat} (hs : ∀ b c t fz, w.heap[b]? = some (.cells c t fz) → c.size < σ b → σ2 b = σ b) : ∀ (rs : List (List D)) (n : Nat) (vals : Nat → Value), plRs rs = true → (∀ (j : Nat) (d : D), (labRs rs n).flatten[j]? = some d → RepD w σ d (vals j)) →
    ∀ (j : Nat) (d : D), (labRs rs n).flatten[j]? = some d → RepD w σ2 d (vals j)
  | [], n, vals, hp, h, j, d, hd => by simp [labRs] at hd
  | r :: rs, n, vals, hp, h, j, d, hd => by
    rw [plRs, Bool.and_eq_true] at hp
    rw [labRs, List.flatten_cons] at h hd
    by_cases hj : j < (labR r n).length
    · rw [List.getElem?_append_left hj] at hd
      exact st_R hs r n vals hp.1 (fun j d hd => h j d (by rw [List.getElem?_append_left (List.getElem?_eq_some_iff.1 hd).1]; exact hd)) j d hd
    · rw [List.getElem?_append_right (by omega)] at hd
      have := st_Rs hs rs (n + cntR r) (fun i => vals ((labR r n).length + i)) hp.2 (fun j d hd => h _ d (by rw [List.getElem?_append_right (by omega), Nat.add_sub_cancel_left]; exact hd)) (j - (labR r n).length) d hd
      rwa [show (labR r n).length + (j - (labR r n).length) = j by omega] at this
end
theorem ExT.data {es : List (List D)} {T v : Value} (h : ExT w es T) (hv : hdr T = some v) (hσ : ∀ b c t fz, Owns T b → w.heap[b]? = some (.cells c t fz) → c.size ≤ σ b) : RepD w σ (.sl es) v := by
  induction h generalizing v with
  | nil a cap T h hk => rw [h] at hv; cases hv; exact .nil a cap
  | mk b off cap z es T c t vals kids hh hne hcap hlen hb hfit hc hs hk hx hself hap hkid ih =>
    rw [hh] at hv; cases hv
    have hpos : 0 < es.length := List.length_pos_iff.2 hne
    have hfl := flat_len es z hlen
    have hidx : ∀ j, j < es.length * z → ∃ hi : j / z < es.length, j % z < z ∧ j / z * z + j % z = j := fun j hj => by
      have hz : 0 < z := by rcases Nat.eq_zero_or_pos z with h | h; · rw [h] at hj; simp at hj
                            · exact h
      exact ⟨(Nat.div_lt_iff_lt_mul hz).2 hj, Nat.mod_lt _ hz, by rw [Nat.mul_comm]; exact Nat.div_add_mod j z⟩
    have hcell : ∀ j d, es.flatten[j]? = some d → ∃ hi : j / z < es.length, cellAt es (j / z) (j % z) = some d ∧ j / z * z + j % z = j := fun j d hd => by
      have hj : j < es.length * z := by rw [← hfl]; exact (List.getElem?_eq_some_iff.1 hd).1
      obtain ⟨hi, hm, he⟩ := hidx j hj
      refine ⟨hi, ?_, he⟩
      have := flat_get es z hlen (j / z) (j % z) hi hm
      rw [he, hd] at this
      unfold cellAt
      rw [List.getElem?_eq_getElem hi]
      exact this.symm
    refine .sl b off cap z es (fun j => vals (j / z) (j % z)) c t (0, 0) hcap hlen hb (Nat.le_trans hfit (hσ b c t _ (.here hh hpos) hb)) (fun j hj => ?_) (fun j d hd => ?_)
    · obtain ⟨hi, hce, he⟩ := hcell j _ (List.getElem?_eq_getElem (by rw [hfl]; exact hj))
      have := hc _ _ _ hce
      rwa [he] at this
    · obtain ⟨hi, hce, he⟩ := hcell j d hd
      rcases hs _ _ _ hce with ⟨es', rfl⟩ | hsd
      · obtain ⟨k1, k2⟩ := hk _ _ _ hce
        exact ih _ _ _ hce k2 fun b' c' t' fz' ho hb' => hσ b' c' t' fz' (.kid k1 ho) hb'
      · exact rep_SD hsd
end
end Go.Ab

namespace Go.Ab
section
variable {P : Program} {w w' : World} {σ σ' : Nat → Nat} {S : Store} {β : Hs}
end
end Go.Ab

namespace Go.Ab
def mdig (n : Nat) (out : List UInt8) : List UInt8 := if h : n = 0 then out else mdig (n / 10) (UInt8.ofNat (48 + n % 10) :: out)
termination_by n
decreasing_by omega
def mtext (k : Int) : List UInt8 := if k ≤ 0 then [109, 48] else 109 :: mdig k.toNat []
mutual
def mcD : D → Nat
  | .sl es => mcRs es
  | .b _ => 1
  | .i _ _ => 1
  | .s _ => 1
  | .o _ => 0
  | .ol _ _ => 0
def mcR : List D → Nat
  | [] => 0
  | d :: ds => mcD d + mcR ds
def mcRs : List (List D) → Nat
  | [] => 0
  | r :: rs => mcR r + mcRs rs
end
-- The marks from a number on.
mutual
def mkD : D → Int → D
  | .sl es, k => .sl (mkRs es k)
  | .b _, k => .b (decide (k.tmod 3 = 0))
  | .i kd _, k => .i kd k
  | .s _, k => .s (mtext k)
  | .o v, _ => .o v
  | .ol n es, _ => .ol n es
def mkR : List D → Int → List D
  | [], _ => []
  | d :: ds, k => mkD d k :: mkR ds (k + mcD d)
def mkRs : List (List D) → Int → List (List D)
  | [], _ => []
  | r :: rs, k => mkR r k :: mkRs rs (k + mcR r)
end
-- Rows are not long.
mutual
def nwD : D → Bool
  | .sl es => nwRs es
  | .b _ => true
  | .i _ _ => true
  | .s _ => true
  | .o _ => true
  | .ol _ _ => true
def nwR : List D → Bool
  | [] => true
  | d :: ds => nwD d && nwR ds
def nwRs : List (List D) → Bool
  | [] => true
  | r :: rs => decide (r.length ≤ 32) && nwR r && nwRs rs
end
mutual
theorem mc_sz : ∀ d : D, nwD d = true → mcD d ≤ 32 * d.sz + 1
  | .sl es, h => by
    have := mcs_sz es (by simpa [nwD] using h)
    simp only [mcD, D.sz]; omega
  | .b _, _ => by simp [mcD]
  | .i _ _, _ => by simp [mcD]
  | .s _, _ => by simp [mcD]
  | .o _, _ => by simp [mcD]
  | .ol _ _, _ => by simp [mcD]
theorem mcr_sz : ∀ r : List D, nwR r = true → mcR r ≤ 32 * szRow r + r.length
  | [], _ => by simp [mcR]
  | d :: ds, h => by
    rw [nwR, Bool.and_eq_true] at h
    have h1 := mc_sz d h.1
    have h2 := mcr_sz ds h.2
    simp only [mcR, szRow, List.length_cons]; omega
theorem mcs_sz : ∀ rs : List (List D), nwRs rs = true → mcRs rs ≤ 32 * (rs.length + szRows rs)
  | [], _ => by simp [mcRs]
  | r :: rs, h => by
    rw [nwRs, Bool.and_eq_true, Bool.and_eq_true, decide_eq_true_eq] at h
    have h1 := mcr_sz r h.1.2
    have h2 := mcs_sz rs h.2
    simp only [mcRs, szRows, List.length_cons]; omega
end
theorem nwR_append : ∀ a b, nwR (a ++ b) = (nwR a && nwR b)
  | [], b => by simp [nwR]
  | d :: ds, b => by rw [List.cons_append, nwR, nwR, nwR_append ds b, Bool.and_assoc]
theorem nwRs_map {α : Type} {f : α → List D} : ∀ {xs : List α}, (∀ x ∈ xs, nwR (f x) = true ∧ (f x).length ≤ 32) → nwRs (xs.map f) = true
  | [], _ => rfl
  | x :: xs, h => by
    rw [List.map_cons, nwRs, (h x (by simp)).1, nwRs_map fun y hy => h y (by simp [hy]), decide_eq_true (h x (by simp)).2]; rfl
abbrev MarkS (P : Program) (f : FuncId) (es : List (List D)) : Prop := ∀ (k : Int) (l j r : Nat) (p : List (Nat × Nat)) (S : Store) (rs : List (List (List D))), getO S (l, j) = some (.xf rs) → atR rs r p = some es → 0 ≤ k ∧ k + mcRs es ≤ 4611686018427387904 →
  ACall P f [.c (.xp (l, j) r p), .c (.d (.i .i64 k))] S (fun res S' => res = .c (.d (.i .i64 (k + mcRs es))) ∧ S' = setO S (l, j) (.xf (updR rs r p (mkRs es k))))
abbrev HeldS (P : Program) (f : FuncId) (es : List (List D)) : Prop := ∀ (k : Int) (l j r : Nat) (p : List (Nat × Nat)) (S : Store) (rs : List (List (List D))), getO S (l, j) = some (.xf rs) → atR rs r p = some (mkRs es k) → 0 ≤ k ∧ k + mcRs es ≤ 4611686018427387904 →
  ACall P f [.c (.xp (l, j) r p), .c (.d (.i .i64 k))] S (fun res S' => res = .c (.d (.i .i64 (k + mcRs es))) ∧ S' = S)
section
variable {P : Program} {N : Nat} {c : Code} {Q : Exit → St → Prop} {s : St} {S : Store} {l j r n : Nat} {p : List (Nat × Nat)} {rs : List (List (List D))} {rows : List (List D)} {k : Int}
abbrev mslot (l j r : Nat) (p : List (Nat × Nat)) (k : Int) (i : Nat) : List V := [.c (.xp (1 + l, j) r p), .c (.d (.i .i64 k)), .c (.d (.i .i64 i))]
end
theorem mapM_toD : ∀ row : List D, (row.map C.d).mapM toD = some row
  | [] => rfl
  | d :: row => by
    have := mapM_toD row
    rw [List.map_cons, List.mapM_cons, this]; rfl
end Go.Ab
namespace Go.Proofs.YtnceiannponbjaaGreat
open Go Go.Ab
end Go.Proofs.YtnceiannponbjaaGreat

namespace Go.Ab
theorem pl_encS (xs : List (List UInt8)) : plRs (xs.map encS) = true := plRs_map fun _ _ => rfl
theorem nw_encS (xs : List (List UInt8)) : nwRs (xs.map encS) = true := nwRs_map fun _ _ => ⟨rfl, by simp [encS]⟩
theorem lab_encS : ∀ (xs : List (List UInt8)) (n : Nat), labRs (xs.map encS) n = xs.map encS
  | [], _ => rfl
  | x :: xs, n => by rw [List.map_cons, labRs, lab_encS xs]; rfl
mutual
theorem MType.plw : ∀ x : MType, plR x.enc = true ∧ nwR x.enc = true
  | .mk a0 a1 a2 => by simp only [MType.enc, plR, plD, nwR, nwD, plR_append, nwR_append, Bool.and_true, Bool.true_and, Bool.and_self, and_self, and_true, true_and, (MType.plws a2).1, (MType.plws a2).2]
theorem MType.plws : ∀ xs : List MType, plRs (MType.encs xs) = true ∧ nwRs (MType.encs xs) = true
  | [] => ⟨rfl, rfl⟩
  | x :: xs => by
    have h : decide ((MType.enc x).length ≤ 32) = true := by rw [MType.enc_length]; rfl
    simp only [MType.encs, plRs, nwRs, h, (MType.plw x).1, (MType.plw x).2, (MType.plws xs).1, (MType.plws xs).2, Bool.and_self, and_self]
end
theorem MType.plms (xs : List MType) : plRs (xs.map MType.enc) = true ∧ nwRs (xs.map MType.enc) = true := by rw [← MType.encs_map]; exact MType.plws xs
theorem MBinding.plw (x : MBinding) : plR x.enc = true ∧ nwR x.enc = true := by
  rw [MBinding.enc_eq]; simp only [List.cons_append, List.nil_append, plR, plD, nwR, nwD, plR_append, nwR_append, Bool.and_true, Bool.true_and, Bool.and_self, and_self, and_true, true_and, (MType.plw x.fType).1, (MType.plw x.fType).2]
theorem MBinding.plms (xs : List MBinding) : plRs (xs.map MBinding.enc) = true ∧ nwRs (xs.map MBinding.enc) = true := ⟨plRs_map fun x _ => x.plw.1, nwRs_map fun x _ => ⟨x.plw.2, by rw [MBinding.enc_length]; decide⟩⟩
theorem MBound.plw (x : MBound) : plR x.enc = true ∧ nwR x.enc = true := by
  rw [MBound.enc_eq]; simp only [List.cons_append, List.nil_append, plR, plD, nwR, nwD, plR_append, nwR_append, Bool.and_true, Bool.true_and, Bool.and_self, and_self, and_true, true_and, (MType.plw x.fType).1, (MType.plw x.fType).2]
theorem MBound.plms (xs : List MBound) : plRs (xs.map MBound.enc) = true ∧ nwRs (xs.map MBound.enc) = true := ⟨plRs_map fun x _ => x.plw.1, nwRs_map fun x _ => ⟨x.plw.2, by rw [MBound.enc_length]; decide⟩⟩
mutual
theorem MExpr.plw : ∀ x : MExpr, plR x.enc = true ∧ nwR x.enc = true
  | .mk a0 a1 a2 a3 a4 a5 a6 => by simp only [MExpr.enc, plR, plD, nwR, nwD, plR_append, nwR_append, Bool.and_true, Bool.true_and, Bool.and_self, and_self, and_true, true_and, (MType.plw a4).1, (MType.plw a4).2, (MExpr.plws a5).1, (MExpr.plws a5).2, (MArm.plws a6).1, (MArm.plws a6).2]
theorem MExpr.plws : ∀ xs : List MExpr, plRs (MExpr.encs xs) = true ∧ nwRs (MExpr.encs xs) = true
  | [] => ⟨rfl, rfl⟩
  | x :: xs => by
    have h : decide ((MExpr.enc x).length ≤ 32) = true := by rw [MExpr.enc_length]; rfl
    simp only [MExpr.encs, plRs, nwRs, h, (MExpr.plw x).1, (MExpr.plw x).2, (MExpr.plws xs).1, (MExpr.plws xs).2, Bool.and_self, and_self]
theorem MArm.plw : ∀ x : MArm, plR x.enc = true ∧ nwR x.enc = true
  | .mk a0 a1 a2 => by simp only [MArm.enc, plR, plD, nwR, nwD, plR_append, nwR_append, Bool.and_true, Bool.true_and, Bool.and_self, and_self, and_true, true_and, pl_encS a1, nw_encS a1, (MExpr.plw a2).1, (MExpr.plw a2).2]
theorem MArm.plws : ∀ xs : List MArm, plRs (MArm.encs xs) = true ∧ nwRs (MArm.encs xs) = true
  | [] => ⟨rfl, rfl⟩
  | x :: xs => by
    have h : decide ((MArm.enc x).length ≤ 32) = true := by rw [MArm.enc_length]; rfl
    simp only [MArm.encs, plRs, nwRs, h, (MArm.plw x).1, (MArm.plw x).2, (MArm.plws xs).1, (MArm.plws xs).2, Bool.and_self, and_self]
end
theorem MExpr.plms (xs : List MExpr) : plRs (xs.map MExpr.enc) = true ∧ nwRs (xs.map MExpr.enc) = true := by rw [← MExpr.encs_map]; exact MExpr.plws xs
theorem MArm.plms (xs : List MArm) : plRs (xs.map MArm.enc) = true ∧ nwRs (xs.map MArm.enc) = true := by rw [← MArm.encs_map]; exact MArm.plws xs
mutual
theorem MSExpr.plw : ∀ x : MSExpr, plR x.enc = true ∧ nwR x.enc = true
  | .mk a0 a1 => by simp only [MSExpr.enc, plR, plD, nwR, nwD, plR_append, nwR_append, Bool.and_true, Bool.true_and, Bool.and_self, and_self, and_true, true_and, (MSExpr.plws a1).1, (MSExpr.plws a1).2]
theorem MSExpr.plws : ∀ xs : List MSExpr, plRs (MSExpr.encs xs) = true ∧ nwRs (MSExpr.encs xs) = true
  | [] => ⟨rfl, rfl⟩
  | x :: xs => by
    have h : decide ((MSExpr.enc x).length ≤ 32) = true := by rw [MSExpr.enc_length]; rfl
    simp only [MSExpr.encs, plRs, nwRs, h, (MSExpr.plw x).1, (MSExpr.plw x).2, (MSExpr.plws xs).1, (MSExpr.plws xs).2, Bool.and_self, and_self]
end
theorem MSExpr.plms (xs : List MSExpr) : plRs (xs.map MSExpr.enc) = true ∧ nwRs (xs.map MSExpr.enc) = true := by rw [← MSExpr.encs_map]; exact MSExpr.plws xs
theorem MSignature.plw (x : MSignature) : plR x.enc = true ∧ nwR x.enc = true := by
  rw [MSignature.enc_eq]; simp only [List.cons_append, List.nil_append, plR, plD, nwR, nwD, plR_append, nwR_append, Bool.and_true, Bool.true_and, Bool.and_self, and_self, and_true, true_and, (MType.plms x.fParams).1, (MType.plms x.fParams).2, (MType.plw x.fResult).1, (MType.plw x.fResult).2, pl_encS x.fVars, nw_encS x.fVars, (MExpr.plw x.fBody).1, (MExpr.plw x.fBody).2]
theorem MSignature.plms (xs : List MSignature) : plRs (xs.map MSignature.enc) = true ∧ nwRs (xs.map MSignature.enc) = true := ⟨plRs_map fun x _ => x.plw.1, nwRs_map fun x _ => ⟨x.plw.2, by rw [MSignature.enc_length]; decide⟩⟩
theorem MTrait.plw (x : MTrait) : plR x.enc = true ∧ nwR x.enc = true := by
  rw [MTrait.enc_eq]; simp only [List.cons_append, List.nil_append, plR, plD, nwR, nwD, plR_append, nwR_append, Bool.and_true, Bool.true_and, Bool.and_self, and_self, and_true, true_and, pl_encS x.fSupertraits, nw_encS x.fSupertraits, (MSignature.plms x.fSignatures).1, (MSignature.plms x.fSignatures).2]
theorem MTrait.plms (xs : List MTrait) : plRs (xs.map MTrait.enc) = true ∧ nwRs (xs.map MTrait.enc) = true := ⟨plRs_map fun x _ => x.plw.1, nwRs_map fun x _ => ⟨x.plw.2, by rw [MTrait.enc_length]; decide⟩⟩
theorem MConstructor.plw (x : MConstructor) : plR x.enc = true ∧ nwR x.enc = true := by
  rw [MConstructor.enc_eq]; simp only [List.cons_append, List.nil_append, plR, plD, nwR, nwD, plR_append, nwR_append, Bool.and_true, Bool.true_and, Bool.and_self, and_self, and_true, true_and, (MType.plms x.fFields).1, (MType.plms x.fFields).2]
theorem MConstructor.plms (xs : List MConstructor) : plRs (xs.map MConstructor.enc) = true ∧ nwRs (xs.map MConstructor.enc) = true := ⟨plRs_map fun x _ => x.plw.1, nwRs_map fun x _ => ⟨x.plw.2, by rw [MConstructor.enc_length]; decide⟩⟩
theorem MDataType.plw (x : MDataType) : plR x.enc = true ∧ nwR x.enc = true := by
  rw [MDataType.enc_eq]; simp only [List.cons_append, List.nil_append, plR, plD, nwR, nwD, plR_append, nwR_append, Bool.and_true, Bool.true_and, Bool.and_self, and_self, and_true, true_and, pl_encS x.fVars, nw_encS x.fVars, (MConstructor.plms x.fConstructors).1, (MConstructor.plms x.fConstructors).2]
theorem MDataType.plms (xs : List MDataType) : plRs (xs.map MDataType.enc) = true ∧ nwRs (xs.map MDataType.enc) = true := ⟨plRs_map fun x _ => x.plw.1, nwRs_map fun x _ => ⟨x.plw.2, by rw [MDataType.enc_length]; decide⟩⟩
theorem MMethod.plw (x : MMethod) : plR x.enc = true ∧ nwR x.enc = true := by
  rw [MMethod.enc_eq]; simp only [List.cons_append, List.nil_append, plR, plD, nwR, nwD, plR_append, nwR_append, Bool.and_true, Bool.true_and, Bool.and_self, and_self, and_true, true_and, pl_encS x.fVars, nw_encS x.fVars, (MExpr.plw x.fBody).1, (MExpr.plw x.fBody).2]
theorem MMethod.plms (xs : List MMethod) : plRs (xs.map MMethod.enc) = true ∧ nwRs (xs.map MMethod.enc) = true := ⟨plRs_map fun x _ => x.plw.1, nwRs_map fun x _ => ⟨x.plw.2, by rw [MMethod.enc_length]; decide⟩⟩
theorem MInstance.plw (x : MInstance) : plR x.enc = true ∧ nwR x.enc = true := by
  rw [MInstance.enc_eq]; simp only [List.cons_append, List.nil_append, plR, plD, nwR, nwD, plR_append, nwR_append, Bool.and_true, Bool.true_and, Bool.and_self, and_self, and_true, true_and, pl_encS x.fVars, nw_encS x.fVars, (MType.plw x.fHead).1, (MType.plw x.fHead).2, (MBound.plms x.fWhere).1, (MBound.plms x.fWhere).2, (MType.plw x.fAssoc).1, (MType.plw x.fAssoc).2, (MMethod.plms x.fMethods).1, (MMethod.plms x.fMethods).2]
theorem MInstance.plms (xs : List MInstance) : plRs (xs.map MInstance.enc) = true ∧ nwRs (xs.map MInstance.enc) = true := ⟨plRs_map fun x _ => x.plw.1, nwRs_map fun x _ => ⟨x.plw.2, by rw [MInstance.enc_length]; decide⟩⟩
theorem MParam.plw (x : MParam) : plR x.enc = true ∧ nwR x.enc = true := by
  rw [MParam.enc_eq]; simp only [List.cons_append, List.nil_append, plR, plD, nwR, nwD, plR_append, nwR_append, Bool.and_true, Bool.true_and, Bool.and_self, and_self, and_true, true_and, (MType.plw x.fType).1, (MType.plw x.fType).2]
theorem MParam.plms (xs : List MParam) : plRs (xs.map MParam.enc) = true ∧ nwRs (xs.map MParam.enc) = true := ⟨plRs_map fun x _ => x.plw.1, nwRs_map fun x _ => ⟨x.plw.2, by rw [MParam.enc_length]; decide⟩⟩
theorem MFunction.plw (x : MFunction) : plR x.enc = true ∧ nwR x.enc = true := by
  rw [MFunction.enc_eq]; simp only [List.cons_append, List.nil_append, plR, plD, nwR, nwD, plR_append, nwR_append, Bool.and_true, Bool.true_and, Bool.and_self, and_self, and_true, true_and, pl_encS x.fVars, nw_encS x.fVars, (MBound.plms x.fWhere).1, (MBound.plms x.fWhere).2, (MParam.plms x.fParams).1, (MParam.plms x.fParams).2, (MType.plw x.fResult).1, (MType.plw x.fResult).2, (MExpr.plw x.fBody).1, (MExpr.plw x.fBody).2]
theorem MFunction.plms (xs : List MFunction) : plRs (xs.map MFunction.enc) = true ∧ nwRs (xs.map MFunction.enc) = true := ⟨plRs_map fun x _ => x.plw.1, nwRs_map fun x _ => ⟨x.plw.2, by rw [MFunction.enc_length]; decide⟩⟩
theorem MPackage.plw (x : MPackage) : plR x.enc = true ∧ nwR x.enc = true := by
  rw [MPackage.enc_eq]; simp only [List.cons_append, List.nil_append, plR, plD, nwR, nwD, plR_append, nwR_append, Bool.and_true, Bool.true_and, Bool.and_self, and_self, and_true, true_and, pl_encS x.fDeps, nw_encS x.fDeps, (MTrait.plms x.fTraits).1, (MTrait.plms x.fTraits).2, (MDataType.plms x.fDataTypes).1, (MDataType.plms x.fDataTypes).2, (MInstance.plms x.fInstances).1, (MInstance.plms x.fInstances).2, (MFunction.plms x.fFunctions).1, (MFunction.plms x.fFunctions).2]
theorem MPackage.plms (xs : List MPackage) : plRs (xs.map MPackage.enc) = true ∧ nwRs (xs.map MPackage.enc) = true := ⟨plRs_map fun x _ => x.plw.1, nwRs_map fun x _ => ⟨x.plw.2, by rw [MPackage.enc_length]; decide⟩⟩
theorem MProgram.plw (x : MProgram) : plR x.enc = true ∧ nwR x.enc = true := by
  rw [MProgram.enc_eq]; simp only [List.cons_append, List.nil_append, plR, plD, nwR, nwD, plR_append, nwR_append, Bool.and_true, Bool.true_and, Bool.and_self, and_self, and_true, true_and, (MPackage.plms x.fPackages).1, (MPackage.plms x.fPackages).2]
theorem MProgram.plms (xs : List MProgram) : plRs (xs.map MProgram.enc) = true ∧ nwRs (xs.map MProgram.enc) = true := ⟨plRs_map fun x _ => x.plw.1, nwRs_map fun x _ => ⟨x.plw.2, by rw [MProgram.enc_length]; decide⟩⟩
theorem MInstanceRef.plw (x : MInstanceRef) : plR x.enc = true ∧ nwR x.enc = true := by
  rw [MInstanceRef.enc_eq]; simp only [List.cons_append, List.nil_append, plR, plD, nwR, nwD, plR_append, nwR_append, Bool.and_true, Bool.true_and, Bool.and_self, and_self, and_true, true_and]
theorem MInstanceRef.plms (xs : List MInstanceRef) : plRs (xs.map MInstanceRef.enc) = true ∧ nwRs (xs.map MInstanceRef.enc) = true := ⟨plRs_map fun x _ => x.plw.1, nwRs_map fun x _ => ⟨x.plw.2, by rw [MInstanceRef.enc_length]; decide⟩⟩
end Go.Ab

namespace Go.Proofs.YtnceiannponbjaaGreat
open Go Go.Ab
end Go.Proofs.YtnceiannponbjaaGreat

namespace Go.Proofs.YtnceiannponbjaaGreat
open Go Go.Ab
end Go.Proofs.YtnceiannponbjaaGreat

namespace Go.Proofs.YtnceiannponbjaaGreat
open Go Go.Ab
end Go.Proofs.YtnceiannponbjaaGreat

namespace Go.Proofs.YtnceiannponbjaaGreat
open Go Go.Ab
end Go.Proofs.YtnceiannponbjaaGreat

namespace Go.Proofs.YtnceiannponbjaaGreat
open Go Go.Ab
end Go.Proofs.YtnceiannponbjaaGreat

namespace Go.Proofs.YtnceiannponbjaaGreat
open Go Go.Ab
end Go.Proofs.YtnceiannponbjaaGreat

