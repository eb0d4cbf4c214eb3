/-
  ABSTRACT VALUES FOR A WALK, PART 26: function values as arguments: what is asked of one, under whatever frames it is called.
-/
import Derived.Test.YtjfhgcnoielpfaaAbY
set_option linter.unusedSimpArgs false
set_option linter.unusedVariables false
namespace Go.Ab

section
variable {P : Program} {S : Store}

def upCaps (n : Nat) (caps : List (Key × Nat)) : List (Key × Nat) := caps.map fun y => (upK n y.1, y.2)

theorem upCaps_nil {n : Nat} : upCaps n [] = [] := rfl
theorem upCaps_cons {n l j off : Nat} {caps : List (Key × Nat)} : upCaps n (((l, j), off) :: caps) = ((n + l, j), off) :: upCaps n caps := rfl
theorem upCaps_up {m n : Nat} {caps : List (Key × Nat)} : upCaps m (upCaps n caps) = upCaps (m + n) caps := by
  unfold upCaps
  rw [List.map_map]
  refine List.map_congr_left fun y _ => ?_
  simp only [Function.comp, upK, Prod.mk.injEq, and_true]
  omega

theorem refs_upCaps {n m g : Nat} {caps : List (Key × Nat)} : C.refs n (.fn g (upCaps (m + 1) caps)) = true := by
  simp only [C.refs, upCaps, List.all_map, List.all_eq_true]
  intro x _
  have h : 0 < m + 1 + x.1.1 := by omega
  simp [Function.comp, refK, upK, h]

theorem refs_upCaps1 {n : Nat} {caps : List (Key × Nat)} : ((upCaps 1 caps).all fun x => refK n x.fst) = true := refs_upCaps (m := 0) (g := 0)

/-- The stack under some frames. -/
theorem getO_app : ∀ (F S : Store) (l j : Nat), getO (F ++ S) (F.length + l, j) = getO S (l, j)
  | [], S, l, j => by simp
  | fr :: F, S, l, j => by
    rw [List.cons_append, List.length_cons, show F.length + 1 + l = (F.length + l) + 1 from by omega, getO_succ, getO_app F S l j]
theorem setO_app (x : Obj) : ∀ (F S : Store) (l j : Nat), setO (F ++ S) (F.length + l, j) x = F ++ setO S (l, j) x
  | [], S, l, j => by simp
  | fr :: F, S, l, j => by
    rw [List.cons_append, List.length_cons, show F.length + 1 + l = (F.length + l) + 1 from by omega, setO, setO_app x F S l j, List.cons_append]

theorem getO_app0 {F S : Store} {j : Nat} : getO (F ++ S) (F.length, j) = getO S (0, j) := getO_app F S 0 j
theorem setO_app0 {F S : Store} {j : Nat} {x : Obj} : setO (F ++ S) (F.length, j) x = F ++ setO S (0, j) x := setO_app x F S 0 j
attribute [go_sem] getO_app0 setO_app0 upCaps_nil upCaps_cons

/-- A function value that only computes: r of x. -/
def FPure (P : Program) (g : Nat) (caps : List (Key × Nat)) (S : Store) (xs : List V) (r : V) : Prop :=
  ∀ F : Store, ACall P g (xs ++ capV (upCaps F.length caps)) (F ++ S) (fun r' S' => r' = r ∧ S' = F ++ S)

theorem FPure.push {g : Nat} {caps : List (Key × Nat)} {xs : List V} {r : V} (h : FPure P g caps S xs r) (fr : List Obj) : FPure P g (upCaps 1 caps) (fr :: S) xs r := fun F => by
  have := h (F ++ [fr])
  rw [upCaps_up]
  simpa using this

theorem FPure.of_pure {g : Nat} {xs : List V} {r : V} (h : PCall P g xs r) : FPure P g [] S xs r := fun F => by
  have := h (F ++ S)
  simpa [upCaps, capV] using this

/-- A function value that takes a state on; I n: n steps are left. -/
def FStep (P : Program) (g : Nat) (caps : List (Key × Nat)) {α X : Type} (st : α → Store) (I : Nat → α → Prop) (f : α → X → α) (xv : X → V) (ok : X → Prop) : Prop :=
  ∀ n a u, I (n + 1) a → ok u → I n (f a u) ∧ ∀ F : Store, ACall P g (xv u :: capV (upCaps F.length caps)) (F ++ st a) (fun r' S' => r' = .tup [] ∧ S' = F ++ st (f a u))

theorem FStep.push {g : Nat} {caps : List (Key × Nat)} {α X : Type} {st : α → Store} {I : Nat → α → Prop} {f : α → X → α} {xv : X → V} {ok : X → Prop} (h : FStep P g caps st I f xv ok) (fr : List Obj) :
    FStep P g (upCaps 1 caps) (fun a => fr :: st a) I f xv ok := fun n a u ha hu => ⟨(h n a u ha hu).1, fun F => by
  have := (h n a u ha hu).2 (F ++ [fr])
  rw [upCaps_up]
  simpa using this⟩

/-- A box's cell that holds a slice without spare room: the slice is taken over for appending. -/
theorem aw_tokbox {N : Nat} {c : Code} {Q : Exit → St → Prop} {tm : List (Nat × V)} {own : List Obj} {Ω : Store} (j i esz : Nat) (es : List (List D)) (cs : List C) (hj : own[j]? = some (.box cs)) (hi : cs[i]? = some (.fsl es)) (hes : ∀ e ∈ es, e.length = esz)
    (h : AW P N c Q ⟨tm, (own.set j (.box (cs.set i (.tsl (0, own.length) es))) ++ [.tok esz es]) :: Ω⟩) : AW P N c Q ⟨tm, own :: Ω⟩ := by
  refine aw_ghost h fun a w σ β hR => ?_
  obtain ⟨bo, bΩ, rfl, hlen⟩ := frames hR
  have hjl := (List.getElem?_eq_some_iff.1 hj).1
  have hg0 : getO (own :: Ω) (0, j) = some (.box cs) := by rw [getO_zero]; exact hj
  obtain ⟨hb, hbo, hr⟩ := hR.S.obj (0, j) _ hg0
  obtain ⟨b, cv, ty, rfl, hbc, hσ, hcs⟩ := hr
  have hcs : RepCs w σ (own :: Ω) (bo :: bΩ) cs cv.toList := hcs
  obtain ⟨v, hv, ⟨hd, ad, n, hval⟩, hone⟩ := hcs.2 i _ hi
  have hn : n = es.length := by rw [hval] at hd; cases hd <;> rfl
  have hg : Grow w σ w σ := Grow.refl hR.S.live
  obtain ⟨hS', hk, hst⟩ := hR.S.push (o := .tok esz es) (h := v) hg hlen ⟨hd, hes, ad, n, by rw [hval, hn], by omega, .inl hn⟩ (fun b hb => by
    rw [hval, hn] at hb
    cases ad <;> simp [blk] at hb)
  have hk1 : getO ((own ++ [.tok esz es]) :: Ω) (0, j) = some (.box cs) := getO_push _ _ _ _ _ hg0
  have hh1 : getO ((bo ++ [v]) :: bΩ) (0, j) = some (.pointer (some ⟨b, 0, none⟩)) := getO_push _ _ _ _ _ hbo
  have hko : KeepO (.box cs) (some (Value.pointer (some ⟨b, 0, none⟩))) (.box (cs.set i (.tsl (0, own.length) es))) (some (Value.pointer (some ⟨b, 0, none⟩))) := .inr ⟨⟨_, rfl⟩, rfl⟩
  have hK : Keep ((own ++ [.tok esz es]) :: Ω) ((bo ++ [v]) :: bΩ) (setO ((own ++ [.tok esz es]) :: Ω) (0, j) (.box (cs.set i (.tsl (0, own.length) es)))) (setO ((bo ++ [v]) :: bΩ) (0, j) (.pointer (some ⟨b, 0, none⟩))) := by
    intro k1 o1 e1
    by_cases e : k1 = (0, j)
    · subst e
      rw [hk1] at e1; cases e1
      exact ⟨_, getO_setO_eq _ _ _ _ hk1, by rw [hh1, getO_setO_eq _ _ _ _ hh1]; exact hko⟩
    · exact ⟨o1, (getO_setO_ne _ _ _ _ (Ne.symm e)).trans e1, by rw [getO_setO_ne _ _ _ _ (Ne.symm e)]; exact .refl _ _⟩
  have hne : (0, own.length) ≠ (0, j) := fun e => by injection e with _ e; omega
  obtain ⟨hS2, hk2, hst2⟩ := hS'.set (w' := w) (σ' := σ) (o' := .box (cs.set i (.tsl (0, own.length) es))) (h' := .pointer (some ⟨b, 0, none⟩)) hk1 hh1 (Nat.le_refl _) rfl rfl (Near.refl _ _) hS'.live (fun _ _ _ => ⟨rfl, rfl⟩) hko
    ⟨b, cv, ty, rfl, hbc, hσ, by
      refine ⟨by rw [List.length_set]; exact hcs.1, fun m x hm => ?_⟩
      rw [List.getElem?_set] at hm
      by_cases e : i = m
      · subst e
        rw [if_pos rfl] at hm
        split at hm
        · cases hm
          refine ⟨v, hv, ⟨hd, .tok esz es, ?_, fun a1 b1 e1 => ?_⟩, hone⟩
          · show getO (setO _ (0, j) _) (0, own.length) = _
            rw [getO_setO_ne _ _ _ _ (Ne.symm hne), getO_push_new]
          · cases e1
            refine ⟨Nat.le_refl _, fun _ => ?_⟩
            show getO (setO _ (0, j) _) (0, own.length) = _
            rw [getO_setO_ne _ _ _ _ (Ne.symm hne), ← hlen, getO_push_new]
        · cases hm
      · rw [if_neg e] at hm
        obtain ⟨u, hu, hc, ho⟩ := hcs.2 m x hm
        exact ⟨u, hu, (hc.mono (Near.refl _ _) hk).mono (Near.refl _ _) hK, ho⟩⟩ (fun _ e => .inl e)
  have est : setO ((own ++ [.tok esz es]) :: Ω) (0, j) (.box (cs.set i (.tsl (0, own.length) es))) = (own.set j (.box (cs.set i (.tsl (0, own.length) es))) ++ [.tok esz es]) :: Ω := by
    rw [setO, List.set_append_left _ _ hjl]
  rw [est] at hS2 hk2 hst2
  exact ⟨σ, _, ⟨hR.size, hR.defers, hS2, fun u => ((hR.T u).mono (Near.refl _ _) hk).mono (Near.refl _ _) hk2⟩, hst.trans hst2, by
    have := hk.trans hk2
    exact this.tail⟩

end
end Go.Ab
