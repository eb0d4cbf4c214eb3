/-
  ABSTRACT VALUES FOR A WALK, PART 9: objects of the call's own: a new one, and a change to one.
-/
import Derived.Test.YtjfhgcnoielpfaaAbH
set_option linter.unusedSimpArgs false
set_option linter.unusedVariables false
namespace Go.Ab

section
variable {P : Program} {w w' : World} {σ σ' : Nat → Nat} {S : Store} {β : Hs}

theorem getO_push {α : Type} (fr : List α) (S : List (List α)) (x : α) (k : Key) (y : α) (h : getO (fr :: S) k = some y) : getO ((fr ++ [x]) :: S) k = some y := by
  obtain ⟨l, j⟩ := k
  cases l with
  | zero =>
    rw [getO_zero] at h ⊢
    rw [List.getElem?_append_left (List.getElem?_eq_some_iff.1 h).1]; exact h
  | succ l => rw [getO_succ] at h ⊢; exact h

theorem getO_push_inv {α : Type} (fr : List α) (S : List (List α)) (x : α) (k : Key) (y : α) (h : getO ((fr ++ [x]) :: S) k = some y) :
    getO (fr :: S) k = some y ∨ (k = (0, fr.length) ∧ y = x) := by
  obtain ⟨l, j⟩ := k
  cases l with
  | zero =>
    rw [getO_zero] at h ⊢
    by_cases hj : j < fr.length
    · left; rw [List.getElem?_append_left hj] at h; exact h
    · right
      have hlt := (List.getElem?_eq_some_iff.1 h).1
      simp at hlt
      have hj' : j = fr.length := by omega
      subst hj'
      rw [List.getElem?_append_right (Nat.le_refl _)] at h
      simp at h
      exact ⟨rfl, h.symm⟩
  | succ l => left; rw [getO_succ] at h ⊢; exact h

theorem getO_push_new {α : Type} (fr : List α) (S : List (List α)) (x : α) : getO ((fr ++ [x]) :: S) (0, fr.length) = some x := by rw [getO_zero]; simp

/-- A new object in the call's own frame. -/
theorem RepS.push {own : List Obj} {Ω : Store} {bo : List Value} {bΩ : Hs} {o : Obj} {h : Value} (hS : RepS w σ (own :: Ω) (bo :: bΩ)) (hg : Grow w σ w' σ')
    (hlen : bo.length = own.length)
    (ho : RepObj w' σ' ((own ++ [o]) :: Ω) ((bo ++ [h]) :: bΩ) o h) (hb : ∀ b, blk o h = some b → w.heap.size ≤ b) :
    RepS w' σ' ((own ++ [o]) :: Ω) ((bo ++ [h]) :: bΩ) ∧ Keep (own :: Ω) (bo :: bΩ) ((own ++ [o]) :: Ω) ((bo ++ [h]) :: bΩ) ∧ Step (own :: Ω) (bo :: bΩ) σ w ((own ++ [o]) :: Ω) ((bo ++ [h]) :: bΩ) σ' w' := by
  have hkeep : Keep (own :: Ω) (bo :: bΩ) ((own ++ [o]) :: Ω) ((bo ++ [h]) :: bΩ) := by
    intro k o1 h1
    obtain ⟨h2, hh2, _⟩ := hS.obj k o1 h1
    exact ⟨o1, getO_push _ _ _ _ _ h1, by rw [getO_push _ _ _ _ _ hh2, hh2]; exact .refl _ _⟩
  have hinv : ∀ k o1 h1, getO ((own ++ [o]) :: Ω) k = some o1 → getO ((bo ++ [h]) :: bΩ) k = some h1 →
      (getO (own :: Ω) k = some o1 ∧ getO (bo :: bΩ) k = some h1) ∨ (k = (0, own.length) ∧ o1 = o ∧ h1 = h) := by
    intro k o1 h1 e1 e2
    rcases getO_push_inv _ _ _ _ _ e1 with e1 | ⟨rfl, rfl⟩
    · left
      refine ⟨e1, ?_⟩
      rcases getO_push_inv _ _ _ _ _ e2 with e2 | ⟨rfl, rfl⟩
      · exact e2
      · rw [getO_zero, hlen] at e1
        have := (List.getElem?_eq_some_iff.1 e1).1
        omega
    · right
      rw [← hlen, getO_push_new] at e2
      exact ⟨rfl, rfl, (Option.some.inj e2).symm⟩
  refine ⟨⟨?_, ?_, ⟨?_, ?_⟩, hg.live⟩, hkeep, ⟨hg.size, hg.os, hg.output, fun b hb _ => hg.old b hb, hg.near, ?_⟩⟩
  · intro k o1 h1
    rcases getO_push_inv _ _ _ _ _ h1 with h1 | ⟨rfl, rfl⟩
    · obtain ⟨h2, hh2, hr⟩ := hS.obj k o1 h1
      exact ⟨h2, getO_push _ _ _ _ _ hh2, hr.mono hg.near (hkeep.drop _) fun b hb => hg.old b (blk_some hr hb)⟩
    · exact ⟨h, by rw [← hlen, getO_push_new], ho⟩
  · intro k k' o1 o2 h1 h2 b e1 e2 e3 e4 e5 e6
    rcases hinv k o1 h1 e1 e2 with ⟨f1, f2⟩ | ⟨rfl, rfl, rfl⟩
    · rcases hinv k' o2 h2 e4 e5 with ⟨g1, g2⟩ | ⟨rfl, rfl, rfl⟩
      · exact hS.apart _ _ _ _ _ _ _ f1 f2 e3 g1 g2 e6
      · have := hS.own_lt ⟨k, o1, h1, f1, f2, e3⟩
        have := hb b e6
        omega
    · rcases hinv k' o2 h2 e4 e5 with ⟨g1, g2⟩ | ⟨rfl, rfl, rfl⟩
      · have := hS.own_lt ⟨k', o2, h2, g1, g2, e6⟩
        have := hb b e3
        omega
      · rfl
  · have := hS.shape.1
    simpa using this
  · intro l fr hl
    cases l with
    | zero =>
      simp at hl
      exact ⟨_, rfl, by rw [← hl]; simp [hlen]⟩
    | succ l => exact hS.shape.2 (l + 1) fr hl
  · rintro b ⟨k, o1, h1, e1, e2, e3⟩
    rcases hinv k o1 h1 e1 e2 with ⟨f1, f2⟩ | ⟨rfl, rfl, rfl⟩
    · exact .inl ⟨k, o1, h1, f1, f2, e3⟩
    · exact .inr (hb b e3)

theorem setO_length {α : Type} (x : α) : ∀ (S : List (List α)) (k : Key), (setO S k x).length = S.length
  | [], _ => rfl
  | fr :: S, (0, j) => rfl
  | fr :: S, (l + 1, j) => by rw [setO, List.length_cons, setO_length x S (l, j)]; rfl

theorem setO_frame {α : Type} (x : α) : ∀ (S : List (List α)) (k : Key) (l : Nat) (fr : List α), (setO S k x)[l]? = some fr → ∃ fr', S[l]? = some fr' ∧ fr'.length = fr.length
  | [], _, _, _, h => by simp [setO] at h
  | fr0 :: S, (0, j), 0, fr, h => by simp [setO] at h; exact ⟨fr0, rfl, by rw [← h]; simp⟩
  | fr0 :: S, (0, j), l + 1, fr, h => by rw [setO] at h; exact ⟨fr, h, rfl⟩
  | fr0 :: S, (k + 1, j), 0, fr, h => by simp [setO] at h; exact ⟨fr0, rfl, by rw [← h]⟩
  | fr0 :: S, (k + 1, j), l + 1, fr, h => by
    rw [setO] at h
    obtain ⟨fr', h1, h2⟩ := setO_frame x S (k, j) l fr h
    exact ⟨fr', h1, h2⟩

theorem setO_frame' {α : Type} (x : α) : ∀ (S : List (List α)) (k : Key) (l : Nat) (fr : List α), S[l]? = some fr → ∃ fr', (setO S k x)[l]? = some fr' ∧ fr'.length = fr.length
  | [], _, _, _, h => by simp at h
  | fr0 :: S, (0, j), 0, fr, h => by simp at h; subst h; exact ⟨_, rfl, by simp⟩
  | fr0 :: S, (0, j), l + 1, fr, h => by rw [setO]; exact ⟨fr, h, rfl⟩
  | fr0 :: S, (k + 1, j), 0, fr, h => by simp at h; subst h; exact ⟨_, rfl, rfl⟩
  | fr0 :: S, (k + 1, j), l + 1, fr, h => by
    rw [setO]
    exact setO_frame' x S (k, j) l fr h

/-- An object of the stack changes, and with it its own block alone. -/
theorem RepS.set {k : Key} {o o' : Obj} {h h' : Value} (hS : RepS w σ S β) (hk : getO S k = some o) (hh : getO β k = some h)
    (hsz : w.heap.size ≤ w'.heap.size) (hos : w'.os = w.os) (hout : w'.output = w.output) (hn : Near w σ w' σ') (hl : ∀ b, b < w'.heap.size ∨ σ' b = 0)
    (hfar : ∀ b, b < w.heap.size → blk o h ≠ some b → w'.heap[b]? = w.heap[b]? ∧ σ' b = σ b) (hkeep : KeepO o (some h) o' (some h'))
    (hobj : RepObj w' σ' ((setO S k o').drop k.1) ((setO β k h').drop k.1) o' h') (hb : ∀ b, blk o' h' = some b → blk o h = some b ∨ w.heap.size ≤ b) :
    RepS w' σ' (setO S k o') (setO β k h') ∧ Keep S β (setO S k o') (setO β k h') ∧ Step S β σ w (setO S k o') (setO β k h') σ' w' := by
  have hk' := getO_setO_eq o' S k o hk
  have hh' := getO_setO_eq h' β k h hh
  have hne : ∀ k1, k1 ≠ k → getO (setO S k o') k1 = getO S k1 ∧ getO (setO β k h') k1 = getO β k1 := fun k1 e => ⟨getO_setO_ne _ _ _ _ (Ne.symm e), getO_setO_ne _ _ _ _ (Ne.symm e)⟩
  have hK : Keep S β (setO S k o') (setO β k h') := by
    intro k1 o1 h1
    by_cases e : k1 = k
    · subst e
      rw [hk] at h1; cases h1
      exact ⟨o', hk', by rw [hh, hh']; exact hkeep⟩
    · obtain ⟨e1, e2⟩ := hne k1 e
      exact ⟨o1, e1.trans h1, by rw [e2]; exact .refl _ _⟩
  have hother : ∀ k1 o1 h1 b, k1 ≠ k → getO S k1 = some o1 → getO β k1 = some h1 → blk o1 h1 = some b → blk o h ≠ some b := by
    intro k1 o1 h1 b e e1 e2 e3 e4
    exact e (hS.apart _ _ _ _ _ _ _ e1 e2 e3 hk hh e4)
  refine ⟨⟨?_, ?_, ⟨?_, ?_⟩, hl⟩, hK, ⟨hsz, hos, hout, ?_, hn, ?_⟩⟩
  · intro k1 o1 e1
    by_cases e : k1 = k
    · subst e
      rw [hk'] at e1; cases e1
      exact ⟨h', hh', hobj⟩
    · obtain ⟨f1, f2⟩ := hne k1 e
      rw [f1] at e1
      obtain ⟨h1, e2, hr⟩ := hS.obj k1 o1 e1
      exact ⟨h1, f2.trans e2, hr.mono hn (hK.drop _) fun b e3 => hfar b (blk_some hr e3) (hother k1 o1 h1 b e e1 e2 e3)⟩
  · intro k1 k2 o1 o2 h1 h2 b e1 e2 e3 e4 e5 e6
    by_cases c1 : k1 = k
    · by_cases c2 : k2 = k
      · rw [c1, c2]
      · subst c1
        rw [hk'] at e1; cases e1
        rw [hh'] at e2; cases e2
        obtain ⟨f1, f2⟩ := hne k2 c2
        rw [f1] at e4; rw [f2] at e5
        rcases hb b e3 with e | e
        · exact absurd e (hother k2 o2 h2 b c2 e4 e5 e6)
        · have := hS.own_lt ⟨k2, o2, h2, e4, e5, e6⟩; omega
    · obtain ⟨f1, f2⟩ := hne k1 c1
      rw [f1] at e1; rw [f2] at e2
      by_cases c2 : k2 = k
      · subst c2
        rw [hk'] at e4; cases e4
        rw [hh'] at e5; cases e5
        rcases hb b e6 with e | e
        · exact absurd e (hother k1 o1 h1 b c1 e1 e2 e3)
        · have := hS.own_lt ⟨k1, o1, h1, e1, e2, e3⟩; omega
      · obtain ⟨g1, g2⟩ := hne k2 c2
        rw [g1] at e4; rw [g2] at e5
        exact hS.apart _ _ _ _ _ _ _ e1 e2 e3 e4 e5 e6
  · rw [setO_length, setO_length]; exact hS.shape.1
  · intro l fr hl
    obtain ⟨fr', h1, h2⟩ := setO_frame _ _ _ _ _ hl
    obtain ⟨gr, h3, h4⟩ := hS.shape.2 l fr' h1
    obtain ⟨gr', h5, h6⟩ := setO_frame' h' β k l gr h3
    exact ⟨gr', h5, by omega⟩
  · intro b hb1 hb2
    exact hfar b hb1 (fun e => hb2 ⟨k, o, h, hk, hh, e⟩)
  · rintro b ⟨k1, o1, h1, e1, e2, e3⟩
    by_cases e : k1 = k
    · subst e
      rw [hk'] at e1; cases e1
      rw [hh'] at e2; cases e2
      exact (hb b e3).imp (fun e => ⟨_, _, _, hk, hh, e⟩) id
    · obtain ⟨f1, f2⟩ := hne k1 e
      rw [f1] at e1; rw [f2] at e2
      exact .inl ⟨k1, o1, h1, e1, e2, e3⟩

theorem setO_setO {α : Type} (x : α) : ∀ (S : List (List α)) (k : Key) (y : α), getO S k = some y → setO S k y = S
  | [], _, _, _ => rfl
  | fr :: S, (0, j), y, h => by
    rw [getO_zero] at h
    rw [setO]
    congr 1
    have := List.getElem?_eq_some_iff.1 h
    obtain ⟨h1, h2⟩ := this
    rw [← h2]; simp
  | fr :: S, (l + 1, j), y, h => by
    rw [getO_succ] at h
    rw [setO, setO_setO x S (l, j) y h]

end
end Go.Ab
