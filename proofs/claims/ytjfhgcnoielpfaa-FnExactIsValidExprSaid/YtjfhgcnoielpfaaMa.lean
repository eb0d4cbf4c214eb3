/-
  MODELS: substitution lookup, matching (one Lean function for the program's and the reference's). No program in sight.
-/
import Derived.Test.YtjfhgcnoielpfaaDa
set_option linter.unusedSimpArgs false
set_option linter.unusedVariables false
namespace Go.Ab

/-- The type that the first binding of v gives. -/
def lookupB : List MBinding → List UInt8 → Option MType
  | [], _ => none
  | b :: bs, v => if b.fVar = v then some b.fType else lookupB bs v

mutual
/-- The substitution that the pattern's match adds to s. -/
noncomputable def matchT (s : List MBinding) : MType → MType → Option (List MBinding)
  | .mk k n a, t =>
    if k = 1 then
      match lookupB s n with
      | some u => if dec (u = t) = true then some s else none
      | none => some (s ++ [⟨n, t⟩])
    else if k = t.fKind ∧ n = t.fName ∧ a.length = t.fArgs.length then matchL s a t.fArgs else none
noncomputable def matchL (s : List MBinding) : List MType → List MType → Option (List MBinding)
  | [], _ => some s
  | _ :: _, [] => none
  | p :: ps, t :: ts =>
    match matchT s p t with
    | some s' => matchL s' ps ts
    | none => none
end

theorem matchT_eq (s : List MBinding) (p t : MType) : matchT s p t = if p.fKind = 1 then
      match lookupB s p.fName with
      | some u => if dec (u = t) = true then some s else none
      | none => some (s ++ [⟨p.fName, t⟩])
    else if p.fKind = t.fKind ∧ p.fName = t.fName ∧ p.fArgs.length = t.fArgs.length then matchL s p.fArgs t.fArgs else none := by
  cases p; rw [matchT]; rfl

/-- Matching lists of the same length. -/
noncomputable def matchAll (s : List MBinding) (ps ts : List MType) : Option (List MBinding) := if ps.length = ts.length then matchL s ps ts else none

/-! How many types a type holds, itself counted. -/
mutual
def MType.cnt : MType → Nat
  | .mk _ _ a => 1 + MType.cnts a
def MType.cnts : List MType → Nat
  | [] => 0
  | t :: ts => t.cnt + MType.cnts ts
end
theorem MType.cnt_eq (t : MType) : t.cnt = 1 + MType.cnts t.fArgs := by cases t; rw [MType.cnt]; rfl

mutual
theorem cnt_le : ∀ t : MType, t.cnt ≤ 1 + t.sz
  | .mk k n a => by
    have h := cnts_le a
    rw [MType.cnt]
    have e : (MType.mk k n a).sz = n.length + (a.length + szRows (a.map MType.enc)) := by
      simp only [MType.sz, MType.enc_eq, szRow, D.sz, List.length_map, MType.fName, MType.fArgs, Nat.add_zero, Nat.zero_add]
    omega
theorem cnts_le : ∀ ts : List MType, MType.cnts ts ≤ ts.length + szRows (ts.map MType.enc)
  | [] => by simp [MType.cnts]
  | t :: ts => by
    have h1 := cnt_le t
    have h2 := cnts_le ts
    rw [MType.cnts, List.length_cons, List.map_cons, szRows, MType.sz_def]
    omega
end

mutual
theorem matchT_len : ∀ (p : MType) (s : List MBinding) (t : MType) (s' : List MBinding), matchT s p t = some s' → s'.length ≤ s.length + p.cnt
  | .mk k n a, s, t, s', h => by
    rw [matchT] at h
    rw [MType.cnt]
    split at h
    · split at h
      · split at h
        · cases h; omega
        · cases h
      · cases h; simp
    · split at h
      · have := matchL_len a s t.fArgs s' h; omega
      · cases h
theorem matchL_len : ∀ (ps : List MType) (s : List MBinding) (ts : List MType) (s' : List MBinding), matchL s ps ts = some s' → s'.length ≤ s.length + MType.cnts ps
  | [], s, ts, s', h => by rw [matchL] at h; cases h; omega
  | p :: ps, s, [], s', h => by rw [matchL] at h; cases h
  | p :: ps, s, t :: ts, s', h => by
    rw [matchL] at h
    rw [MType.cnts]
    cases hm : matchT s p t with
    | none => rw [hm] at h; cases h
    | some s1 =>
      rw [hm] at h
      have h1 := matchT_len p s t s1 hm
      have h2 := matchL_len ps s1 ts s' h
      omega
end

theorem lookup_mem {v : List UInt8} {u : MType} : ∀ {bs : List MBinding}, lookupB bs v = some u → ∃ b ∈ bs, b.fType = u
  | [], h => by cases h
  | b :: bs, h => by
    rw [lookupB] at h
    split at h
    · cases h; exact ⟨b, by simp, rfl⟩
    · obtain ⟨b', h1, h2⟩ := lookup_mem h
      exact ⟨b', by simp [h1], h2⟩

/-- All that is bound is small. -/
def Small (s : List MBinding) : Prop := ∀ b ∈ s, b.fType.sz ≤ 4194304

theorem small_nil : Small [] := fun b h => by simp at h

mutual
theorem matchT_small : ∀ (p : MType) (s : List MBinding) (t : MType) (s' : List MBinding), t.sz ≤ 4194304 → Small s → matchT s p t = some s' → Small s'
  | .mk k n a, s, t, s', ht, hs, h => by
    rw [matchT] at h
    split at h
    · split at h
      · split at h
        · cases h; exact hs
        · cases h
      · cases h
        intro b hb
        rcases List.mem_append.1 hb with hb | hb
        · exact hs b hb
        · simp at hb; subst hb; exact ht
    · split at h
      · refine matchL_small a s t.fArgs s' ?_ hs h
        intro x hx
        have h1 := szRows_mem (List.mem_map_of_mem (f := MType.enc) hx)
        have h2 : t.sz = t.fName.length + (t.fArgs.length + szRows (t.fArgs.map MType.enc)) := by
          simp only [MType.sz, MType.enc_eq, szRow, szRow_append, D.sz, List.length_map, Nat.add_zero, Nat.zero_add]
        rw [MType.sz_def] at h1
        omega
      · cases h
theorem matchL_small : ∀ (ps : List MType) (s : List MBinding) (ts : List MType) (s' : List MBinding), (∀ t ∈ ts, t.sz ≤ 4194304) → Small s → matchL s ps ts = some s' → Small s'
  | [], s, ts, s', ht, hs, h => by rw [matchL] at h; cases h; exact hs
  | p :: ps, s, [], s', ht, hs, h => by rw [matchL] at h; cases h
  | p :: ps, s, t :: ts, s', ht, hs, h => by
    rw [matchL] at h
    cases hm : matchT s p t with
    | none => rw [hm] at h; cases h
    | some s1 =>
      rw [hm] at h
      exact matchL_small ps s1 ts s' (fun x hx => ht x (by simp [hx])) (matchT_small p s t s1 (ht t (by simp)) hs hm) h
end

theorem matchL_drop {cur : List MBinding} {ps ts : List MType} {i : Nat} (hi : i < ps.length) (hi' : i < ts.length) (r : Option (List MBinding)) (h : matchL cur (ps.drop i) (ts.drop i) = r) :
    (match matchT cur ps[i] ts[i] with | some n => matchL n (ps.drop (i + 1)) (ts.drop (i + 1)) | none => none) = r := by
  rw [List.drop_eq_getElem_cons hi, List.drop_eq_getElem_cons hi', matchL] at h
  exact h
/-- The pattern p matches t. -/
noncomputable def mats (p t : MType) : Bool := (matchAll [] [p] [t]).isSome
end Go.Ab
