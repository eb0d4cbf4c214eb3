/-
  MODELS: valid names, formed types, depth. No program in sight.
-/
import Derived.Test.YtjfhgcnoielpfaaMa
set_option linter.unusedSimpArgs false
set_option linter.unusedVariables false
namespace Go.Ab

def lowerB (b : UInt8) : Prop := 97 ≤ b.toNat ∧ b.toNat ≤ 122
def digitB (b : UInt8) : Prop := 48 ≤ b.toNat ∧ b.toNat ≤ 57
/-- Letters, and digits behind the first place. -/
def nameOk (s : List UInt8) : Prop := ∀ i, i < s.length → lowerB (s.getD i 0) ∨ (i ≠ 0 ∧ digitB (s.getD i 0))
def reserved : List (List UInt8) := [[105, 110, 116], [98, 111, 111, 108], [97, 115, 115, 111, 99], [100, 121, 110], [105, 102], [108, 101, 116], [99, 97, 115, 101], [110, 101, 119], [109, 101, 116, 104, 111, 100], [112, 97, 99, 107], [116, 114, 117, 101], [102, 97, 108, 115, 101]]
noncomputable def validName (s : List UInt8) : Bool := dec ((1 ≤ s.length ∧ s.length ≤ 8) ∧ s ∉ reserved ∧ nameOk s)
noncomputable def builtInB (s : List UInt8) : Bool := dec (s = [105, 110, 116] ∨ s = [98, 111, 111, 108])

/-- The first place of s, or -1. -/
noncomputable def indexS (xs : List (List UInt8)) (s : List UInt8) : Int := if s ∈ xs then ((xs.findIdx fun x => dec (x = s) : Nat) : Int) else -1

theorem indexS_here {xs : List (List UInt8)} {s : List UInt8} {i : Nat} (hi : i < xs.length) (hj : ∀ j, j < i → xs.getD j [] ≠ s) (h : xs.getD i [] = s) : indexS xs s = i := by
  have e : ∀ j, ∀ hj : j < xs.length, xs.getD j [] = xs[j] := fun j hj => by simp [List.getD, hj]
  have hm : s ∈ xs := by rw [← h, e i hi]; exact List.getElem_mem hi
  unfold indexS
  rw [if_pos hm]
  congr 1
  rw [List.findIdx_eq hi]
  exact ⟨dec_true (by rw [← e i hi]; exact h), fun j hji => dec_false (by rw [← e j (by omega)]; exact hj j hji)⟩
theorem indexS_no {xs : List (List UInt8)} {s : List UInt8} (hj : ∀ j, j < xs.length → xs.getD j [] ≠ s) : indexS xs s = -1 := by
  unfold indexS
  refine if_neg fun hm => ?_
  obtain ⟨j, h1, h2⟩ := List.getElem_of_mem hm
  exact hj j h1 (by simp [List.getD, h1, h2])
theorem indexS_pos {xs : List (List UInt8)} {s : List UInt8} : decide (indexS xs s ≥ 0) = dec (s ∈ xs) := by
  rw [decide_dec]
  refine dec_congr ?_
  unfold indexS
  split
  · rename_i h; exact ⟨fun _ => h, fun _ => by omega⟩
  · rename_i h; exact ⟨fun x => by omega, fun x => absurd x h⟩

/-- The first place where p holds, or -1. -/
def indexP {α : Type} (p : α → Bool) (xs : List α) : Int := if xs.any p then ((xs.findIdx p : Nat) : Int) else -1
theorem indexP_here {α : Type} {p : α → Bool} {xs : List α} {i : Nat} (hi : i < xs.length) (hj : ∀ j, ∀ hj : j < xs.length, j < i → p xs[j] = false) (h : p xs[i] = true) : indexP p xs = i := by
  unfold indexP
  rw [if_pos (List.any_eq_true.2 ⟨xs[i], List.getElem_mem hi, h⟩)]
  congr 1
  rw [List.findIdx_eq hi]
  exact ⟨h, fun j hji => hj j (by omega) hji⟩
theorem indexP_no {α : Type} {p : α → Bool} {xs : List α} (hj : ∀ j, ∀ hj : j < xs.length, p xs[j] = false) : indexP p xs = -1 := by
  unfold indexP
  refine if_neg fun h => ?_
  obtain ⟨x, hx, hp⟩ := List.any_eq_true.1 h
  obtain ⟨j, h1, h2⟩ := List.getElem_of_mem hx
  rw [← h2, hj j h1] at hp
  cases hp
theorem indexP_pos {α : Type} {p : α → Bool} {xs : List α} : decide (indexP p xs ≥ 0) = xs.any p := by
  unfold indexP
  cases h : xs.any p with
  | true => simp
  | false => simp

/-! ### types -/

noncomputable def fineT (k : Int) (n : List UInt8) (len : Nat) : Bool :=
  dec ((k = 1 ∨ k = 4) ∧ validName n = true ∧ len = 0 ∨ k = 3 ∧ validName n = true ∧ len = 1 ∨ k = 2 ∧ (validName n = true ∧ len ≤ 3 ∨ builtInB n = true ∧ len = 0))

mutual
noncomputable def formed : MType → Bool
  | .mk k n a => fineT k n a.length && formeds a
noncomputable def formeds : List MType → Bool
  | [] => true
  | t :: ts => formed t && formeds ts
end
theorem formed_eq (t : MType) : formed t = (fineT t.fKind t.fName t.fArgs.length && formeds t.fArgs) := by cases t; rw [formed]; rfl
theorem formeds_iff : ∀ {ts : List MType}, formeds ts = true ↔ ∀ t ∈ ts, formed t = true
  | [] => by simp [formeds]
  | t :: ts => by simp [formeds, formeds_iff (ts := ts)]

theorem formeds_any : ∀ {ts : List MType}, (ts.any fun t => !formed t) = !formeds ts
  | [] => rfl
  | t :: ts => by rw [List.any_cons, formeds_any (ts := ts), formeds]; simp

mutual
def depthT : MType → Nat
  | .mk _ _ a => depths a
def depths : List MType → Nat
  | [] => 0
  | t :: ts => max (depthT t + 1) (depths ts)
end
theorem depthT_eq (t : MType) : depthT t = depths t.fArgs := by cases t; rw [depthT]; rfl
mutual
theorem depthT_le : ∀ t : MType, depthT t + 1 ≤ t.cnt
  | .mk k n a => by
    have := depths_le a
    rw [depthT, MType.cnt]; omega
theorem depths_le : ∀ ts : List MType, depths ts ≤ MType.cnts ts
  | [] => by simp [depths]
  | t :: ts => by
    have h1 := depthT_le t
    have h2 := depths_le ts
    rw [depths, MType.cnts]

    omega
end
theorem cnt_pos (t : MType) : 1 ≤ t.cnt := by rw [MType.cnt_eq]; omega
noncomputable def validType (t : MType) : Bool := dec (formed t = true ∧ depthT t ≤ 6 ∧ t.cnt ≤ 60)
end Go.Ab
