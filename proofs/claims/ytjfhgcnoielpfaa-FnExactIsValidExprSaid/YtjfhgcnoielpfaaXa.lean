/-
  MODELS: valid expressions. No program in sight.
-/
import Derived.Test.YtjfhgcnoielpfaaEa
import Derived.Test.YtjfhgcnoielpfaaIa
set_option linter.unusedSimpArgs false
set_option linter.unusedVariables false
namespace Go.Ab

def ops : List (List UInt8) := [[43], [45], [42], [60], [61]]
def zeroT (t : MType) : Prop := t.fKind = 0 ∧ t.fName = [] ∧ t.fArgs.length = 0
/-- The rule of an expression's own fields. -/
def fieldsP (e : MExpr) : Prop :=
  (1 ≤ e.fKind ∧ e.fKind ≤ 12) ∧
  (if e.fKind = 5 ∨ e.fKind = 11 then validName e.fTrait = true else e.fTrait = []) ∧
  (if e.fKind = 3 ∨ e.fKind = 4 ∨ e.fKind = 5 ∨ e.fKind = 6 ∨ e.fKind = 8 then validName e.fName = true else if e.fKind = 10 then e.fName ∈ ops else e.fName = []) ∧
  (if e.fKind = 1 then -999999 ≤ e.fN ∧ e.fN ≤ 999999 else if e.fKind = 2 then e.fN = 0 ∨ e.fN = 1 else e.fN = 0) ∧
  (if e.fKind = 12 then validType e.fType = true else zeroT e.fType) ∧
  (if e.fKind = 4 ∨ e.fKind = 6 then True else if e.fKind = 5 then 1 ≤ e.fArgs.length else if e.fKind = 7 ∨ e.fKind = 11 ∨ e.fKind = 12 then e.fArgs.length = 1 else if e.fKind = 8 ∨ e.fKind = 10 then e.fArgs.length = 2 else if e.fKind = 9 then e.fArgs.length = 3 else e.fArgs.length = 0) ∧
  (e.fKind = 7 ↔ 0 < e.fArms.length)
mutual
noncomputable def exprOk : MExpr → Bool
  | .mk k t n m ty a b => dec (fieldsP (.mk k t n m ty a b)) && (exprsOk a && armsOk b)
noncomputable def exprsOk : List MExpr → Bool
  | [] => true
  | x :: xs => exprOk x && exprsOk xs
noncomputable def armOk : MArm → Bool
  | .mk c v b => validName c && (namesOk v && exprOk b)
noncomputable def armsOk : List MArm → Bool
  | [] => true
  | x :: xs => armOk x && armsOk xs
end
theorem exprOk_eq (x : MExpr) : exprOk x = (dec (fieldsP x) && (exprsOk x.fArgs && armsOk x.fArms)) := by cases x; rw [exprOk]; rfl
theorem armOk_eq (x : MArm) : armOk x = (validName x.fConstructor && (namesOk x.fVars && exprOk x.fBody)) := by cases x; rw [armOk]; rfl
theorem exprsOk_drop {xs : List MExpr} {i : Nat} (hi : i < xs.length) : exprsOk (xs.drop i) = (exprOk xs[i] && exprsOk (xs.drop (i + 1))) := by rw [List.drop_eq_getElem_cons hi, exprsOk]
theorem armsOk_drop {xs : List MArm} {i : Nat} (hi : i < xs.length) : armsOk (xs.drop i) = (armOk xs[i] && armsOk (xs.drop (i + 1))) := by rw [List.drop_eq_getElem_cons hi, armsOk]
theorem exprsOk_any : ∀ {xs : List MExpr}, (xs.any fun t => !exprOk t) = !exprsOk xs
  | [] => rfl
  | t :: ts => by rw [List.any_cons, exprsOk_any (xs := ts), exprsOk]; simp
theorem armsOk_any : ∀ {xs : List MArm}, (xs.any fun t => !armOk t) = !armsOk xs
  | [] => rfl
  | t :: ts => by rw [List.any_cons, armsOk_any (xs := ts), armsOk]; simp
noncomputable def validExpr (e : MExpr) : Bool := dec (e.cnt ≤ 300) && exprOk e

/-- What is left of a number of nodes; -1: there were more. -/
def subE (l : Int) (c : Nat) : Int := if l < 0 then -1 else if c ≤ l then l - c else -1
theorem subE_nn {l : Int} {c : Nat} (h : 0 ≤ subE l c) : subE l c = l - c ∧ 0 ≤ l ∧ (c : Int) ≤ l := by unfold subE at *; split at h <;> (try split at h) <;> omega
theorem subE_add {l : Int} {a b : Nat} : subE (subE l a) b = subE l (a + b) := by unfold subE; split <;> split <;> (try split) <;> (try split) <;> omega
theorem subE_neg {l : Int} {a : Nat} (h : l < 0) : subE l a = -1 := if_pos h
theorem subE_zero {l : Int} (h : -1 ≤ l) : subE l 0 = l := by unfold subE; split <;> (try split) <;> omega
theorem subE_le {l : Int} {c : Nat} (h : 0 ≤ l) : -1 ≤ subE l c ∧ subE l c ≤ l := by unfold subE; split <;> (try split) <;> omega
theorem subE_pos {l : Int} {c : Nat} (h : 0 ≤ l) : decide (subE l c ≥ 0) = decide ((c : Int) ≤ l) := by unfold subE; rw [if_neg (by omega)]; split <;> simp <;> omega
theorem not_valid_nil : validName [] = false := dec_false fun h => by have := h.1.1; simp at this
theorem op_len {s : List UInt8} (h : s ∈ ops) : s.length = 1 := by simp [ops] at h; rcases h with h | h | h | h | h <;> rw [h] <;> rfl
theorem op_not_valid {s : List UInt8} (h : s ∈ ops) : validName s = false := dec_false fun x => by
  have h1 := x.2.2 0 (by have := x.1.1; omega)
  simp [ops] at h; rcases h with h | h | h | h | h <;> rw [h] at h1 <;> simp [lowerB, digitB] at h1
theorem zeroT_not_valid {t : MType} (h : zeroT t) : validType t = false := dec_false fun x => by
  have h1 := x.1
  rw [formed_eq, Bool.and_eq_true] at h1
  have h2 := of_dec h1.1
  rw [h.1] at h2
  omega
end Go.Ab
