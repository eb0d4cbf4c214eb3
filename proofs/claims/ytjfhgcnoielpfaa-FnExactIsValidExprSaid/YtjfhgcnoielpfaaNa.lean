/-
  MODELS: all types in a type, in pre-order; its variables; has it a projection? No program in sight.
-/
import Derived.Test.YtjfhgcnoielpfaaVa
set_option linter.unusedSimpArgs false
set_option linter.unusedVariables false
namespace Go.Ab

mutual
def nodesT : MType → List MType
  | .mk k n a => .mk k n a :: nodesL a
def nodesL : List MType → List MType
  | [] => []
  | t :: ts => nodesT t ++ nodesL ts
end
theorem nodesT_eq (t : MType) : nodesT t = t :: nodesL t.fArgs := by cases t; rw [nodesT]; rfl
theorem nodesL_drop {ts : List MType} {i : Nat} (hi : i < ts.length) : nodesL (ts.drop i) = nodesT ts[i] ++ nodesL (ts.drop (i + 1)) := by rw [List.drop_eq_getElem_cons hi, nodesL]

mutual
theorem nodes_len : ∀ t : MType, (nodesT t).length = t.cnt
  | .mk k n a => by rw [nodesT, List.length_cons, MType.cnt, nodesL_len a]; omega
theorem nodesL_len : ∀ ts : List MType, (nodesL ts).length = MType.cnts ts
  | [] => rfl
  | t :: ts => by rw [nodesL, List.length_append, MType.cnts, nodes_len t, nodesL_len ts]
end

/-- One more variable. -/
def addV (out : List (List UInt8)) (u : MType) : List (List UInt8) := if u.fKind = 1 ∧ u.fName ∉ out then out ++ [u.fName] else out
def tvars (out : List (List UInt8)) (t : MType) : List (List UInt8) := (nodesT t).foldl addV out
def tvarsL (out : List (List UInt8)) (ts : List MType) : List (List UInt8) := (nodesL ts).foldl addV out

theorem addV_len (out : List (List UInt8)) (u : MType) : (addV out u).length ≤ out.length + 1 := by
  unfold addV
  split <;> simp
theorem foldV_len : ∀ (us : List MType) (out : List (List UInt8)), (us.foldl addV out).length ≤ out.length + us.length
  | [], out => by simp
  | u :: us, out => by
    have h1 := addV_len out u
    have h2 := foldV_len us (addV out u)
    rw [List.foldl_cons, List.length_cons]
    omega
theorem tvars_len (t : MType) (out : List (List UInt8)) : (tvars out t).length ≤ out.length + t.cnt := by
  have := foldV_len (nodesT t) out
  rw [nodes_len] at this
  exact this
theorem tvars_eq (out : List (List UInt8)) (t : MType) : tvars out t = tvarsL (addV out t) t.fArgs := by
  unfold tvars tvarsL
  rw [nodesT_eq, List.foldl_cons]
theorem tvarsL_drop {ts : List MType} {i : Nat} (hi : i < ts.length) (out : List (List UInt8)) : tvarsL out (ts.drop i) = tvarsL (tvars out ts[i]) (ts.drop (i + 1)) := by
  unfold tvarsL tvars
  rw [nodesL_drop hi, List.foldl_append]

/-- Has it a projection? -/
def hasProj (t : MType) : Bool := (nodesT t).any fun u => decide (u.fKind = 3)
def hasProjL (ts : List MType) : Bool := (nodesL ts).any fun u => decide (u.fKind = 3)
theorem hasProj_eq (t : MType) : hasProj t = (decide (t.fKind = 3) || hasProjL t.fArgs) := by
  unfold hasProj hasProjL
  rw [nodesT_eq, List.any_cons]
theorem hasProjL_drop {ts : List MType} {i : Nat} (hi : i < ts.length) : hasProjL (ts.drop i) = (hasProj ts[i] || hasProjL (ts.drop (i + 1))) := by
  unfold hasProjL hasProj
  rw [nodesL_drop hi, List.any_append]
theorem hasProj_fold (us : List MType) : ∀ b : Bool, us.foldl (fun b u => b || decide (u.fKind = 3)) b = (b || us.any fun u => decide (u.fKind = 3)) := by
  induction us with
  | nil => intro b; simp
  | cons u us ih => intro b; rw [List.foldl_cons, ih, List.any_cons, Bool.or_assoc]

/-! how often a variable stands in a type -/
def isV (v : List UInt8) (u : MType) : Bool := decide (u.fKind = 1 ∧ u.fName = v)
def countV (v : List UInt8) (t : MType) : Nat := (nodesT t).countP (isV v)
def countVL (v : List UInt8) (ts : List MType) : Nat := (nodesL ts).countP (isV v)
theorem countV_eq (v : List UInt8) (t : MType) : countV v t = (if isV v t then 1 else 0) + countVL v t.fArgs := by
  unfold countV countVL
  rw [nodesT_eq, List.countP_cons]
  omega
theorem countVL_drop {v : List UInt8} {ts : List MType} {i : Nat} (hi : i < ts.length) : countVL v (ts.drop i) = countV v ts[i] + countVL v (ts.drop (i + 1)) := by
  unfold countVL countV
  rw [nodesL_drop hi, List.countP_append]
theorem countV_fold (v : List UInt8) : ∀ (us : List MType) (c : Nat), us.foldl (fun c u => if isV v u then c + 1 else c) c = c + us.countP (isV v)
  | [], c => by simp
  | u :: us, c => by
    rw [List.foldl_cons, countV_fold v us, List.countP_cons]
    split <;> omega
theorem countV_le (v : List UInt8) (t : MType) : countV v t ≤ t.cnt := by
  unfold countV
  rw [← nodes_len]
  exact List.countP_le_length
def occurs (v : List UInt8) (t : MType) : Bool := decide (0 < countV v t)
def selfN : List UInt8 := [115, 101, 108, 102]
def mentions (g : MSignature) : Bool := occurs selfN g.fResult || g.fParams.any (occurs selfN)
def dynSafe (t : MTrait) : Bool := !t.fAssoc && !t.fSignatures.any mentions
end Go.Ab
