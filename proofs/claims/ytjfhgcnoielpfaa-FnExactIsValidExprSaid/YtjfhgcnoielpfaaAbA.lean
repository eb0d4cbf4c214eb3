/-
  ABSTRACT VALUES FOR A WALK, PART 1: trees of data, the store of a call's own objects, and what it means that a world represents them. No program in sight; nothing here is trusted.
-/
import Derived.Orders
import Derived.Tactics
import Derived.RowKit3

set_option linter.unusedSimpArgs false
set_option linter.unusedVariables false
namespace Go.Ab

/-- Pure data: a slice holds its content, element by element, each element a list of cells. -/
inductive D where
  | b (x : Bool)
  | i (k : IntKind) (n : Int)
  | s (l : List UInt8)
  | sl (es : List (List D))
  | o (v : Value)

abbrev Key := Nat × Nat

/-- What one cell or one slot holds. -/
inductive C where
  | d (x : D)
  | any
  | tsl (k : Key) (es : List (List D))
  | fsl (es : List (List D))
  | ptr (k : Key) (off : Nat)
  | rptr (cs : List D)
  | eptr (k : Key) (i off : Nat)
  | msl (k : Key)
  | fn (f : Nat) (caps : List (Key × Nat))
  | mp (k : Key)

inductive V where
  | c (x : C)
  | agg (cs : List C)
  | tup (xs : List (Bool × List C))
  | any

/-- The objects that a call has made and may still change. -/
inductive Obj where
  | dead
  | box (cs : List C)
  | tok (esz : Nat) (es : List (List D))
  | mrow (esz : Nat) (es : List (List D))
  | mp (m : List (List UInt8))

abbrev Store := List (List Obj)
abbrev Hs := List (List Value)

def getO {α : Type} : List (List α) → Key → Option α
  | [], _ => none
  | fr :: _, (0, j) => fr[j]?
  | _ :: S, (l + 1, j) => getO S (l, j)

def setO {α : Type} : List (List α) → Key → α → List (List α)
  | [], _, _ => []
  | fr :: S, (0, j), x => fr.set j x :: S
  | fr :: S, (l + 1, j), x => fr :: setO S (l, j) x

def upK (n : Nat) (k : Key) : Key := (n + k.1, k.2)

def C.up (n : Nat) : C → C
  | .d x => .d x
  | .any => .any
  | .tsl k es => .tsl (upK n k) es
  | .fsl es => .fsl es
  | .ptr k off => .ptr (upK n k) off
  | .rptr cs => .rptr cs
  | .eptr k i off => .eptr (upK n k) i off
  | .msl k => .msl (upK n k)
  | .fn f caps => .fn f (caps.map fun x => (upK n x.1, x.2))
  | .mp k => .mp (upK n k)

def V.up (n : Nat) : V → V
  | .c x => .c (x.up n)
  | .agg cs => .agg (cs.map (C.up n))
  | .tup xs => .tup (xs.map fun y => (y.1, y.2.map (C.up n)))
  | .any => .any

theorem getO_nil {α : Type} (k : Key) : getO ([] : List (List α)) k = none := by unfold getO; rfl
theorem getO_zero {α : Type} (fr : List α) (S : List (List α)) (j : Nat) : getO (fr :: S) (0, j) = fr[j]? := by rw [getO]
theorem getO_succ {α : Type} (fr : List α) (S : List (List α)) (l j : Nat) : getO (fr :: S) (l + 1, j) = getO S (l, j) := by rw [getO]

theorem getO_drop {α : Type} : ∀ (n : Nat) (S : List (List α)) (k : Key), getO (S.drop n) k = getO S (upK n k)
  | 0, S, (l, j) => by simp [upK]
  | n + 1, [], k => by simp [getO_nil]
  | n + 1, fr :: S, (l, j) => by
    rw [List.drop_succ_cons, getO_drop n S (l, j)]
    show _ = getO (fr :: S) (n + 1 + l, j)
    rw [show n + 1 + l = (n + l) + 1 from by omega, getO_succ]
    rfl

theorem getO_setO_eq {α : Type} (x : α) : ∀ (S : List (List α)) (k : Key) (y : α), getO S k = some y → getO (setO S k x) k = some x
  | [], k, y, h => by rw [getO_nil] at h; cases h
  | fr :: S, (0, j), y, h => by
    rw [getO_zero] at h
    rw [setO, getO_zero]
    have := List.getElem?_eq_some_iff.1 h
    simp [this.1]
  | fr :: S, (l + 1, j), y, h => by
    rw [getO_succ] at h
    rw [setO, getO_succ]
    exact getO_setO_eq x S (l, j) y h

theorem getO_setO_ne {α : Type} (x : α) : ∀ (S : List (List α)) (k k' : Key), k ≠ k' → getO (setO S k x) k' = getO S k'
  | [], k, k', _ => by simp [setO]
  | fr :: S, (0, j), (0, j'), h => by
    have : j ≠ j' := fun e => h (by rw [e])
    rw [setO, getO_zero, getO_zero]
    simp [this]
  | fr :: S, (0, j), (l' + 1, j'), h => by rw [setO, getO_succ, getO_succ]
  | fr :: S, (l + 1, j), (0, j'), h => by rw [setO, getO_zero, getO_zero]
  | fr :: S, (l + 1, j), (l' + 1, j'), h => by
    rw [setO, getO_succ, getO_succ]
    exact getO_setO_ne x S (l, j) (l', j') (fun e => h (by injection e with e1 e2; rw [e1, e2]))

theorem drop_setO {α : Type} (x : α) : ∀ (n : Nat) (S : List (List α)) (l j : Nat), (setO S (n + l, j) x).drop n = setO (S.drop n) (l, j) x
  | 0, S, l, j => by simp
  | n + 1, [], l, j => by simp [setO]
  | n + 1, fr :: S, l, j => by
    rw [show n + 1 + l = (n + l) + 1 from by omega, setO, List.drop_succ_cons, List.drop_succ_cons]
    exact drop_setO x n S l j

theorem drop_setO_low {α : Type} (x : α) : ∀ (n : Nat) (S : List (List α)) (l j : Nat), l < n → (setO S (l, j) x).drop n = S.drop n
  | 0, S, l, j, h => by omega
  | n + 1, [], l, j, h => by simp [setO]
  | n + 1, fr :: S, 0, j, h => by rw [setO, List.drop_succ_cons, List.drop_succ_cons]
  | n + 1, fr :: S, l + 1, j, h => by
    rw [setO, List.drop_succ_cons, List.drop_succ_cons]
    exact drop_setO_low x n S l j (by omega)

/-- A datum as a world holds it. 'σ b': how many cells at the head of block b are never written again. -/
inductive RepD (w : World) (σ : Nat → Nat) : D → Value → Prop
  | b (x : Bool) : RepD w σ (.b x) (.bool x)
  | i (k : IntKind) (n : Int) : RepD w σ (.i k n) (.int k n)
  | s (l : List UInt8) : RepD w σ (.s l) (.string ⟨l.toArray⟩)
  | o (v : Value) (h : v.oneCell' = true) : RepD w σ (.o v) v
  | nil (a : Option Addr) (cap : Nat) : RepD w σ (.sl []) (.slice a 0 cap)
  | sl (b off cap esz : Nat) (es : List (List D)) (vals : Nat → Value) (c : Array Value) (t : TypeId) (fz : Nat × Nat)
      (hcap : es.length ≤ cap) (hlen : ∀ e ∈ es, e.length = esz) (hb : w.heap[b]? = some (.cells c t fz)) (hσ : off + es.length * esz ≤ σ b)
      (hc : ∀ j, j < es.length * esz → c[off + j]? = some (vals j)) (hv : ∀ (j : Nat) (d : D), es.flatten[j]? = some d → RepD w σ d (vals j)) :
      RepD w σ (.sl es) (.slice (some ⟨b, off, none⟩) es.length cap)

/-- Cells that can be read from an address on and are never written again. -/
def RepP (w : World) (σ : Nat → Nat) (cs : List D) (a : Addr) : Prop :=
  ∃ c t fz, a.spot = none ∧ w.heap[a.block]? = some (.cells c t fz) ∧ a.off + cs.length ≤ σ a.block ∧
    ∀ (j : Nat) (d : D), cs[j]? = some d → ∃ v : Value, c[a.off + j]? = some v ∧ RepD w σ d v

def RepC (w : World) (σ : Nat → Nat) (S : Store) (β : Hs) : C → Value → Prop
  | .d x, v => RepD w σ x v
  | .any, _ => True
  | .fsl es, v => RepD w σ (.sl es) v ∧ ∃ a n, v = .slice a n n
  | .tsl k es, v => RepD w σ (.sl es) v ∧ ∃ o, getO S k = some o ∧ ∀ esz es', o = .tok esz es' → es.length ≤ es'.length ∧ (es.length = es'.length → getO β k = some v)
  | .ptr k off, v => ∃ o, getO S k = some o ∧ ∀ cs, o = .box cs → ∃ b, getO β k = some (.pointer (some ⟨b, 0, none⟩)) ∧ v = .pointer (some ⟨b, off, none⟩)
  | .rptr cs, v => ∃ a, v = .pointer (some a) ∧ RepP w σ cs a
  | .eptr k i off, v => ∃ o, getO S k = some o ∧ ∀ esz es, o = .mrow esz es → ∃ b n cap, getO β k = some (.slice (some ⟨b, 0, none⟩) n cap) ∧ v = .pointer (some ⟨b, i * esz + off, none⟩)
  | .msl k, v => ∃ o, getO S k = some o ∧ ∀ esz es, o = .mrow esz es → getO β k = some v
  | .fn f caps, v => ∃ vs : Array Value, v = .func (.func f) #[] vs ∧ vs.size = caps.length ∧
      ∀ (j : Nat) (k : Key) (off : Nat), caps[j]? = some (k, off) → ∃ u : Value, vs[j]? = some u ∧ u.oneCell' = true ∧ ∃ o, getO S k = some o ∧ ∀ cs, o = .box cs → ∃ b, getO β k = some (Value.pointer (some ⟨b, 0, none⟩)) ∧ u = Value.pointer (some ⟨b, off, none⟩)
  | .mp k, v => ∃ o, getO S k = some o ∧ ∀ m, o = .mp m → getO β k = some v

/-- Cells side by side. -/
def RepCs (w : World) (σ : Nat → Nat) (S : Store) (β : Hs) (cs : List C) (vs : List Value) : Prop :=
  cs.length = vs.length ∧ ∀ (j : Nat) (x : C), cs[j]? = some x → ∃ v : Value, vs[j]? = some v ∧ RepC w σ S β x v ∧ v.oneCell' = true

/-- One of several results. -/
def CompRep (w : World) (σ : Nat → Nat) (S : Store) (β : Hs) (y : Bool × List C) (u : Value) : Prop :=
  match y with
  | (true, cs) => ∃ a' : Array Value, u = Value.agg a' ∧ RepCs w σ S β cs a'.toList
  | (false, cs) => ∃ x, cs = [x] ∧ RepC w σ S β x u ∧ u.oneCell' = true

def RepV (w : World) (σ : Nat → Nat) (S : Store) (β : Hs) : V → Value → Prop
  | .c x, v => RepC w σ S β x v ∧ v.oneCell' = true
  | .agg cs, v => ∃ a : Array Value, v = .agg a ∧ RepCs w σ S β cs a.toList
  | .tup xs, v => ∃ a : Array Value, v = .tuple a ∧ xs.length = a.size ∧
      ∀ (j : Nat) (y : Bool × List C), xs[j]? = some y → ∃ u : Value, a[j]? = some u ∧ CompRep w σ S β y u
  | .any, _ => True

/-- The block that an object alone may write. -/
def blk : Obj → Value → Option Nat
  | .box _, .pointer (some a) => some a.block
  | .tok _ es, .slice (some a) _ cap => if cap = es.length then none else some a.block
  | .mrow _ _, .slice (some a) _ _ => some a.block
  | .mp _, .map r => r
  | _, _ => none

def RepObj (w : World) (σ : Nat → Nat) (S : Store) (β : Hs) : Obj → Value → Prop
  | .dead, _ => True
  | .box cs, h => ∃ b c t, h = .pointer (some ⟨b, 0, none⟩) ∧ w.heap[b]? = some (.cells c t (0, 0)) ∧ σ b = 0 ∧ RepCs w σ S β cs c.toList
  | .tok esz es, h => RepD w σ (.sl es) h ∧ (∀ e ∈ es, e.length = esz) ∧ ∃ a cap, h = .slice a es.length cap ∧ es.length ≤ cap ∧
      (cap = es.length ∨ ∃ b off c t, a = some ⟨b, off, none⟩ ∧ w.heap[b]? = some (.cells c t (0, 0)) ∧ σ b = off + es.length * esz ∧ off + cap * esz ≤ c.size)
  | .mrow esz es, h => ∃ b c t cap, h = .slice (some ⟨b, 0, none⟩) es.length cap ∧ es.length ≤ cap ∧ w.heap[b]? = some (.cells c t (0, 0)) ∧ σ b = 0 ∧
      (∀ e ∈ es, e.length = esz) ∧ es.length * esz ≤ c.size ∧ ∀ (j : Nat) (x : D), es.flatten[j]? = some x → ∃ v : Value, c[j]? = some v ∧ RepD w σ x v
  | .mp m, h => ∃ (b : Nat) (es : Array MapEntry) (clock : Nat), h = .map (some b) ∧ w.heap[b]? = some (.map es clock) ∧ σ b = 0 ∧
      es.toList.map (fun e => (e.key, e.val)) = m.map (fun l => (Value.string ⟨l.toArray⟩, Value.bool true))

def Own (S : Store) (β : Hs) (b : Nat) : Prop := ∃ k o h, getO S k = some o ∧ getO β k = some h ∧ blk o h = some b

structure RepS (w : World) (σ : Nat → Nat) (S : Store) (β : Hs) : Prop where
  obj : ∀ k o, getO S k = some o → ∃ h, getO β k = some h ∧ RepObj w σ (S.drop k.1) (β.drop k.1) o h
  apart : ∀ k k' o o' h h' b, getO S k = some o → getO β k = some h → blk o h = some b → getO S k' = some o' → getO β k' = some h' → blk o' h' = some b → k = k'
  shape : S.length = β.length ∧ ∀ (l : Nat) (fr : List Obj), S[l]? = some fr → ∃ gr : List Value, β[l]? = some gr ∧ gr.length = fr.length
  live : ∀ b, b < w.heap.size ∨ σ b = 0

/-- What may have become of an object. -/
def KeepO (o : Obj) (h : Option Value) (o' : Obj) (h' : Option Value) : Prop :=
  o' = .dead ∨ match o with
    | .dead => o' = .dead
    | .box _ => (∃ cs, o' = .box cs) ∧ h' = h
    | .tok _ es => ∃ esz es', o' = .tok esz es' ∧ es.length ≤ es'.length ∧ (es.length = es'.length → h' = h)
    | .mrow esz _ => (∃ es', o' = .mrow esz es') ∧ h' = h
    | .mp _ => (∃ m, o' = .mp m) ∧ h' = h

def Keep (S : Store) (β : Hs) (S' : Store) (β' : Hs) : Prop :=
  ∀ k o, getO S k = some o → ∃ o', getO S' k = some o' ∧ KeepO o (getO β k) o' (getO β' k)

/-- How the world has gone on: what is nobody's own is as it was; what is never written again is as it was. -/
structure Step (S : Store) (β : Hs) (σ : Nat → Nat) (w : World) (S' : Store) (β' : Hs) (σ' : Nat → Nat) (w' : World) : Prop where
  size : w.heap.size ≤ w'.heap.size
  os : w'.os = w.os
  output : w'.output = w.output
  far : ∀ b, b < w.heap.size → ¬ Own S β b → w'.heap[b]? = w.heap[b]? ∧ σ' b = σ b
  near : ∀ b c t fz, w.heap[b]? = some (.cells c t fz) → σ b ≤ σ' b ∧ ∃ c', w'.heap[b]? = some (.cells c' t fz) ∧ c'.size = c.size ∧ ∀ i, i < σ b → c'[i]? = c[i]?
  own : ∀ b, Own S' β' b → Own S β b ∨ w.heap.size ≤ b

end Go.Ab
