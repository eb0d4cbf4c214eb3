/-
  SIZES OF DATA, AND TRUTH AS A BOOL. No program in sight.
-/
import Derived.Test.YtjfhgcnoielpfaaAbW
set_option linter.unusedSimpArgs false
set_option linter.unusedVariables false
namespace Go.Ab

mutual
def D.sz : D → Nat
  | .s l => l.length
  | .sl es => es.length + szRows es
  | .b _ => 0
  | .i _ _ => 0
  | .o _ => 0
def szRow : List D → Nat
  | [] => 0
  | d :: ds => d.sz + szRow ds
def szRows : List (List D) → Nat
  | [] => 0
  | r :: rs => szRow r + szRows rs
end

theorem szRow_append : ∀ (a b : List D), szRow (a ++ b) = szRow a + szRow b
  | [], b => by simp [szRow]
  | d :: ds, b => by rw [List.cons_append, szRow, szRow_append ds b, szRow]; omega

/-- What is left of an allowance, or -1. -/
def sub1 (left : Int) (n : Nat) : Int := if left - n < 0 then -1 else left - n
theorem sub1_nn {l : Int} {a : Nat} (h : ¬ sub1 l a < 0) : sub1 l a = l - a ∧ 0 ≤ l - a := by
  unfold sub1 at *
  split at h
  · omega
  · rename_i h'; exact ⟨if_neg h', by omega⟩
theorem sub1_neg {l : Int} {a : Nat} (h : sub1 l a < 0) : l - a < 0 := by
  unfold sub1 at *
  split at h <;> omega
theorem sub1_no {l : Int} {a : Nat} (h : l - a < 0) : sub1 l a = -1 := if_pos h
theorem sub1_yes {l : Int} {a : Nat} (h : 0 ≤ l - a) : sub1 l a = l - a := if_neg (by omega)
theorem int_eq {k : IntKind} {a b : Int} (h : a = b) : V.c (.d (.i k a)) = V.c (.d (.i k b)) := by rw [h]
theorem bool_eq {a b : Bool} (h : a = b) : V.c (.d (.b a)) = V.c (.d (.b b)) := by rw [h]

/-- Truth as a bool. -/
noncomputable def dec (p : Prop) : Bool := @decide p (Classical.propDecidable p)
theorem dec_true {p : Prop} (h : p) : dec p = true := by simp [dec, h]
theorem dec_false {p : Prop} (h : ¬ p) : dec p = false := by simp [dec, h]
theorem of_dec {p : Prop} (h : dec p = true) : p := by simpa [dec] using h
theorem of_dec_false {p : Prop} (h : dec p = false) : ¬ p := by simpa [dec] using h
theorem dec_eq_true {p : Prop} : (dec p = true) = p := by simp [dec]
theorem dec_eq_false {p : Prop} : (dec p = false) = ¬ p := by simp [dec]
theorem dec_congr {p q : Prop} (h : p ↔ q) : dec p = dec q := by rw [propext h]
theorem dec_True : dec True = true := dec_true trivial
theorem dec_False : dec False = false := dec_false id
attribute [go_sem] dec_True dec_False
theorem decide_dec {p : Prop} [Decidable p] : decide p = dec p := by by_cases h : p <;> simp [dec, h]

theorem szRows_mem {r : List D} : ∀ {rs : List (List D)}, r ∈ rs → szRow r ≤ szRows rs
  | a :: rs, h => by
    rw [szRows]
    rcases List.mem_cons.1 h with rfl | h
    · omega
    · have := szRows_mem h; omega

/-! ### a row filled from its head on -/

def Filled (z i : Nat) (R rows : List (List D)) : Prop := R.length = rows.length ∧ (∀ r ∈ R, r.length = z) ∧ ∀ j, j < i → R[j]? = rows[j]?

theorem Filled.start {z : Nat} {rows : List (List D)} {zero : List D} {n : Nat} (hn : n = rows.length) (h : zero.length = z) : Filled z 0 (List.replicate n zero) rows := by
  subst hn
  exact ⟨by simp, fun r hr => by rw [List.eq_of_mem_replicate hr]; exact h, fun j h => by omega⟩

theorem Filled.step {z i : Nat} {R rows : List (List D)} {row : List D} (h : Filled z i R rows) (hi : rows[i]? = some row) (hr : row.length = z) : Filled z (i + 1) (R.set i (spliceD (R.getD i []) 0 row)) rows := by
  obtain ⟨h1, h2, h3⟩ := h
  have hlt : i < rows.length := (List.getElem?_eq_some_iff.1 hi).1
  have hs : spliceD (R.getD i []) 0 row = row := by
    have hm : R.getD i [] ∈ R := by
      rw [List.getD_eq_getElem?_getD, List.getElem?_eq_getElem (by omega)]
      exact List.getElem_mem _
    have := h2 _ hm
    unfold spliceD
    rw [List.take_zero, List.nil_append, Nat.zero_add, hr, List.drop_eq_nil_of_le (by omega), List.append_nil]
  rw [hs]
  refine ⟨by simpa using h1, fun r hr' => ?_, fun j hj => ?_⟩
  · rcases List.mem_or_eq_of_mem_set hr' with h | h
    · exact h2 r h
    · rw [h]; exact hr
  · by_cases e : j = i
    · subst e
      rw [hi, List.getElem?_set_self (by omega)]
    · rw [List.getElem?_set_ne (by omega)]
      exact h3 j (by omega)

theorem Filled.done {z i : Nat} {R rows : List (List D)} (h : Filled z i R rows) (hi : rows.length ≤ i) : R = rows := by
  obtain ⟨h1, h2, h3⟩ := h
  refine List.ext_getElem? fun j => ?_
  by_cases hj : j < i
  · exact h3 j hj
  · rw [List.getElem?_eq_none (by omega), List.getElem?_eq_none (by omega)]
end Go.Ab
