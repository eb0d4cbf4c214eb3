/-
  ABSTRACT VALUES FOR A WALK, PART 10: new variables, make, and stores into variables of the call's own.
-/
import Derived.Test.YtjfhgcnoielpfaaAbI
import Derived.Laws.CopyRow
set_option linter.unusedSimpArgs false
set_option linter.unusedVariables false
namespace Go.Ab

structure St where
  tm : List (Nat × V)
  st : Store

def St.put (s : St) (dst : Option Nat) (v : V) : St :=
  match dst with
  | some d => ⟨(d, v) :: s.tm, s.st⟩
  | none => s

def C.down (n : Nat) : C → Option C
  | .d x => some (.d x)
  | .any => some .any
  | .fsl es => some (.fsl es)
  | .rptr cs => some (.rptr cs)
  | .tsl k es => if n ≤ k.1 then some (.tsl (k.1 - n, k.2) es) else none
  | .ptr k off => if n ≤ k.1 then some (.ptr (k.1 - n, k.2) off) else none
  | .eptr k i off => if n ≤ k.1 then some (.eptr (k.1 - n, k.2) i off) else none
  | .msl k => if n ≤ k.1 then some (.msl (k.1 - n, k.2)) else none
  | .mp k => if n ≤ k.1 then some (.mp (k.1 - n, k.2)) else none
  | .fn f caps => if n = 0 then some (.fn f caps) else none

section
variable {P : Program} {w w' : World} {σ σ' : Nat → Nat} {S : Store} {β : Hs}

theorem upK_down {n : Nat} {k : Key} (h : n ≤ k.1) : upK n (k.1 - n, k.2) = k := by
  obtain ⟨l, j⟩ := k
  show (n + (l - n), j) = (l, j)
  rw [Nat.add_sub_cancel' h]

theorem rep_down {n : Nat} {c c' : C} {v : Value} (h : c.down n = some c') (hc : RepC w σ S β c v) : RepC w σ (S.drop n) (β.drop n) c' v := by
  cases c with
  | d x => cases h; exact hc
  | any => cases h; exact trivial
  | fsl es => cases h; exact hc
  | rptr cs => cases h; exact hc
  | tsl k es =>
    simp only [C.down] at h
    split at h
    · rename_i hn
      cases h
      obtain ⟨h1, o, ho, h2⟩ := hc
      exact ⟨h1, o, by rw [getO_drop, upK_down hn]; exact ho, fun a b e => by rw [getO_drop, upK_down hn]; exact h2 a b e⟩
    · cases h
  | ptr k off =>
    simp only [C.down] at h
    split at h
    · rename_i hn
      cases h
      obtain ⟨o, ho, h2⟩ := hc
      exact ⟨o, by rw [getO_drop, upK_down hn]; exact ho, fun a e => by simp only [getO_drop, upK_down hn]; exact h2 a e⟩
    · cases h
  | eptr k i off =>
    simp only [C.down] at h
    split at h
    · rename_i hn
      cases h
      obtain ⟨o, ho, h2⟩ := hc
      exact ⟨o, by rw [getO_drop, upK_down hn]; exact ho, fun a b e => by simp only [getO_drop, upK_down hn]; exact h2 a b e⟩
    · cases h
  | msl k =>
    simp only [C.down] at h
    split at h
    · rename_i hn
      cases h
      obtain ⟨o, ho, h2⟩ := hc
      exact ⟨o, by rw [getO_drop, upK_down hn]; exact ho, fun a b e => by rw [getO_drop, upK_down hn]; exact h2 a b e⟩
    · cases h
  | mp k =>
    simp only [C.down] at h
    split at h
    · rename_i hn
      cases h
      obtain ⟨o, ho, h2⟩ := hc
      exact ⟨o, by rw [getO_drop, upK_down hn]; exact ho, fun a e => by rw [getO_drop, upK_down hn]; exact h2 a e⟩
    · cases h
  | fn f caps =>
    simp only [C.down] at h
    split at h
    · rename_i hn
      cases h; subst hn
      simpa using hc
    · cases h

theorem rep_downs {n : Nat} {xs ys : List C} {vs : List Value} (h : xs.mapM (C.down n) = some ys) (hc : RepCs w σ S β xs vs) : RepCs w σ (S.drop n) (β.drop n) ys vs := by
  induction xs generalizing ys vs with
  | nil => simp at h; subst h; exact ⟨hc.1, fun j d hd => by simp at hd⟩
  | cons x xs ih =>
    rw [List.mapM_cons] at h
    cases hd : C.down n x with
    | none => rw [hd] at h; simp at h
    | some y =>
      cases hm : xs.mapM (C.down n) with
      | none => rw [hd, hm] at h; simp at h
      | some ys' =>
        rw [hd, hm] at h
        simp at h
        subst h
        cases vs with
        | nil => have := hc.1; simp at this
        | cons v vs =>
          obtain ⟨l, r⟩ := ih hm (vs := vs) ⟨by have := hc.1; simpa using this, fun j y hy => hc.2 (j + 1) y hy⟩
          refine ⟨by simp [l], fun j e he => ?_⟩
          cases j with
          | zero =>
            simp at he; subst he
            obtain ⟨u, hu, hr, ho⟩ := hc.2 0 x rfl
            simp at hu; subst hu
            exact ⟨v, rfl, rep_down hd hr, ho⟩
          | succ j => exact r j e he

/-! ### new variables -/

theorem push_cells (w : World) (σ : Nat → Nat) (hl : ∀ b, b < w.heap.size ∨ σ b = 0) (c : Array Value) (t : TypeId) (n : Nat) :
    Grow w σ { w with heap := w.heap.push (.cells c t) } (fun b => if b = w.heap.size then n else σ b) := by
  refine ⟨by simp, rfl, rfl, fun b hb => ?_, fun b => ?_⟩
  · have : b ≠ w.heap.size := by omega
    refine ⟨?_, if_neg this⟩
    simp only
    rw [Array.getElem?_push, if_neg this]
  · simp only [Array.size_push]
    by_cases hb : b = w.heap.size
    · left; omega
    · rw [if_neg hb]
      exact (hl b).imp (fun h => by omega) id

theorem box_new {own : List Obj} {Ω : Store} {bo : List Value} {bΩ : Hs} {cs : List C} {v : Value} {t : TypeId} (hS : RepS w σ (own :: Ω) (bo :: bΩ)) (hlen : bo.length = own.length)
    (hc : RepCs w σ (own :: Ω) (bo :: bΩ) cs v.cells.toList) :
    ∃ w' σ' h, (newVar t v).run P w = .ok ⟨w.heap.size, 0, none⟩ w' ∧ h = Value.pointer (some ⟨w.heap.size, 0, none⟩) ∧
      RepS w' σ' ((own ++ [.box cs]) :: Ω) ((bo ++ [h]) :: bΩ) ∧ Keep (own :: Ω) (bo :: bΩ) ((own ++ [.box cs]) :: Ω) ((bo ++ [h]) :: bΩ) ∧ Step (own :: Ω) (bo :: bΩ) σ w ((own ++ [.box cs]) :: Ω) ((bo ++ [h]) :: bΩ) σ' w' := by
  have hg := push_cells w σ hS.live v.cells t 0
  refine ⟨{ w with heap := w.heap.push (.cells v.cells t) }, fun b => if b = w.heap.size then 0 else σ b, _, rfl, rfl, ?_⟩
  refine hS.push hg hlen ⟨w.heap.size, v.cells, t, rfl, by simp, by simp, ?_⟩ (fun b hb => by cases hb; exact Nat.le_refl _)
  refine hc.mono hg.near ?_
  intro k o1 h1
  obtain ⟨h2, hh2, _⟩ := hS.obj k o1 h1
  exact ⟨o1, getO_push _ _ _ _ _ h1, by rw [getO_push _ _ _ _ _ hh2, hh2]; exact .refl _ _⟩

theorem ptr_new {own : List Obj} {Ω : Store} {bo : List Value} {bΩ : Hs} {cs : List C} {b : Nat} (hlen : bo.length = own.length) :
    RepV w σ ((own ++ [.box cs]) :: Ω) ((bo ++ [Value.pointer (some ⟨b, 0, none⟩)]) :: bΩ) (.c (.ptr (0, own.length) 0)) (.pointer (some ⟨b, 0, none⟩)) :=
  ⟨⟨_, getO_push_new _ _ _, fun cs' _ => ⟨b, by rw [← hlen, getO_push_new], rfl⟩⟩, rfl⟩

/-! ### stores -/

theorem setRow_heap_ne (w : World) (g : Nat) (c : Array Value) (b : Nat) (h : b ≠ g) : (w.setRow g c).heap[b]? = w.heap[b]? := by
  simp only [World.setRow, Array.getElem?_modify]
  rw [if_neg (Ne.symm h)]

theorem setRow_size (w : World) (g : Nat) (c : Array Value) : (w.setRow g c).heap.size = w.heap.size := by simp [World.setRow]

theorem run_storeVar {t : TypeId} {b off : Nat} {v : Value} {c : Array Value} {ty : TypeId} (hi : (P.info? t).isSome = true) (hsz : v.cells.size = P.cellsOf t)
    (hb : w.heap[b]? = some (.cells c ty (0, 0))) (hle : off + v.cells.size ≤ c.size) (hone : ∀ x ∈ v.cells.toList, x.oneCell' = true) :
    (Instr.storeAt t (.pointer (some ⟨b, off, none⟩)) v).run P w = .ok () (w.setRow b (c.toList.take off ++ v.cells.toList ++ c.toList.drop (off + v.cells.size)).toArray) := by
  have h := run_storeCells_at (P := P) b off ty v.cells.toList 0 c w hb (by simpa using hle) hone
  simp only [Nat.add_zero, Array.length_toList] at h
  simp only [Instr.storeAt, Instr.sureAddr, storeVar, Sem.run_bind, Sem.run_pure, Result.andThen_ok, run_sizeOf' hi, hsz, ne_eq, not_true_eq_false, if_false, h]

theorem store_box {k : Key} {off : Nat} {t : TypeId} {cs xs : List C} {av xv : Value} (hS : RepS w σ S β) (ha : RepV w σ S β (.c (.ptr k off)) av) (hk : getO S k = some (.box cs))
    (hx : RepCs w σ (S.drop k.1) (β.drop k.1) xs xv.cells.toList) (h1 : xs.length = P.cellsOf t) (h2 : off + xs.length ≤ cs.length) (h3 : (P.info? t).isSome = true) :
    ∃ w' σ' h, (Instr.storeAt t av xv).run P w = .ok () w' ∧ getO β k = some h ∧
      RepS w' σ' (setO S k (.box (splice cs off xs))) (setO β k h) ∧ Keep S β (setO S k (.box (splice cs off xs))) (setO β k h) ∧ Step S β σ w (setO S k (.box (splice cs off xs))) (setO β k h) σ' w' := by
  obtain ⟨⟨o, ho, hp⟩, _⟩ := ha
  rw [hk] at ho; cases ho
  obtain ⟨b, hb, rfl⟩ := hp cs rfl
  obtain ⟨h, hh, hr⟩ := hS.obj k _ hk
  rw [hb] at hh; cases hh
  obtain ⟨b', c, ty, e, hbc, hσ, hcs⟩ := hr
  cases e
  have l1 := hcs.1
  have l2 := hx.1
  simp at l1 l2
  have hrun := run_storeVar (P := P) (off := off) (v := xv) h3 (by omega) hbc (by omega) (fun x hx' => by
    obtain ⟨j, hj⟩ := List.getElem?_of_mem hx'
    obtain ⟨hjl, _⟩ := List.getElem?_eq_some_iff.1 hj
    obtain ⟨v, hv, _, ho⟩ := hx.2 j (xs[j]'(by rw [l2]; simpa using hjl)) (List.getElem?_eq_getElem _)
    rw [hj] at hv; cases hv; exact ho)
  generalize hc2 : (c.toList.take off ++ xv.cells.toList ++ c.toList.drop (off + xv.cells.size)).toArray = c2 at hrun
  have hc2s : c2.size = c.size := by rw [← hc2]; simp; omega
  have hheap : (w.setRow b c2).heap[b]? = some (.cells c2 ty (0, 0)) := setRow_heap w b c c2 ty (0, 0) hbc
  have hlt : b < w.heap.size := lt_of_some hbc
  have hn : Near w σ (w.setRow b c2) σ := by
    intro b1 c1 t1 fz1 e1
    refine ⟨Nat.le_refl _, ?_⟩
    by_cases hb1 : b1 = b
    · subst hb1
      rw [hbc] at e1; cases e1
      exact ⟨c2, hheap, hc2s, fun i hi => by rw [hσ] at hi; omega⟩
    · exact ⟨c1, (setRow_heap_ne w b c2 b1 hb1).trans e1, rfl, fun _ _ => rfl⟩
  have hkeep0 : KeepO (.box cs) (some (Value.pointer (some ⟨b, 0, none⟩))) (.box (splice cs off xs)) (some (Value.pointer (some ⟨b, 0, none⟩))) := .inr ⟨⟨_, rfl⟩, rfl⟩
  have hKeep : Keep S β (setO S k (.box (splice cs off xs))) (setO β k (Value.pointer (some ⟨b, 0, none⟩))) := by
    intro k1 o1 e1
    by_cases e : k1 = k
    · subst e
      rw [hk] at e1; cases e1
      exact ⟨_, getO_setO_eq _ S k1 _ hk, by rw [hb, getO_setO_eq _ β k1 _ hb]; exact hkeep0⟩
    · exact ⟨o1, (getO_setO_ne _ _ _ _ (Ne.symm e)).trans e1, by rw [getO_setO_ne _ _ _ _ (Ne.symm e)]; exact .refl _ _⟩
  refine ⟨w.setRow b c2, σ, _, hrun, hb, ?_⟩
  refine hS.set hk hb (Nat.le_of_eq (setRow_size _ _ _).symm) rfl rfl hn (fun x => by rw [setRow_size]; exact hS.live x) (fun b1 hb1 hne => ⟨setRow_heap_ne _ _ _ _ (fun e => hne (by rw [e]; rfl)), rfl⟩) hkeep0 ?_ (fun b1 e => .inl e)
  refine ⟨b, c2, ty, rfl, hheap, hσ, ?_⟩
  have hsp := rep_splice (off := off) (hcs.mono hn (hKeep.drop k.1)) (hx.mono hn (hKeep.drop k.1)) (by omega)
  have e2 : c2.toList = c.toList.take off ++ xv.cells.toList ++ c.toList.drop (off + xv.cells.toList.length) := by rw [← hc2]; simp
  rw [e2]
  exact hsp

def spliceD (cells : List D) (off : Nat) (xs : List D) : List D := cells.take off ++ xs ++ cells.drop (off + xs.length)

theorem flat_set {α : Type} : ∀ (es : List (List α)) (esz : Nat) (i : Nat) (e : List α), (∀ x ∈ es, x.length = esz) → e.length = esz → i < es.length →
    (es.set i e).flatten = es.flatten.take (i * esz) ++ e ++ es.flatten.drop (i * esz + esz)
  | [], _, _, _, _, _, h => by simp at h
  | x :: es, esz, 0, e, h, he, _ => by
    have hx : x.length = esz := h x (by simp)
    simp [← hx]
  | x :: es, esz, i + 1, e, h, he, hi => by
    have hx : x.length = esz := h x (by simp)
    rw [List.set_cons_succ, List.flatten_cons, List.flatten_cons, flat_set es esz i e (fun y hy => h y (by simp [hy])) he (by simpa using hi)]
    have e1 : (i + 1) * esz = x.length + i * esz := by rw [Nat.add_mul, hx]; omega
    have e2 : (i + 1) * esz + esz = x.length + (i * esz + esz) := by omega
    rw [e2, e1, List.take_length_add_append, List.drop_length_add_append]
    simp

theorem store_row {k : Key} {i off esz : Nat} {t : TypeId} {es : List (List D)} {ds : List D} {av xv : Value} (hS : RepS w σ S β) (ha : RepV w σ S β (.c (.eptr k i off)) av) (hk : getO S k = some (.mrow esz es))
    (hx : ds.length = xv.cells.size ∧ ∀ (j : Nat) (d : D), ds[j]? = some d → ∃ v, xv.cells.toList[j]? = some v ∧ RepD w σ d v) (h1 : ds.length = P.cellsOf t) (h2 : off + ds.length ≤ esz) (hi : i < es.length) (h3 : (P.info? t).isSome = true) :
    ∃ w' σ' h, (Instr.storeAt t av xv).run P w = .ok () w' ∧ getO β k = some h ∧
      RepS w' σ' (setO S k (.mrow esz (es.set i (spliceD (es.getD i []) off ds)))) (setO β k h) ∧ Keep S β (setO S k (.mrow esz (es.set i (spliceD (es.getD i []) off ds)))) (setO β k h) ∧
      Step S β σ w (setO S k (.mrow esz (es.set i (spliceD (es.getD i []) off ds)))) (setO β k h) σ' w' := by
  obtain ⟨⟨o, ho, hp⟩, _⟩ := ha
  rw [hk] at ho; cases ho
  obtain ⟨b, n, cap, hb, rfl⟩ := hp esz es rfl
  obtain ⟨h, hh, hr⟩ := hS.obj k _ hk
  rw [hb] at hh; cases hh
  obtain ⟨b', c, ty, cap', e, hcap, hbc, hσ, hlen, hcsz, hcs⟩ := hr
  cases e
  obtain ⟨l2, hds⟩ := hx
  have hmul : i * esz + esz ≤ es.length * esz := by
    have : (i + 1) * esz ≤ es.length * esz := Nat.mul_le_mul_right _ hi
    rwa [Nat.add_mul, Nat.one_mul] at this
  have hrun := run_storeVar (P := P) (off := i * esz + off) (v := xv) h3 (by omega) hbc (by omega) (fun x hx' => by
    obtain ⟨j, hj⟩ := List.getElem?_of_mem hx'
    obtain ⟨hjl, _⟩ := List.getElem?_eq_some_iff.1 hj
    obtain ⟨v, hv, hr⟩ := hds j (ds[j]'(by rw [l2]; simpa using hjl)) (List.getElem?_eq_getElem _)
    rw [hj] at hv; cases hv; exact hr.one)
  generalize hc2 : (c.toList.take (i * esz + off) ++ xv.cells.toList ++ c.toList.drop (i * esz + off + xv.cells.size)).toArray = c2 at hrun
  have hc2s : c2.size = c.size := by rw [← hc2]; simp; omega
  have hheap : (w.setRow b c2).heap[b]? = some (.cells c2 ty (0, 0)) := setRow_heap w b c c2 ty (0, 0) hbc
  have hn : Near w σ (w.setRow b c2) σ := by
    intro b1 c1 t1 fz1 e1
    refine ⟨Nat.le_refl _, ?_⟩
    by_cases hb1 : b1 = b
    · subst hb1
      rw [hbc] at e1; cases e1
      exact ⟨c2, hheap, hc2s, fun i hi => by rw [hσ] at hi; omega⟩
    · exact ⟨c1, (setRow_heap_ne w b c2 b1 hb1).trans e1, rfl, fun _ _ => rfl⟩
  have hge : es.getD i [] = es[i] := by simp [List.getD, hi]
  have hel : es[i].length = esz := hlen _ (List.getElem_mem hi)
  have hspl : (spliceD (es.getD i []) off ds).length = esz := by
    rw [hge]; simp only [spliceD, List.length_append, List.length_take, List.length_drop, hel]; omega
  refine ⟨w.setRow b c2, σ, _, hrun, hb, ?_⟩
  refine hS.set hk hb (Nat.le_of_eq (setRow_size _ _ _).symm) rfl rfl hn (fun x => by rw [setRow_size]; exact hS.live x) (fun b1 hb1 hne => ⟨setRow_heap_ne _ _ _ _ (fun e => hne (by rw [e]; rfl)), rfl⟩)
    (.inr ⟨⟨_, rfl⟩, rfl⟩) ?_ (fun b1 e => .inl e)
  refine ⟨b, c2, ty, cap, by rw [List.length_set], by rw [List.length_set]; exact hcap, hheap, hσ, ?_, by rw [List.length_set, hc2s]; exact hcsz, ?_⟩
  · intro e he
    rcases List.mem_or_eq_of_mem_set he with he | rfl
    · exact hlen e he
    · exact hspl
  · intro j x hj
    rw [flat_set es esz i _ hlen hspl hi] at hj
    have hfl := flat_len es esz hlen
    have hc2j : c2[j]? = (c.toList.take (i * esz + off) ++ xv.cells.toList ++ c.toList.drop (i * esz + off + xv.cells.size))[j]? := by rw [← hc2]; simp
    have old : ∀ y, es.flatten[j]? = some y → (j < i * esz + off ∨ i * esz + off + ds.length ≤ j) → ∃ v, c2[j]? = some v ∧ RepD (w.setRow b c2) σ y v := by
      intro y hy hout
      obtain ⟨v, hv, hr⟩ := hcs j y hy
      refine ⟨v, ?_, hr.mono hn⟩
      rw [hc2j]
      have hjc := (Array.getElem?_eq_some_iff.1 hv).1
      rcases hout with hout | hout
      · rw [List.append_assoc, List.getElem?_append_left (by simp only [List.length_append, List.length_take, List.length_drop, Array.length_toList]; omega), List.getElem?_take_of_lt hout, Array.getElem?_toList]; exact hv
      · rw [List.getElem?_append_right (by simp only [List.length_append, List.length_take, List.length_drop, Array.length_toList]; omega), List.getElem?_drop]
        rw [← hv, ← Array.getElem?_toList]
        congr 1
        simp only [List.length_append, List.length_take, List.length_drop, Array.length_toList]; omega
    by_cases c1 : j < i * esz
    · rw [List.append_assoc, List.getElem?_append_left (by simp only [List.length_append, List.length_take, List.length_drop, Array.length_toList]; omega), List.getElem?_take_of_lt c1] at hj
      exact old x hj (.inl (by omega))
    · by_cases c2' : j < i * esz + esz
      · rw [List.getElem?_append_left (by simp only [List.length_append, List.length_take, List.length_drop, Array.length_toList]; omega), List.getElem?_append_right (by simp only [List.length_append, List.length_take, List.length_drop, Array.length_toList]; omega)] at hj
        have et : (es.flatten.take (i * esz)).length = i * esz := by simp only [List.length_append, List.length_take, List.length_drop, Array.length_toList]; omega
        rw [et] at hj
        unfold spliceD at hj
        rw [hge] at hj
        by_cases c3 : j - i * esz < off
        · rw [List.append_assoc, List.getElem?_append_left (by simp only [List.length_append, List.length_take, List.length_drop, Array.length_toList]; omega), List.getElem?_take_of_lt c3] at hj
          have := flat_get es esz hlen i (j - i * esz) hi (by omega)
          rw [show i * esz + (j - i * esz) = j from by omega] at this
          exact old x (this.trans hj) (.inl (by omega))
        · by_cases c4 : j - i * esz < off + ds.length
          · rw [List.getElem?_append_left (by simp only [List.length_append, List.length_take, List.length_drop, Array.length_toList]; omega), List.getElem?_append_right (by simp only [List.length_append, List.length_take, List.length_drop, Array.length_toList]; omega)] at hj
            have et2 : (es[i].take off).length = off := by simp only [List.length_append, List.length_take, List.length_drop, Array.length_toList]; omega
            rw [et2] at hj
            obtain ⟨v, hv, hr⟩ := hds _ x hj
            refine ⟨v, ?_, hr.mono hn⟩
            rw [hc2j, List.getElem?_append_left (by simp only [List.length_append, List.length_take, List.length_drop, Array.length_toList]; omega), List.getElem?_append_right (by simp only [List.length_append, List.length_take, List.length_drop, Array.length_toList]; omega)]
            rw [← hv]; congr 1; simp only [List.length_append, List.length_take, List.length_drop, Array.length_toList]; omega
          · rw [List.getElem?_append_right (by simp only [List.length_append, List.length_take, List.length_drop, Array.length_toList]; omega), List.getElem?_drop] at hj
            have := flat_get es esz hlen i (j - i * esz) hi (by omega)
            rw [show i * esz + (j - i * esz) = j from by omega] at this
            refine old x ?_ (.inr (by omega))
            rw [this, ← hj]; congr 1; simp only [List.length_append, List.length_take, List.length_drop, Array.length_toList]; omega
      · rw [List.getElem?_append_right (by simp only [List.length_append, List.length_take, List.length_drop, Array.length_toList]; omega), List.getElem?_drop] at hj
        refine old x ?_ (.inr (by omega))
        rw [← hj]; congr 1; simp only [List.length_append, List.length_take, List.length_drop, Array.length_toList]; omega
end
end Go.Ab
