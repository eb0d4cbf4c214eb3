/-
  ABSTRACT VALUES FOR A WALK, PART 4: the machine's quiet operations do what 'nval' says. Plain lemmas over any program.
-/
import Derived.Test.YtjfhgcnoielpfaaAbC
import Derived.Laws.Cells
set_option linter.unusedSimpArgs false
set_option linter.unusedVariables false
namespace Go.Ab

section
variable {P : Program} {w : World} {σ : Nat → Nat} {S : Store} {β : Hs}

/-- The operation yields the value, if the side condition holds. -/
def Does (P : Program) (m : Sem Value) (w : World) (σ : Nat → Nat) (S : Store) (β : Hs) (r : R) : Prop :=
  r.1 → ∃ v w' σ', m.run P w = .ok v w' ∧ Grow w σ w' σ' ∧ RepV w' σ' S β r.2 v

theorem Does.no {m : Sem Value} : Does P m w σ S β no := fun h => h.elim

theorem Does.here {m : Sem Value} {r : R} {v : Value} (hl : ∀ b, b < w.heap.size ∨ σ b = 0) (h : r.1 → m.run P w = .ok v w ∧ RepV w σ S β r.2 v) : Does P m w σ S β r :=
  fun hr => ⟨v, w, σ, (h hr).1, .refl hl, (h hr).2⟩

theorem info_of_underlying {t : TypeId} {d : TypeDesc} (h : P.underlying t = some d) : (P.info? t).isSome = true := by
  unfold Program.underlying at h
  split at h <;> simp_all

theorem run_sizeOf' {t : TypeId} (h : (P.info? t).isSome = true) : (sizeOf t).run P w = .ok (P.cellsOf t) w := by
  obtain ⟨i, hi⟩ := Option.isSome_iff_exists.1 h
  simp [sizeOf, typeInfo, hi, Program.cellsOf]

theorem run_sizeOf_u {t : TypeId} {d : TypeDesc} (h : P.underlying t = some d) : (sizeOf t).run P w = .ok (P.cellsOf t) w := run_sizeOf' (info_of_underlying h)

theorem run_isAgg' {t : TypeId} {d : TypeDesc} (h : P.underlying t = some d) : (isAgg t).run P w = .ok (aggT P t) w := by
  simp only [isAgg, Sem.run_bind, run_underlying h, Result.andThen_ok, aggT, h]
  cases d <;> rfl

theorem addr_add (a : Addr) (n : Nat) (h : a.spot = none) : a.add n = ⟨a.block, a.off + n, none⟩ := by
  unfold Addr.add
  split
  · rename_i e; subst e; cases a; simp_all
  · rfl

theorem cell_of {b off : Nat} {c : Array Value} {t : TypeId} {fz : Nat × Nat} (h : w.heap[b]? = some (.cells c t fz)) : w.cell? ⟨b, off, none⟩ = c[off]? := by
  simp [World.cell?, h]

theorem part_list (c : Array Value) (off n : Nat) (h : ∀ j, j < n → ∃ v, c[off + j]? = some v) :
    ((c.toList.drop off).take n).length = n ∧ ∀ j, j < n → ((c.toList.drop off).take n)[j]? = c[off + j]? := by
  have hl : n = 0 ∨ off + n ≤ c.size := by
    cases n with
    | zero => exact .inl rfl
    | succ n =>
      obtain ⟨v, hv⟩ := h n (by omega)
      have := (Array.getElem?_eq_some_iff.1 hv).1
      exact .inr (by omega)
  constructor
  · simp only [List.length_take, List.length_drop, Array.length_toList]; omega
  · intro j hj
    rw [List.getElem?_take_of_lt hj, List.getElem?_drop, Array.getElem?_toList]

theorem run_cells_of {a : Addr} {c : Array Value} {t : TypeId} {fz : Nat × Nat} (hs : a.spot = none) (hb : w.heap[a.block]? = some (.cells c t fz)) (n : Nat)
    (h : ∀ j, j < n → ∃ v, c[a.off + j]? = some v) : (loadCells a n).run P w = .ok ((c.toList.drop a.off).take n).toArray w := by
  obtain ⟨hl, hv⟩ := part_list c a.off n h
  have := run_loadCells_list (P := P) w a ((c.toList.drop a.off).take n) (fun j v hj => by
    rw [addr_add _ _ hs, cell_of hb, ← hv j (by rw [← hl]; exact (List.getElem?_eq_some_iff.1 hj).1)]; exact hj)
  rwa [hl] at this

theorem RepD.one {d : D} {v : Value} (h : RepD w σ d v) : v.oneCell' = true := by
  cases h with
  | o v h => exact h
  | _ => rfl

theorem rep_take {a : Addr} {c : Array Value} {cs : List D} {n : Nat}
    (hc : ∀ (j : Nat) (d : D), cs[j]? = some d → ∃ v : Value, c[a.off + j]? = some v ∧ RepD w σ d v) (hn : n ≤ cs.length) :
    RepCs w σ S β ((cs.take n).map .d) ((c.toList.drop a.off).take n) := by
  have hex : ∀ j, j < n → ∃ v, c[a.off + j]? = some v := fun j hj => by
    obtain ⟨v, hv, _⟩ := hc j cs[j] (List.getElem?_eq_getElem (by omega))
    exact ⟨v, hv⟩
  obtain ⟨hl, hv⟩ := part_list c a.off n hex
  refine ⟨by rw [hl]; simp; omega, fun j x hx => ?_⟩
  rw [List.getElem?_map] at hx
  cases hd : (cs.take n)[j]? with
  | none => rw [hd] at hx; cases hx
  | some d =>
    rw [hd] at hx; cases hx
    have hj : j < n := by
      have := (List.getElem?_eq_some_iff.1 hd).1
      simp at this; omega
    rw [List.getElem?_take_of_lt hj] at hd
    obtain ⟨v, hcv, hr⟩ := hc j d hd
    exact ⟨v, by rw [hv j hj]; exact hcv, hr, hr.one⟩

theorem flat_get {α : Type} : ∀ (es : List (List α)) (esz : Nat), (∀ e ∈ es, e.length = esz) → ∀ (i r : Nat) (hi : i < es.length), r < esz → es.flatten[i * esz + r]? = es[i][r]?
  | [], _, _, i, r, hi, _ => by simp at hi
  | e :: es, esz, h, 0, r, _, hr => by
    have he : e.length = esz := h e (by simp)
    simp only [List.flatten_cons, Nat.zero_mul, Nat.zero_add, List.getElem_cons_zero]
    rw [List.getElem?_append_left (by omega)]
  | e :: es, esz, h, i + 1, r, hi, hr => by
    have he : e.length = esz := h e (by simp)
    simp only [List.flatten_cons, List.getElem_cons_succ]
    rw [List.getElem?_append_right (by rw [he, Nat.add_mul]; omega)]
    rw [show (i + 1) * esz + r - e.length = i * esz + r from by rw [he, Nat.add_mul]; omega]
    exact flat_get es esz (fun x hx => h x (by simp [hx])) i r (by simpa using hi) hr

theorem flat_len {α : Type} : ∀ (es : List (List α)) (esz : Nat), (∀ e ∈ es, e.length = esz) → es.flatten.length = es.length * esz
  | [], _, _ => by simp
  | e :: es, esz, h => by
    rw [List.flatten_cons, List.length_append, h e (by simp), flat_len es esz (fun x hx => h x (by simp [hx])), List.length_cons, Nat.add_mul]
    omega

/-- The same, and the world is as it was. -/
def Here (P : Program) (m : Sem Value) (w : World) (σ : Nat → Nat) (S : Store) (β : Hs) (r : R) : Prop := r.1 → ∃ v, m.run P w = .ok v w ∧ RepV w σ S β r.2 v

theorem Here.no {m : Sem Value} : Here P m w σ S β no := fun h => h.elim

theorem Here.does {m : Sem Value} {r : R} (hl : ∀ b, b < w.heap.size ∨ σ b = 0) (h : Here P m w σ S β r) : Does P m w σ S β r := fun hr => let ⟨v, h1, h2⟩ := h hr; ⟨v, w, σ, h1, .refl hl, h2⟩

theorem here_loadD {t : TypeId} {d : TypeDesc} {cs : List D} {a : Addr} {c : Array Value} {ty : TypeId} {fz : Nat × Nat} (ht : P.underlying t = some d)
    (hs : a.spot = none) (hb : w.heap[a.block]? = some (.cells c ty fz)) (hc : ∀ (j : Nat) (d : D), cs[j]? = some d → ∃ v : Value, c[a.off + j]? = some v ∧ RepD w σ d v) :
    Here P (Instr.loadAt t (.pointer (some a))) w σ S β (loadD P t cs) := by
  unfold loadD
  split
  · rename_i hagg
    intro hn
    refine ⟨_, ?_, ⟨_, rfl, by simpa using rep_take hc hn⟩⟩
    simp [Instr.loadAt, Instr.sureAddr, loadVar, run_isAgg' ht, hagg, run_sizeOf_u ht]
    rw [run_cells_of hs hb _ (fun j hj => by
      obtain ⟨v, hv, _⟩ := hc j cs[j] (List.getElem?_eq_getElem (Nat.lt_of_lt_of_le hj hn))
      exact ⟨v, hv⟩)]
    rfl
  · rename_i hagg
    cases cs with
    | nil => exact Here.no
    | cons x cs =>
      intro _
      obtain ⟨v, hv, hr⟩ := hc 0 x rfl
      refine ⟨v, ?_, hr, hr.one⟩
      have hcell : w.cell? a = some v := by
        have : a = ⟨a.block, a.off, none⟩ := by cases a; simp_all
        rw [this, cell_of hb]; exact hv
      have hagg' : aggT P t = false := by simpa using hagg
      simp [Instr.loadAt, Instr.sureAddr, loadVar, run_isAgg' ht, hagg', hcell]

theorem upK_drop {α : Type} (S : List (List α)) (k : Key) (k' : Key) (o : α) (h : getO (S.drop k.1) k' = some o) : getO S (upK k.1 k') = some o := by
  rw [← getO_drop]; exact h

/-- What lies in an outer frame, told from the inner one. -/
theorem RepC.up {c : C} {v : Value} (n : Nat) (h : RepC w σ (S.drop n) (β.drop n) c v) : RepC w σ S β (c.up n) v := by
  cases c with
  | d x => exact h
  | any => exact True.intro
  | fsl es => exact h
  | tsl k es =>
    obtain ⟨h1, o, ho, h2⟩ := h
    rw [getO_drop] at ho
    exact ⟨h1, o, ho, fun esz es' e => by have := h2 esz es' e; rw [getO_drop] at this; exact this⟩
  | ptr k off =>
    obtain ⟨o, ho, h2⟩ := h
    rw [getO_drop] at ho
    exact ⟨o, ho, fun cs e => by have := h2 cs e; simp only [getO_drop] at this; exact this⟩
  | rptr cs => exact h
  | eptr k i off =>
    obtain ⟨o, ho, h2⟩ := h
    rw [getO_drop] at ho
    exact ⟨o, ho, fun esz es e => by have := h2 esz es e; simp only [getO_drop] at this; exact this⟩
  | msl k =>
    obtain ⟨o, ho, h2⟩ := h
    rw [getO_drop] at ho
    exact ⟨o, ho, fun esz es e => by have := h2 esz es e; rw [getO_drop] at this; exact this⟩
  | fn f caps =>
    obtain ⟨vs, hv, hs, h2⟩ := h
    refine ⟨vs, hv, by simpa using hs, fun j k off e => ?_⟩
    rw [List.getElem?_map] at e
    cases hc : caps[j]? with
    | none => rw [hc] at e; cases e
    | some x =>
      rw [hc] at e
      obtain ⟨k0, off0⟩ := x
      cases e
      obtain ⟨u, hu, h1c, o, ho, h3⟩ := h2 j k0 off0 hc
      rw [getO_drop] at ho
      exact ⟨u, hu, h1c, o, ho, fun cs e => by have := h3 cs e; simp only [getO_drop] at this; exact this⟩
  | mp k =>
    obtain ⟨o, ho, h2⟩ := h
    rw [getO_drop] at ho
    exact ⟨o, ho, fun m e => by have := h2 m e; rw [getO_drop] at this; exact this⟩

theorem here_load {t : TypeId} {x : V} {xv : Value} (hS : RepS w σ S β) (hx : RepV w σ S β x xv) : Here P (Instr.loadAt t xv) w σ S β (loadV P S t x) := by
  unfold loadV
  split
  · exact Here.no
  rename_i d ht
  split
  · rename_i cs
    obtain ⟨⟨a, rfl, hp⟩, _⟩ := hx
    obtain ⟨c, ty, fz, hs, hb, hσ, hc⟩ := hp
    exact here_loadD ht hs hb hc
  · rename_i k off
    split
    · rename_i cs hk
      obtain ⟨⟨o, ho, h2⟩, _⟩ := hx
      rw [hk] at ho; cases ho
      obtain ⟨b, hb, rfl⟩ := h2 cs rfl
      obtain ⟨h, hh, hr⟩ := hS.obj k _ hk
      rw [hb] at hh; cases hh
      obtain ⟨b', c, ty, e, hbc, hσ, hl, hc⟩ := hr
      cases e
      have hcell : ∀ (j : Nat) (x : C), cs[j]? = some x → ∃ v : Value, c[j]? = some v ∧ RepC w σ S β (x.up k.1) v ∧ v.oneCell' = true := fun j x hj => by
        obtain ⟨v, hv, hr, ho⟩ := hc j x hj
        rw [Array.getElem?_toList] at hv
        exact ⟨v, hv, hr.up k.1, ho⟩
      split
      · rename_i hagg
        intro hn
        have hn' : off + P.cellsOf t ≤ cs.length := hn
        have hex : ∀ j, j < P.cellsOf t → ∃ v, c[off + j]? = some v := fun j hj => by
          obtain ⟨v, hv, _⟩ := hcell (off + j) cs[off + j] (List.getElem?_eq_getElem (by omega))
          exact ⟨v, hv⟩
        obtain ⟨hpl, hpv⟩ := part_list c off _ hex
        refine ⟨.agg ((c.toList.drop off).take (P.cellsOf t)).toArray, ?_, ⟨_, rfl, ?_, fun j x hx => ?_⟩⟩
        · simp [Instr.loadAt, Instr.sureAddr, loadVar, run_isAgg' ht, hagg, run_sizeOf_u ht]
          rw [run_cells_of (a := ⟨b, off, none⟩) rfl hbc _ hex]
          rfl
        · simp only [hpl]; simp; omega
        · rw [List.getElem?_map] at hx
          cases hd : ((cs.drop off).take (P.cellsOf t))[j]? with
          | none => rw [hd] at hx; cases hx
          | some y =>
            rw [hd] at hx; cases hx
            have hj : j < P.cellsOf t := by
              have := (List.getElem?_eq_some_iff.1 hd).1
              simp at this; omega
            rw [List.getElem?_take_of_lt hj, List.getElem?_drop] at hd
            obtain ⟨v, hv, hr, ho⟩ := hcell _ y hd
            exact ⟨v, by rw [hpv j hj]; exact hv, hr, ho⟩
      · rename_i hagg
        have hagg' : aggT P t = false := by simpa using hagg
        cases hd : cs.drop off with
        | nil => exact Here.no
        | cons y ys =>
          intro _
          have hy : cs[off]? = some y := by
            have : (cs.drop off)[0]? = some y := by rw [hd]; rfl
            simpa [List.getElem?_drop] using this
          obtain ⟨v, hv, hr, ho⟩ := hcell off y hy
          refine ⟨v, ?_, hr, ho⟩
          simp [Instr.loadAt, Instr.sureAddr, loadVar, run_isAgg' ht, hagg', cell_of hbc, hv]
    · exact Here.no
  · rename_i k i off
    split
    · rename_i esz es hk
      obtain ⟨⟨o, ho, h2⟩, _⟩ := hx
      rw [hk] at ho; cases ho
      obtain ⟨b, n, cap, hb, rfl⟩ := h2 esz es rfl
      obtain ⟨h, hh, hr⟩ := hS.obj k _ hk
      rw [hb] at hh; cases hh
      obtain ⟨b', c, ty, cap', e, hcap, hbc, hσ, hlen, hz, hc⟩ := hr
      cases e
      rintro ⟨h1, hi⟩
      have hcell : ∀ (j : Nat) (d : D), ((es.getD i []).drop off)[j]? = some d → ∃ v : Value, c[i * esz + off + j]? = some v ∧ RepD w σ d v := fun j d hj => by
        have hge : es.getD i [] = es[i] := by simp [List.getD, hi]
        rw [hge, List.getElem?_drop] at hj
        have hlt : off + j < esz := by
          have := (List.getElem?_eq_some_iff.1 hj).1
          rw [hlen _ (List.getElem_mem hi)] at this; exact this
        have hfl : es.flatten[i * esz + (off + j)]? = some d := by
          rw [← hj]
          exact flat_get es esz hlen i (off + j) hi hlt
        obtain ⟨v, hv, hr⟩ := hc _ d hfl
        exact ⟨v, by rw [Nat.add_assoc]; exact hv, hr⟩
      exact here_loadD (a := ⟨b, i * esz + off, none⟩) ht rfl hbc hcell h1
    · exact Here.no
  · exact Here.no

theorem does_load {t : TypeId} {x : V} {xv : Value} (hS : RepS w σ S β) (hx : RepV w σ S β x xv) : Does P (Instr.loadAt t xv) w σ S β (loadV P S t x) := (here_load hS hx).does hS.live

end
end Go.Ab
