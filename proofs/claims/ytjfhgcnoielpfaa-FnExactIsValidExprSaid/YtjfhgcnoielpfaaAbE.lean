/-
  ABSTRACT VALUES FOR A WALK, PART 5: more quiet operations: addresses of fields and elements, arithmetic, strings, slices of slices.
-/
import Derived.Test.YtjfhgcnoielpfaaAbD
set_option linter.unusedSimpArgs false
set_option linter.unusedVariables false
namespace Go.Ab

section
variable {P : Program} {w : World} {σ : Nat → Nat} {S : Store} {β : Hs}

theorem cells0 {t : TypeId} (h : P.cellsOf t ≠ 0) : (P.info? t).isSome = true := by
  unfold Program.cellsOf at h
  cases hi : P.info? t with
  | none => rw [hi] at h; exact absurd rfl h
  | some i => rfl

theorem does_fieldAddr {s : TypeId} {x : V} {xv : Value} {f : Nat} (hS : RepS w σ S β) (hx : RepV w σ S β x xv) :
    Does P (Instr.fieldAt s xv f) w σ S β (fieldAddrV P S s x f) := by
  unfold fieldAddrV
  split
  · rename_i fs hs
    split
    · rename_i fd hf
      split
      · exact Does.no
      rename_i hne
      have hf' : fs[f]? = some fd := hf
      have base : ∀ a : Addr, a.spot = none → (Instr.fieldAt s (.pointer (some a)) f).run P w = .ok (.pointer (some ⟨a.block, a.off + fd.offset, none⟩)) w := fun a ha => by
        simp [Instr.fieldAt, run_underlying hs, hf', Instr.sureAddr, fieldPlace, run_sizeOf' (cells0 hne), hne, addr_add _ _ ha]
      split
      · rename_i cs
        obtain ⟨⟨a, rfl, c, ty, fz, ha, hb, hσ, hc⟩, _⟩ := hx
        refine Does.here hS.live fun hle => ⟨base a ha, ⟨_, rfl, c, ty, fz, rfl, hb, ?_, fun j d hj => ?_⟩, rfl⟩
        · have hle' : fd.offset ≤ cs.length := hle
          simp only [List.length_drop]; omega
        · rw [List.getElem?_drop] at hj
          obtain ⟨v, hv, hr⟩ := hc _ d hj
          exact ⟨v, by simp only [Nat.add_assoc]; exact hv, hr⟩
      · rename_i k off
        split
        · rename_i cs hk
          obtain ⟨⟨o, ho, h2⟩, _⟩ := hx
          rw [hk] at ho; cases ho
          obtain ⟨b, hb, rfl⟩ := h2 cs rfl
          exact Does.here hS.live fun _ => ⟨base _ rfl, ⟨_, hk, fun cs' e => ⟨b, hb, rfl⟩⟩, rfl⟩
        · exact Does.no
      · rename_i k i off
        split
        · rename_i esz es hk
          obtain ⟨⟨o, ho, h2⟩, _⟩ := hx
          rw [hk] at ho; cases ho
          obtain ⟨b, n, cap, hb, rfl⟩ := h2 esz es rfl
          exact Does.here hS.live fun _ => ⟨base _ rfl, ⟨_, hk, fun esz' es' e => by cases e; exact ⟨b, n, cap, hb, by rw [Nat.add_assoc]⟩⟩, rfl⟩
        · exact Does.no
      · exact Does.no
    · exact Does.no
  · exact Does.no

theorem rep_part {cs : List C} {a : Array Value} (h : RepCs w σ S β cs a.toList) {t : TypeId} {off : Nat} :
    Does P (part t a off) w σ S β (partV P t cs off) ∨ ¬ (∀ b, b < w.heap.size ∨ σ b = 0) := by
  by_cases hl : ∀ b, b < w.heap.size ∨ σ b = 0
  · left
    unfold partV
    split
    · exact Does.no
    rename_i d ht
    split
    · rename_i hagg
      refine Does.here (v := .agg (a.extract off (off + P.cellsOf t))) hl fun hn => ⟨?_, ⟨_, rfl, ?_, fun j x hx => ?_⟩⟩
      · simp [part, run_isAgg' ht, hagg, run_sizeOf_u ht]
      · have hn' : off + P.cellsOf t ≤ cs.length := hn
        have := h.1
        simp at this
        simp; omega
      · have hn' : off + P.cellsOf t ≤ cs.length := hn
        have hj : j < P.cellsOf t := by
          have := (List.getElem?_eq_some_iff.1 hx).1
          simp at this; omega
        rw [List.getElem?_take_of_lt hj, List.getElem?_drop] at hx
        obtain ⟨v, hv, hr, ho⟩ := h.2 _ x hx
        refine ⟨v, ?_, hr, ho⟩
        have hlt : off + j < a.size := by
          have := (List.getElem?_eq_some_iff.1 hv).1
          simpa using this
        rw [Array.getElem?_toList] at hv ⊢
        rw [Array.getElem?_extract_of_lt (by omega), ← hv, Array.getElem?_eq_getElem hlt]
    · rename_i hagg
      have hagg' : aggT P t = false := by simpa using hagg
      cases hd : cs.drop off with
      | nil => exact Does.no
      | cons y ys =>
        have hy : cs[off]? = some y := by
          have : (cs.drop off)[0]? = some y := by rw [hd]; rfl
          simpa [List.getElem?_drop] using this
        obtain ⟨v, hv, hr, ho⟩ := h.2 off y hy
        rw [Array.getElem?_toList] at hv
        exact Does.here hl fun _ => ⟨by simp [part, run_isAgg' ht, hagg', hv], hr, ho⟩
  · exact .inr hl

theorem does_part {cs : List C} {a : Array Value} (hS : RepS w σ S β) (h : RepCs w σ S β cs a.toList) {t : TypeId} {off : Nat} :
    Does P (part t a off) w σ S β (partV P t cs off) := (rep_part h).resolve_right (fun n => n hS.live)

theorem does_field {t : TypeId} {x : V} {xv : Value} {f : Nat} (hS : RepS w σ S β) (hx : RepV w σ S β x xv) : Does P (Instr.field t xv f) w σ S β (fieldV P t x f) := by
  unfold fieldV
  split
  · rename_i fs cs hs
    split
    · rename_i fd hf
      have hf' : fs[f]? = some fd := hf
      obtain ⟨a, rfl, hc⟩ := hx
      intro hn
      obtain ⟨v, w', σ', hrun, hg, hr⟩ := does_part (P := P) (t := fd.type) (off := fd.offset) hS hc hn
      exact ⟨v, w', σ', by simp [Instr.field, run_underlying hs, hf', asAgg, hrun], hg, hr⟩
    · exact Does.no
  · exact Does.no

theorem rep_sliceC {x : C} {es : List (List D)} {v : Value} (h : sliceC x = some es) (hx : RepC w σ S β x v) : RepD w σ (.sl es) v := by
  cases x <;> simp only [sliceC] at h <;> first | (cases h; done) | skip
  · rename_i d
    cases d <;> simp at h
    subst h; exact hx
  · cases h; exact hx.1
  · cases h; exact hx.1

theorem does_indexAddr {t : TypeId} {x i : V} {xv iv : Value} (hS : RepS w σ S β) (hx : RepV w σ S β x xv) (hi : RepV w σ S β i iv) :
    Does P (Instr.indexAt t xv iv) w σ S β (indexAddrV P S t x i) := by
  unfold indexAddrV
  split
  · rename_i e k n' n ht
    split
    · rename_i esz es hk
      obtain ⟨hi1, _⟩ := hi
      cases hi1
      obtain ⟨⟨o, ho, h2⟩, _⟩ := hx
      rw [hk] at ho; cases ho
      have hh := h2 esz es rfl
      obtain ⟨h, hh', hr⟩ := hS.obj k _ hk
      rw [hh] at hh'; cases hh'
      obtain ⟨b, c, ty, cap, rfl, hcap, hbc, hσ, hlen, hz, hc⟩ := hr
      refine Does.here (v := .pointer (some ⟨b, n.toNat * P.cellsOf e, none⟩)) hS.live ?_
      rintro ⟨h1, h3, h4, h5⟩
      refine ⟨?_, ⟨_, hk, fun esz' es' e' => ?_⟩, rfl⟩
      · have hlt : n < (es.length : Int) := by omega
        simp only [Instr.indexAt, asIntOf, Sem.run_bind, Sem.run_pure, Result.andThen_ok, run_underlying ht]
        simp [h1, hlt, run_sizeOf' h5, addr_add]
      · cases e'
        exact ⟨b, _, _, hh, by rw [h4]; simp⟩
    · exact Does.no
  · rename_i len e k off n' n ht
    split
    · rename_i cs hk
      obtain ⟨hi1, _⟩ := hi
      cases hi1
      obtain ⟨⟨o, ho, h2⟩, _⟩ := hx
      rw [hk] at ho; cases ho
      obtain ⟨b, hb, rfl⟩ := h2 cs rfl
      refine Does.here (v := .pointer (some ⟨b, off + n.toNat * P.cellsOf e, none⟩)) hS.live ?_
      rintro ⟨h1, h3, h5⟩
      refine ⟨?_, ⟨_, hk, fun cs' e' => ⟨b, hb, rfl⟩⟩, rfl⟩
      have hlt : n < (len : Int) := by omega
      simp only [Instr.indexAt, asIntOf, Sem.run_bind, Sem.run_pure, Result.andThen_ok, run_underlying ht]
      simp [h1, hlt, run_sizeOf' h5, addr_add, Instr.sureAddr]
    · exact Does.no
  · rename_i e x n' n _ ht
    split
    · rename_i es hes
      obtain ⟨hi1, _⟩ := hi
      cases hi1
      have hd := rep_sliceC hes hx.1
      cases hd with
      | nil a cap => exact fun h => absurd h.2.1 (by simp)
      | sl b off cap esz es vals c ty fz hcap hlen hb hσ hc hv =>
        refine Does.here (v := .pointer (some ⟨b, off + n.toNat * P.cellsOf e, none⟩)) hS.live ?_
        rintro ⟨h1, h3, h4, h5⟩
        have hge : es.getD n.toNat [] = es[n.toNat] := by simp [List.getD, h3]
        have hesz : esz = P.cellsOf e := by rw [← h4, hge, hlen _ (List.getElem_mem h3)]
        refine ⟨?_, ⟨_, rfl, c, ty, fz, rfl, hb, ?_, fun j d hj => ?_⟩, rfl⟩
        · have hlt : n < (es.length : Int) := by omega
          simp only [Instr.indexAt, asIntOf, Sem.run_bind, Sem.run_pure, Result.andThen_ok, run_underlying ht]
          simp [h1, hlt, run_sizeOf' h5, addr_add]
        · have : (n.toNat + 1) * esz ≤ es.length * esz := Nat.mul_le_mul_right _ h3
          rw [Nat.add_mul, Nat.one_mul] at this
          simp only
          rw [h4, ← hesz]; omega
        · rw [hge] at hj
          have hj' : j < esz := by
            have := (List.getElem?_eq_some_iff.1 hj).1
            rwa [hlen _ (List.getElem_mem h3)] at this
          have hfl := flat_get es esz hlen n.toNat j h3 hj'
          rw [hj] at hfl
          have hlt : n.toNat * esz + j < es.length * esz := by
            have : (n.toNat + 1) * esz ≤ es.length * esz := Nat.mul_le_mul_right _ h3
            rw [Nat.add_mul, Nat.one_mul] at this; omega
          refine ⟨vals (n.toNat * esz + j), ?_, hv _ d hfl⟩
          have := hc _ hlt
          rw [hesz] at this ⊢
          rw [← Nat.add_assoc] at this
          exact this
    · exact Does.no
  · exact Does.no

theorem does_index {t : TypeId} {x i : V} {xv iv : Value} (hS : RepS w σ S β) (hx : RepV w σ S β x xv) (hi : RepV w σ S β i iv) :
    Does P (Instr.index t xv iv) w σ S β (indexV P t x i) := by
  unfold indexV
  split
  · rename_i l k n ht
    obtain ⟨hi1, _⟩ := hi
    cases hi1
    obtain ⟨hx1, _⟩ := hx
    cases hx1
    refine Does.here (v := .int .u8 ((l.getD n.toNat 0).toNat)) hS.live ?_
    rintro ⟨h1, h2⟩
    refine ⟨?_, .i _ _, rfl⟩
    have hg : (⟨l.toArray⟩ : ByteArray)[n.toNat]? = some (l.getD n.toNat 0) := by
      have hs : n.toNat < (⟨l.toArray⟩ : ByteArray).size := by simpa [ByteArray.size] using h2
      rw [getElem?_pos (⟨l.toArray⟩ : ByteArray) n.toNat hs]
      simp only [ByteArray.getElem_eq_getElem_data, List.getElem_toArray, List.getD, List.getElem?_eq_getElem h2, Option.getD_some]
    simp only [Instr.index, asIntOf, Sem.run_bind, Sem.run_pure, Result.andThen_ok, run_underlying ht, h1, if_true, hg]
  · rename_i len e cs k n ht
    obtain ⟨hi1, _⟩ := hi
    cases hi1
    obtain ⟨a, rfl, hc⟩ := hx
    rintro ⟨h0, h1, h2⟩
    obtain ⟨v, w', σ', hrun, hg, hr⟩ := does_part (P := P) (t := e) (off := n.toNat * P.cellsOf e) hS hc h0
    refine ⟨v, w', σ', ?_, hg, hr⟩
    have hlt : n < (len : Int) := by omega
    have hinfo : (P.info? e).isSome = true := by
      unfold partV at h0
      split at h0
      · exact h0.elim
      · rename_i d hd; exact info_of_underlying hd
    simp only [Instr.index, asIntOf, Sem.run_bind, Sem.run_pure, Result.andThen_ok, run_underlying ht, h1, hlt, and_self, if_true, run_sizeOf' hinfo, hrun]
  · exact Does.no

end
end Go.Ab
