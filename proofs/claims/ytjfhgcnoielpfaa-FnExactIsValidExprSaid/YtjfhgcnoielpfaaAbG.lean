/-
  ABSTRACT VALUES FOR A WALK, PART 7: composite literals; and the whole of the quiet operations in one theorem.
-/
import Derived.Test.YtjfhgcnoielpfaaAbF
set_option linter.unusedSimpArgs false
set_option linter.unusedVariables false
namespace Go.Ab

section
variable {P : Program} {w : World} {σ : Nat → Nat} {S : Store} {β : Hs}

theorem rep_cellsV {x : V} {v : Value} {xs : List C} (h : cellsV x = some xs) (hx : RepV w σ S β x v) : RepCs w σ S β xs v.cells.toList := by
  cases x with
  | c x =>
    cases h
    obtain ⟨h1, h2⟩ := hx
    have : v.cells = #[v] := by cases v <;> first | rfl | (simp [Value.oneCell'] at h2)
    rw [this]
    refine ⟨rfl, fun j y hy => ?_⟩
    cases j with
    | zero => simp at hy; subst hy; exact ⟨v, rfl, h1, h2⟩
    | succ j => simp at hy
  | agg cs =>
    cases h
    obtain ⟨a, rfl, hc⟩ := hx
    exact hc
  | tup => cases h
  | any => cases h

theorem foldl_set (off : Nat) : ∀ (vs : List Value) (k : Nat) (arr : Array Value), off + k + vs.length ≤ arr.size →
    ((vs.zipIdx k).foldl (fun (cs : Array Value) (x : Value × Nat) => cs.setIfInBounds (off + x.2) x.1) arr).toList = arr.toList.take (off + k) ++ vs ++ arr.toList.drop (off + k + vs.length)
  | [], k, arr, _ => by simp
  | v :: vs, k, arr, h => by
    have hl : off + k < arr.size := by simp at h; omega
    rw [List.zipIdx_cons, List.foldl_cons, foldl_set off vs (k + 1) _ (by simp at h ⊢; omega)]
    simp only [Array.toList_setIfInBounds, List.length_cons]
    have e1 : (arr.toList.set (off + k) v).take (off + (k + 1)) = arr.toList.take (off + k) ++ [v] := by
      rw [← Nat.add_assoc, List.take_succ_eq_append_getElem (by simpa using hl)]
      rw [List.take_set_of_le (by omega)]
      simp
    have e2 : (arr.toList.set (off + k) v).drop (off + (k + 1) + vs.length) = arr.toList.drop (off + k + (vs.length + 1)) := by
      rw [List.drop_set_of_lt (by omega)]
      congr 1; omega
    rw [e1, e2]
    simp

theorem fill_step (v : Value) (off : Nat) (cells : Array Value) (h : off + v.cells.size ≤ cells.size) :
    (v.cells.zipIdx.foldl (fun cs (c, j) => cs.setIfInBounds (off + j) c) cells).toList = cells.toList.take off ++ v.cells.toList ++ cells.toList.drop (off + v.cells.size) := by
  have := foldl_set off v.cells.toList 0 cells (by simpa using h)
  rw [← Array.foldl_toList, Array.toList_zipIdx]
  simpa using this

theorem rep_splice {cells xs : List C} {cv xv : List Value} {off : Nat} (hc : RepCs w σ S β cells cv) (hx : RepCs w σ S β xs xv) (hl : off + xs.length ≤ cells.length) :
    RepCs w σ S β (splice cells off xs) (cv.take off ++ xv ++ cv.drop (off + xv.length)) := by
  have l1 := hc.1
  have l2 := hx.1
  refine ⟨by simp [splice]; omega, fun j y hy => ?_⟩
  unfold splice at hy
  by_cases h1 : j < off
  · rw [List.append_assoc, List.getElem?_append_left (by simp; omega), List.getElem?_take_of_lt h1] at hy
    obtain ⟨v, hv, r⟩ := hc.2 j y hy
    exact ⟨v, by rw [List.append_assoc, List.getElem?_append_left (by simp; omega), List.getElem?_take_of_lt h1]; exact hv, r⟩
  · by_cases h2 : j < off + xs.length
    · rw [List.getElem?_append_left (by simp; omega), List.getElem?_append_right (by simp; omega)] at hy
      have e : (cells.take off).length = off := by simp; omega
      rw [e] at hy
      obtain ⟨v, hv, r⟩ := hx.2 _ y hy
      refine ⟨v, ?_, r⟩
      rw [List.getElem?_append_left (by simp; omega), List.getElem?_append_right (by simp; omega)]
      have e' : (cv.take off).length = off := by simp; omega
      rw [e']; exact hv
    · rw [List.getElem?_append_right (by simp; omega), List.getElem?_drop] at hy
      obtain ⟨v, hv, r⟩ := hc.2 _ y hy
      refine ⟨v, ?_, r⟩
      rw [List.getElem?_append_right (by simp; omega), List.getElem?_drop]
      rw [← hv]
      congr 1
      simp
      omega

theorem rep_fill (place : Nat → Option (Nat × Nat)) : ∀ (parts : List (Nat × V)) (pv : List (Nat × Value)) (cells cs : List C) (ca : Array Value), fillC place cells parts = some cs → RepCs w σ S β cells ca.toList →
    parts.length = pv.length → (∀ (j : Nat) (x : Nat × V), parts[j]? = some x → ∃ v, pv[j]? = some (x.1, v) ∧ RepV w σ S β x.2 v) → ∃ ca', Instr.fill place ca pv = some ca' ∧ RepCs w σ S β cs ca'.toList
  | [], [], cells, cs, ca, h, hc, _, _ => by
    simp only [fillC] at h; cases h
    exact ⟨ca, rfl, hc⟩
  | [], _ :: _, _, _, _, _, _, h, _ => by simp at h
  | _ :: _, [], _, _, _, _, _, h, _ => by simp at h
  | (i, x) :: parts, (i', v) :: pv, cells, cs, ca, h, hc, hl, hp => by
    obtain ⟨v', hv, hr⟩ := hp 0 (i, x) rfl
    simp at hv
    obtain ⟨rfl, rfl⟩ := hv
    simp only [fillC] at h
    split at h
    · rename_i off size xs hpl hcx
      split at h
      · rename_i hcond
        obtain ⟨h1, h2⟩ := hcond
        have hx := rep_cellsV hcx hr
        have lx := hx.1
        have lc := hc.1
        simp at lx lc
        have hs := rep_splice (off := off) hc hx (by omega)
        have hsz : v.cells.size = size := by omega
        have hst := fill_step v off ca (by omega)
        simp only [Array.length_toList] at hs
        rw [← hst] at hs
        obtain ⟨ca', hf, hcs⟩ := rep_fill place parts pv _ cs _ h hs (by simpa using hl) (fun j x hx => hp (j + 1) x hx)
        refine ⟨ca', ?_, hcs⟩
        rw [Instr.fill, hpl]
        have hcc : (v.cells.size ≠ size || off + v.cells.size > ca.size) = false := by simp; omega
        simp only [hcc, Bool.false_eq_true, if_false]
        exact hf
      · cases h
    · cases h

theorem run_mapM_list {α : Type} (f : α → Sem (Nat × Nat)) (g : α → Nat × Nat) : ∀ (l : List α), (∀ x ∈ l, (f x).run P w = .ok (g x) w) → (l.mapM f).run P w = .ok (l.map g) w
  | [], _ => by simp
  | x :: l, h => by
    rw [List.mapM_cons]
    simp [h x (by simp), run_mapM_list f g l (fun y hy => h y (by simp [hy]))]

theorem run_zero {t : TypeId} {zs : List C} (h : zeroCs P t = some zs) : ∃ z, (zeroValue t).run P w = .ok z w ∧ RepCs w σ S β zs z.cells.toList := by
  unfold zeroCs at h
  cases hi : P.info? t with
  | none => rw [hi] at h; cases h
  | some i =>
    rw [hi] at h
    cases hz : i.zero with
    | none => simp [hz] at h
    | some z =>
      simp only [Option.bind_some, hz] at h
      split at h
      · rename_i hall
        cases h
        refine ⟨z, by simp [zeroValue, typeInfo, hi, hz], by simp, fun j x hx => ?_⟩
        rw [List.getElem?_map] at hx
        cases hv : z.cells.toList[j]? with
        | none => rw [hv] at hx; cases hx
        | some v =>
          rw [hv] at hx; cases hx
          exact ⟨v, rfl, rep_constC _ _ _ _ _, List.all_eq_true.1 hall v (List.mem_of_getElem? hv)⟩
      · cases h

theorem does_build {t : TypeId} {parts : List (Nat × V)} {pv : List (Nat × Value)} (hS : RepS w σ S β) (hl : parts.length = pv.length)
    (hp : ∀ (j : Nat) (x : Nat × V), parts[j]? = some x → ∃ v, pv[j]? = some (x.1, v) ∧ RepV w σ S β x.2 v) : Does P (Instr.build t pv.toArray) w σ S β (buildV P t parts) := by
  unfold buildV
  split
  · rename_i fs zs ht hz
    split
    · rename_i cs hf
      intro hinfo0
      have hinfo : ∀ f ∈ fs.toList, (P.info? f.type).isSome = true := fun f hf => by simpa using List.all_eq_true.1 hinfo0 f hf
      obtain ⟨z, hzr, hzc⟩ := run_zero (w := w) (σ := σ) (S := S) (β := β) hz
      obtain ⟨ca, hfill, hcs⟩ := rep_fill _ parts pv zs cs z.cells hf hzc hl hp
      refine ⟨.agg ca, w, σ, ?_, .refl hS.live, ca, rfl, hcs⟩
      have hm : (fs.mapM fun (f : Field) => do pure (f.offset, ← sizeOf f.type)).run P w = .ok (fs.map fun (f : Field) => (f.offset, P.cellsOf f.type)) w := by
        have h1 := run_mapM_list (P := P) (w := w) (fun f : Field => do pure (f.offset, ← sizeOf f.type)) (fun f => (f.offset, P.cellsOf f.type)) fs.toList
          (fun f hf => by simp [run_sizeOf' (hinfo f hf)])
        have h2 : fs = fs.toList.toArray := by simp
        rw [h2, List.mapM_toArray]
        simp only [Sem.run_map, h1, Result.andThen_ok, List.map_toArray]
      simp only [Instr.build, Sem.run_bind, hzr, Result.andThen_ok, run_underlying ht, hm]
      have hpl : (fun (i : Nat) => (fs.map fun (f : Field) => (f.offset, P.cellsOf f.type))[i]?) = fun (i : Nat) => (fs[i]?).map fun (f : Field) => (f.offset, P.cellsOf f.type) := by
        funext i; simp
      have : Instr.fill (fun i => (fs.map fun (f : Field) => (f.offset, P.cellsOf f.type))[i]?) z.cells pv.toArray.toList = some ca := by rw [hpl]; exact hfill
      simp only [this]
      rfl
    · exact Does.no
  · rename_i len e zs ht hz
    split
    · rename_i cs hf
      intro hinfo
      obtain ⟨z, hzr, hzc⟩ := run_zero (w := w) (σ := σ) (S := S) (β := β) hz
      obtain ⟨ca, hfill, hcs⟩ := rep_fill _ parts pv zs cs z.cells hf hzc hl hp
      refine ⟨.agg ca, w, σ, ?_, .refl hS.live, ca, rfl, hcs⟩
      have hfill' : Instr.fill (fun i => some (i * P.cellsOf e, P.cellsOf e)) z.cells pv.toArray.toList = some ca := hfill
      simp only [Instr.build, Sem.run_bind, hzr, Result.andThen_ok, run_underlying ht, run_sizeOf' hinfo, hfill']
      rfl
    · exact Does.no
  · exact Does.no

theorem rep_toD {xs : List C} {ds : List D} {vs : List Value} (h : xs.mapM toD = some ds) (hx : RepCs w σ S β xs vs) : ds.length = vs.length ∧ ∀ (j : Nat) (d : D), ds[j]? = some d → ∃ v, vs[j]? = some v ∧ RepD w σ d v := by
  induction xs generalizing ds vs with
  | nil => simp at h; subst h; exact ⟨hx.1, fun j d hd => by simp at hd⟩
  | cons x xs ih =>
    rw [List.mapM_cons] at h
    cases hd : toD x with
    | none => rw [hd] at h; simp at h
    | some d =>
      cases hm : xs.mapM toD with
      | none => rw [hd, hm] at h; simp at h
      | some ds' =>
        rw [hd, hm] at h
        simp at h
        subst h
        cases vs with
        | nil => have := hx.1; simp at this
        | cons v vs =>
          have hx' : RepCs w σ S β xs vs := ⟨by have := hx.1; simpa using this, fun j y hy => hx.2 (j + 1) y hy⟩
          obtain ⟨l, r⟩ := ih hm hx'
          refine ⟨by simp [l], fun j e he => ?_⟩
          cases j with
          | zero =>
            simp at he; subst he
            obtain ⟨u, hu, hr, _⟩ := hx.2 0 x rfl
            simp at hu; subst hu
            refine ⟨v, rfl, ?_⟩
            cases x <;> simp only [toD] at hd <;> cases hd
            · exact hr
            · exact hr.1
            · exact hr.1
          | succ j => exact r j e he

theorem rep_elems (size : Nat) : ∀ (parts : List (Nat × V)) (k : Nat) (es : List (List D)) (pv : List (Nat × Value)) (ca : Array Value), elemsOf size parts k = some es → parts.length = pv.length →
    (∀ (j : Nat) (x : Nat × V), parts[j]? = some x → ∃ v, pv[j]? = some (x.1, v) ∧ RepV w σ S β x.2 v) → (k + es.length) * size ≤ ca.size →
    ∃ ca', Instr.fill (fun i => some (i * size, size)) ca pv = some ca' ∧ ca'.size = ca.size ∧ (∀ e ∈ es, e.length = size) ∧
      (∀ j, j < k * size → ca'[j]? = ca[j]?) ∧ ∀ (j : Nat) (d : D), es.flatten[j]? = some d → ∃ v, ca'[k * size + j]? = some v ∧ RepD w σ d v
  | [], k, es, pv, ca, h, hl, _, _ => by
    simp only [elemsOf] at h; cases h
    cases pv with
    | cons => simp at hl
    | nil => exact ⟨ca, rfl, rfl, by simp, fun _ _ => rfl, fun j d hd => by simp at hd⟩
  | (i, x) :: parts, k, es, [], ca, h, hl, _, _ => by simp at hl
  | (i, x) :: parts, k, es, (i', v) :: pv, ca, h, hl, hp, hsz => by
    obtain ⟨v', hv, hr⟩ := hp 0 (i, x) rfl
    simp at hv
    obtain ⟨rfl, rfl⟩ := hv
    simp only [elemsOf] at h
    split at h
    · rename_i hik
      subst hik
      split at h
      · rename_i ds es' hds hes
        split at h
        · rename_i hlen
          cases h
          cases hcx : cellsV x with
          | none => rw [hcx] at hds; cases hds
          | some xs =>
            rw [hcx] at hds
            have hx := rep_cellsV hcx hr
            obtain ⟨l1, hD⟩ := rep_toD hds hx
            simp at l1
            have hsv : v.cells.size = size := by omega
            have hexp : (i' + (es'.length + 1)) * size = i' * size + es'.length * size + size := by
              rw [Nat.add_mul, Nat.add_mul]; omega
            simp only [List.length_cons] at hsz
            have hst := fill_step v (i' * size) ca (by omega)
            generalize hca1 : v.cells.zipIdx.foldl (fun cs (c, j) => cs.setIfInBounds (i' * size + j) c) ca = ca1 at hst
            have hs1 : ca1.size = ca.size := by
              have := congrArg List.length hst
              simp at this; omega
            obtain ⟨ca', hf, hs', hle, hlow, hrep⟩ := rep_elems size parts (i' + 1) es' pv ca1 hes (by simpa using hl) (fun j x hx => hp (j + 1) x hx) (by rw [hs1]; rw [Nat.add_assoc, Nat.add_comm 1]; exact hsz)
            have hm1 : (i' + 1) * size = i' * size + size := by rw [Nat.add_mul, Nat.one_mul]
            refine ⟨ca', ?_, hs'.trans hs1, ?_, ?_, ?_⟩
            · rw [Instr.fill]
              have hcc : (v.cells.size ≠ size || i' * size + v.cells.size > ca.size) = false := by simp; omega
              simp only [hcc, Bool.false_eq_true, if_false]
              rw [← hf, ← hca1]
            · intro e he
              rcases List.mem_cons.1 he with rfl | he
              · exact hlen
              · exact hle e he
            · intro j hj
              rw [hlow j (by omega), ← Array.getElem?_toList, hst, List.append_assoc, List.getElem?_append_left (by simp; omega), List.getElem?_take_of_lt hj, Array.getElem?_toList]
            · intro j d hd
              rw [List.flatten_cons] at hd
              by_cases hj : j < size
              · rw [List.getElem?_append_left (by omega)] at hd
                obtain ⟨u, hu, hru⟩ := hD j d hd
                refine ⟨u, ?_, hru⟩
                rw [hlow _ (by omega), ← Array.getElem?_toList, hst, List.getElem?_append_left (by simp; omega), List.getElem?_append_right (by simp; omega)]
                rw [← hu]; congr 1; simp; omega
              · rw [List.getElem?_append_right (by omega)] at hd
                obtain ⟨u, hu, hru⟩ := hrep _ d hd
                refine ⟨u, ?_, hru⟩
                rw [← hu]; congr 1; omega
        · cases h
      · cases h
    · cases h

theorem does_buildSlice {t : TypeId} {n : Nat} {parts : List (Nat × V)} {pv : List (Nat × Value)} (hS : RepS w σ S β) (hl : parts.length = pv.length)
    (hp : ∀ (j : Nat) (x : Nat × V), parts[j]? = some x → ∃ v, pv[j]? = some (x.1, v) ∧ RepV w σ S β x.2 v) : Does P (Instr.buildSlice t n pv.toArray) w σ S β (buildSliceV P t n parts) := by
  unfold buildSliceV
  split
  · rename_i e ht
    split
    · rename_i es hes
      rintro ⟨h1, h2, h3⟩
      obtain ⟨zs, hzs⟩ := Option.isSome_iff_exists.1 h3
      obtain ⟨z, hzr, hzc⟩ := run_zero (w := w) (σ := σ) (S := S) (β := β) hzs
      have hinfo : (P.info? e).isSome = true := by
        unfold zeroCs at hzs
        cases hi : P.info? e with
        | none => rw [hi] at hzs; cases hzs
        | some i => rfl
      let zero : Array Value := if n * P.cellsOf e = 0 then #[] else z.cells
      let ca : Array Value := (Array.range (n * P.cellsOf e)).map (zero[· % zero.size]!)
      have hcas : ca.size = n * P.cellsOf e := by simp [ca]
      obtain ⟨ca', hf, hs', hle, hlow, hrep⟩ := rep_elems (w := w) (σ := σ) (S := S) (β := β) (P.cellsOf e) parts 0 es pv ca hes hl hp (by rw [hcas, h1]; simp)
      let w' : World := { w with heap := w.heap.push (.cells ca' e) }
      let σ' : Nat → Nat := fun b => if b = w.heap.size then n * P.cellsOf e else σ b
      have hg : Grow w σ w' σ' := by
        refine ⟨by simp [w'], rfl, rfl, fun b hb => ?_, fun b => ?_⟩
        · have : b ≠ w.heap.size := by omega
          simp only [w', σ']
          refine ⟨?_, if_neg this⟩
          rw [Array.getElem?_push, if_neg this]
        · simp only [w', σ', Array.size_push]
          by_cases hb : b = w.heap.size
          · left; omega
          · rw [if_neg hb]
            exact (hS.live b).imp (fun h => by omega) id
      refine ⟨.slice (some ⟨w.heap.size, 0, none⟩) n n, w', σ', ?_, hg, ⟨?_, _, _, rfl⟩, rfl⟩
      · have h2' : ¬ (n * P.cellsOf e > 2 ^ 24) := by omega
        have hf' : Instr.fill (fun i => some (i * P.cellsOf e, P.cellsOf e)) ((Array.range (n * P.cellsOf e)).map fun x => zero[x % zero.size]!) pv = some ca' := hf
        simp only [Instr.buildSlice, Sem.run_bind, run_underlying ht, Result.andThen_ok, run_sizeOf' hinfo, if_neg h2']
        by_cases h0 : n * P.cellsOf e = 0
        · have hz : zero = #[] := if_pos h0
          rw [hz] at hf'
          simp only [if_pos h0, Sem.run_bind, Sem.run_pure, Result.andThen_ok, hf']
          rfl
        · have hz : zero = z.cells := if_neg h0
          rw [hz] at hf'
          simp only [if_neg h0, Sem.run_bind, hzr, Sem.run_pure, Result.andThen_ok, hf']
          rfl
      · show RepD w' σ' (.sl es) _
        have hb' : w'.heap[w.heap.size]? = some (.cells ca' e (0, 0)) := by simp [w']
        rw [← h1]
        cases hes0 : es with
        | nil => exact .nil _ _
        | cons y ys =>
          rw [← hes0]
          refine .sl w.heap.size 0 es.length (P.cellsOf e) es (fun j => ca'.getD j undef) ca' e (0, 0) (Nat.le_refl _) hle hb' ?_ ?_ ?_
          · simp [σ', h1]
          · intro j hj
            have : j < ca'.size := by rw [hs', hcas, ← h1]; exact hj
            simp [Array.getD, this]
          · intro j d hd
            obtain ⟨v, hv, hr⟩ := hrep j d hd
            simp at hv
            have hlt := (Array.getElem?_eq_some_iff.1 hv)
            have : ca'.getD j undef = v := by
              obtain ⟨hlt, e⟩ := hlt
              simp [Array.getD, hlt, e]
            rw [this]
            exact hr.mono hg.near
    · exact Does.no
  · exact Does.no

end
end Go.Ab
