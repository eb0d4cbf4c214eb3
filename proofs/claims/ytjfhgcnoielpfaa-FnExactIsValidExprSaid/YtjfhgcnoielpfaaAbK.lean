/-
  ABSTRACT VALUES FOR A WALK, PART 11: append to a slice of the call's own.
-/
import Derived.Test.YtjfhgcnoielpfaaAbJ
set_option linter.unusedSimpArgs false
set_option linter.unusedVariables false
namespace Go.Ab

section
variable {P : Program} {w w' : World} {σ σ' : Nat → Nat} {S : Store} {β : Hs}

theorem growBy_le (newLen : Nat) : ∀ (r c : Nat), c ≤ 2 * newLen + 512 → Builtin.growBy newLen r c ≤ 2 * newLen + 512
  | 0, c, h => h
  | r + 1, c, h => by
    unfold Builtin.growBy
    split
    · exact h
    · exact growBy_le newLen r _ (by omega)

theorem nextcap_le (newLen oldCap : Nat) (h : oldCap < newLen) : Builtin.nextslicecap newLen oldCap ≤ 2 * newLen + 512 := by
  unfold Builtin.nextslicecap
  split
  · omega
  · split
    · omega
    · exact growBy_le _ _ _ (by omega)

/-- The cells that are appended. -/
def Src (P : Program) (w : World) (σ : Nat → Nat) (size : Nat) (ys : List (List D)) (v : Value) : Prop :=
  (Builtin.lenOf v).run P w = .ok ys.length w ∧ (∀ y ∈ ys, y.length = size) ∧
  ∃ a : Array Value, (Builtin.firstCells size ys.length v).run P w = .ok a w ∧ a.size = ys.length * size ∧ ∀ (j : Nat) (d : D), ys.flatten[j]? = some d → ∃ v, a[j]? = some v ∧ RepD w σ d v

theorem src_slice {ys : List (List D)} {v : Value} {size : Nat} (h : RepD w σ (.sl ys) v) (hsz : ∀ y ∈ ys, y.length = size) : Src P w σ size ys v := by
  cases h with
  | nil a cap =>
    refine ⟨rfl, hsz, #[], ?_, by simp, fun j d hj => by simp at hj⟩
    cases a with
    | none => rfl
    | some a => simp [Builtin.firstCells, loadCells, loadCellsFrom]
  | sl b off cap esz es vals c t fz hcap hlen hb hσ hc hv =>
    by_cases hne : ys = []
    · subst hne
      exact ⟨rfl, hsz, #[], by simp [Builtin.firstCells, loadCells, loadCellsFrom], by simp, fun j d hj => by simp at hj⟩
    have he : esz = size := by
      cases ys with
      | nil => exact absurd rfl hne
      | cons y ys => rw [← hlen y (by simp), hsz y (by simp)]
    subst he
    obtain ⟨hl, hv'⟩ := part_list c off (ys.length * esz) (fun j hj => ⟨_, hc j hj⟩)
    refine ⟨rfl, hsz, _, run_cells_of (a := ⟨b, off, none⟩) rfl hb _ (fun j hj => ⟨_, hc j hj⟩), by simpa using hl, fun j d hj => ?_⟩
    have hjl : j < ys.length * esz := by
      have := (List.getElem?_eq_some_iff.1 hj).1
      rwa [flat_len ys esz hlen] at this
    refine ⟨vals j, ?_, hv j d hj⟩
    rw [List.getElem?_toArray, hv' j hjl]
    exact hc j hjl

theorem src_string (l : List UInt8) : Src P w σ 1 (l.map fun b => [D.i .u8 b.toNat]) (.string ⟨l.toArray⟩) := by
  have hsz : (⟨l.toArray⟩ : ByteArray).size = l.length := List.size_toArray
  refine ⟨by simp [Builtin.lenOf, hsz], by simp, (l.toArray.map fun b => Value.int .u8 b.toNat), ?_, by simp, fun j d hj => ?_⟩
  · simp only [Builtin.firstCells, List.length_map, Sem.run_pure]
    congr 2
    rw [ByteArray.data_extract]
    simp
  · have hf : (l.map fun b => [D.i .u8 b.toNat]).flatten = l.map fun b => D.i .u8 b.toNat := by
      clear hj hsz
      induction l with
      | nil => rfl
      | cons a l ih => rw [List.map_cons, List.flatten_cons, ih]; rfl
    rw [hf, List.getElem?_map] at hj
    cases hl : l[j]? with
    | none => rw [hl] at hj; cases hj
    | some b =>
      rw [hl] at hj; cases hj
      exact ⟨.int .u8 b.toNat, by simp [hl], .i _ _⟩

theorem tok_cells {size : Nat} {es : List (List D)} {base : Option Addr} {len cap : Nat} (h : RepObj w σ S β (.tok size es) (.slice base len cap)) :
    len = es.length ∧ es.length ≤ cap ∧ (∀ e ∈ es, e.length = size) ∧ ∃ a : Array Value, (Builtin.firstCells size es.length (.slice base es.length cap)).run P w = .ok a w ∧ a.size = es.length * size ∧
      ∀ (j : Nat) (d : D), es.flatten[j]? = some d → ∃ v, a[j]? = some v ∧ RepD w σ d v := by
  obtain ⟨h1, h2, a, cap', e, h3, _⟩ := h
  cases e
  obtain ⟨_, _, x⟩ := src_slice (P := P) h1 h2
  exact ⟨rfl, h3, h2, x⟩

/-- The second argument's type: a slice or a string. -/
def apT (P : Program) (u : TypeId) : Prop := (∃ e, P.underlying u = some (.slice e)) ∨ P.underlying u = some .string

theorem run_app_same {t u ty e : TypeId} {base : Option Addr} {sLen sCap : Nat} {yv : Value} {i : TypeInfo} (ht : P.underlying t = some (.slice e)) (hu : apT P u) (hi : P.info? e = some i)
    (hn : (Builtin.lenOf yv).run P w = .ok 0 w) (hf : (Builtin.firstCells i.size 0 yv).run P w = .ok #[] w) (hroom : sLen ≤ sCap) :
    (Builtin.append_ #[t, u] ty #[.slice base sLen sCap, yv]).run P w = .ok (.slice base sLen sCap) w := by
  rcases hu with ⟨e', hu⟩ | hu <;> cases base <;>
    simp [Builtin.append_, run_underlying ht, run_underlying hu, sizeOf, typeInfo, hi, hn, hf, hroom, storeCells]

theorem run_app_room {t u ty e : TypeId} {b off : Nat} {sLen sCap m : Nat} {yv : Value} {i : TypeInfo} {ya c : Array Value} {et : TypeId} (ht : P.underlying t = some (.slice e)) (hu : apT P u) (hi : P.info? e = some i)
    (hn : (Builtin.lenOf yv).run P w = .ok m w) (hf : (Builtin.firstCells i.size m yv).run P w = .ok ya w) (hroom : sLen + m ≤ sCap)
    (hb : w.heap[b]? = some (.cells c et (0, 0))) (hfit : off + sLen * i.size + ya.size ≤ c.size) (h1 : ∀ v ∈ ya.toList, v.oneCell' = true) :
    (Builtin.append_ #[t, u] ty #[.slice (some ⟨b, off, none⟩) sLen sCap, yv]).run P w =
      .ok (.slice (some ⟨b, off, none⟩) (sLen + m) sCap) (w.setRow b (c.toList.take (off + sLen * i.size) ++ ya.toList ++ c.toList.drop (off + sLen * i.size + ya.size)).toArray) := by
  have hst := run_storeCells_at P b (off + sLen * i.size) et ya.toList 0 c w hb (by simpa using hfit) h1
  simp only [Nat.add_zero, Array.length_toList] at hst
  have ha : (⟨b, off, none⟩ : Addr).add (sLen * i.size) = ⟨b, off + sLen * i.size, none⟩ := addr_add _ _ rfl
  rcases hu with ⟨e', hu⟩ | hu <;>
    simp [Builtin.append_, run_underlying ht, run_underlying hu, sizeOf, typeInfo, hi, hn, hf, hroom, ha, hst]

theorem run_app_grow {t u ty e : TypeId} {base : Option Addr} {sLen sCap m : Nat} {yv : Value} {i : TypeInfo} {z : Value} {oa ya : Array Value} (ht : P.underlying t = some (.slice e)) (hu : apT P u) (hi : P.info? e = some i)
    (hz : i.zero = some z) (hn : (Builtin.lenOf yv).run P w = .ok m w) (hf : (Builtin.firstCells i.size m yv).run P w.drew = .ok ya w.drew) (ho : (Builtin.firstCells i.size sLen (.slice base sLen sCap)).run P w.drew = .ok oa w.drew)
    (hroom : sCap < sLen + m) (h63 : sLen + m ≤ 1073741824) (hby : i.bytes ≤ 4096) :
    ∃ (cap : Nat) (rest : Array Value), sLen + m ≤ cap ∧ rest.size = (cap - (sLen + m)) * z.cells.size ∧ (Builtin.append_ #[t, u] ty #[.slice base sLen sCap, yv]).run P w =
      .ok (.slice (some ⟨w.heap.size, 0, none⟩) (sLen + m) cap) { w.drew with heap := w.heap.push (.cells (oa ++ ya ++ rest) e) } := by
  have hn1 := nextcap_le (sLen + m) sCap hroom
  have h48 : ¬ (281474976710656 < Builtin.nextslicecap (sLen + m) sCap * i.bytes) := by
    have : Builtin.nextslicecap (sLen + m) sCap * i.bytes ≤ (2 * (sLen + m) + 512) * 4096 := Nat.mul_le_mul hn1 hby
    omega
  have h63' : ¬ (9223372036854775807 < ((sLen + m : Nat) : Int)) := by omega
  have hroom' : ¬ (sLen + m ≤ sCap) := by omega
  refine ⟨(Question.appendCap (sLen + m) sCap e).cut (w.tape w.drawn (Question.appendCap (sLen + m) sCap e)), Builtin.zeroCells z.cells ((Question.appendCap (sLen + m) sCap e).cut (w.tape w.drawn (Question.appendCap (sLen + m) sCap e)) - (sLen + m)), by simp [Question.cut], by simp [Builtin.zeroCells], ?_⟩
  have hmax : IntKind.i64.max = 9223372036854775807 := by decide
  rcases hu with ⟨e', hu⟩ | hu <;>
    simp [Builtin.append_, run_underlying ht, run_underlying hu, sizeOf, typeInfo, zeroValue, hi, hz, hn, hroom', h48, hmax, Question.forced, newRow]
  all_goals
    have h63'' : ¬ (9223372036854775807 < (sLen : Int) + (m : Int)) := by omega
    simp [h63'', hf, ho]
    rfl

theorem Near.drew (w : World) (σ : Nat → Nat) : Near w σ w.drew σ := fun b c t fz h => ⟨Nat.le_refl _, c, h, rfl, fun _ _ => rfl⟩

theorem rep_tok_of {w' : World} {σ' : Nat → Nat} {b off len cap size : Nat} {es : List (List D)} {c : Array Value} {t : TypeId} (hlen : ∀ e ∈ es, e.length = size) (hl : len = es.length) (hcap : len ≤ cap)
    (hb : w'.heap[b]? = some (.cells c t (0, 0))) (hσ : σ' b = off + es.length * size) (hfit : off + cap * size ≤ c.size)
    (hc : ∀ (j : Nat) (d : D), es.flatten[j]? = some d → ∃ v, c[off + j]? = some v ∧ RepD w' σ' d v) (S' : Store) (β' : Hs) :
    RepObj w' σ' S' β' (.tok size es) (.slice (some ⟨b, off, none⟩) len cap) := by
  subst hl
  refine ⟨?_, hlen, _, cap, rfl, hcap, .inr ⟨b, off, c, t, rfl, hb, hσ, hfit⟩⟩
  have hfl := flat_len es size hlen
  have hex : ∀ j, j < es.length * size → ∃ v, c[off + j]? = some v := fun j hj => by
    obtain ⟨v, hv, _⟩ := hc j _ (List.getElem?_eq_getElem (by omega))
    exact ⟨v, hv⟩
  refine .sl b off cap size es (fun j => (c[off + j]?).getD undef) c t (0, 0) hcap hlen hb (by omega) (fun j hj => ?_) (fun j d hd => ?_)
  · obtain ⟨v, hv⟩ := hex j hj
    simp [hv]
  · obtain ⟨v, hv, hr⟩ := hc j d hd
    simp only [hv, Option.getD_some]
    exact hr

def SrcAll (P : Program) (w : World) (σ : Nat → Nat) (size : Nat) (ys : List (List D)) (v : Value) : Prop := ∀ w' : World, w'.heap = w.heap → Src P w' σ size ys v

theorem srcAll_slice {ys : List (List D)} {v : Value} {size : Nat} (h : RepD w σ (.sl ys) v) (hsz : ∀ y ∈ ys, y.length = size) : SrcAll P w σ size ys v :=
  fun w' e => src_slice (h.mono fun b c t fz hb => ⟨Nat.le_refl _, c, by rw [e]; exact hb, rfl, fun _ _ => rfl⟩) hsz

theorem srcAll_string (l : List UInt8) : SrcAll P w σ 1 (l.map fun b => [D.i .u8 b.toNat]) (.string ⟨l.toArray⟩) := fun _ _ => src_string l

theorem append_run {t u ty e : TypeId} {sv : Value} {size : Nat} {es ys : List (List D)} {yv : Value} (hl : ∀ b, b < w.heap.size ∨ σ b = 0)
    (ht : P.underlying t = some (.slice e)) (hu : apT P u) (hz : ∃ zs, zeroCs P e = some zs ∧ zs.length = size) (hsize : P.cellsOf e = size) (hb : P.bytesOf e ≤ 4096)
    (hs : RepObj w σ S β (.tok size es) sv) (hy : SrcAll P w σ size ys yv) (hlen : es.length + ys.length ≤ 1073741824) :
    ∃ r w' σ', (Builtin.append_ #[t, u] ty #[sv, yv]).run P w = .ok r w' ∧ (∀ S' β', RepObj w' σ' S' β' (.tok size (es ++ ys)) r) ∧ w.heap.size ≤ w'.heap.size ∧ w'.os = w.os ∧ w'.output = w.output ∧
      Near w σ w' σ' ∧ (∀ b, b < w'.heap.size ∨ σ' b = 0) ∧ (∀ b, b < w.heap.size → blk (.tok size es) sv ≠ some b → w'.heap[b]? = w.heap[b]? ∧ σ' b = σ b) ∧
      (∀ b, blk (.tok size (es ++ ys)) r = some b → blk (.tok size es) sv = some b ∨ w.heap.size ≤ b) ∧ (ys.length = 0 → r = sv) ∧ r.oneCell' = true := by
  obtain ⟨zs, hzs, hzl⟩ := hz
  obtain ⟨z, hzr, hzc⟩ := run_zero (w := w) (σ := σ) (S := S) (β := β) hzs
  have hzsz : z.cells.size = size := by have := hzc.1; simp at this; omega
  have hex : ∃ info, P.info? e = some info ∧ info.zero = some z := by
    unfold zeroCs at hzs
    cases hi : P.info? e with
    | none => rw [hi] at hzs; cases hzs
    | some i =>
      refine ⟨i, rfl, ?_⟩
      cases hz : i.zero with
      | none => rw [hi] at hzs; simp [hz] at hzs
      | some z' =>
        have : (zeroValue e).run P w = .ok z' w := by simp [zeroValue, typeInfo, hi, hz]
        rw [hzr] at this
        cases this; rfl
  obtain ⟨info, hi, hiz⟩ := hex
  have hib : info.bytes = P.bytesOf e := by simp [Program.bytesOf, hi]
  have his : info.size = size := by rw [← hsize]; simp [Program.cellsOf, hi]
  have hs0 := hs
  obtain ⟨hsd, hle, base, sCap, rfl, hcap, htok⟩ := hs
  obtain ⟨hyl, hys, ya, hyr, hysz, hyd⟩ := hy w rfl
  have hall : ∀ x ∈ es ++ ys, x.length = size := fun x hx => (List.mem_append.1 hx).elim (hle x) (hys x)
  have hfl : es.flatten.length = es.length * size := flat_len es size hle
  have hfy : ys.flatten.length = ys.length * size := flat_len ys size hys
  have hone : ∀ v ∈ ya.toList, v.oneCell' = true := fun v hv => by
    obtain ⟨j, hj⟩ := List.getElem?_of_mem hv
    have hjl := (List.getElem?_eq_some_iff.1 hj).1
    simp at hjl
    obtain ⟨v', hv', hr⟩ := hyd j _ (List.getElem?_eq_getElem (by omega))
    rw [Array.getElem?_toList] at hj
    rw [hj] at hv'; cases hv'
    exact hr.one
  by_cases hn0 : ys.length = 0
  · have hys0 : ys = [] := List.eq_nil_of_length_eq_zero hn0
    subst hys0
    have hya : ya = #[] := by simpa using hysz
    subst hya
    refine ⟨_, w, σ, run_app_same ht hu hi hyl (by rw [his]; exact hyr) hcap, fun S' β' => ?_, Nat.le_refl _, rfl, rfl, Near.refl _ _, hl, fun b _ _ => ⟨rfl, rfl⟩, fun b hb => .inl (by simpa using hb), fun _ => rfl, rfl⟩
    rw [List.append_nil]
    exact ⟨hsd, hle, base, sCap, rfl, hcap, htok⟩
  by_cases hroom : es.length + ys.length ≤ sCap
  · obtain ⟨b, off, c, ct, rfl, hbc, hσ, hfit⟩ := htok.resolve_left (by omega)
    have hmul : es.length * size + ys.length * size ≤ sCap * size := by rw [← Nat.add_mul]; exact Nat.mul_le_mul_right _ hroom
    have hrun := run_app_room (P := P) (ty := ty) (b := b) (off := off) ht hu hi hyl (by rw [his]; exact hyr) hroom hbc (by rw [his, hysz]; omega) hone
    rw [his] at hrun
    generalize hc2 : (c.toList.take (off + es.length * size) ++ ya.toList ++ c.toList.drop (off + es.length * size + ya.size)).toArray = c2 at hrun
    have hc2s : c2.size = c.size := by rw [← hc2]; simp; omega
    have hheap : (w.setRow b c2).heap[b]? = some (.cells c2 ct (0, 0)) := setRow_heap w b c c2 ct (0, 0) hbc
    have hblt := lt_of_some hbc
    have hlow : ∀ i, i < off + es.length * size → c2[i]? = c[i]? := fun i hi => by
      rw [← hc2, List.getElem?_toArray, List.append_assoc, List.getElem?_append_left (by simp; omega), List.getElem?_take_of_lt hi, Array.getElem?_toList]
    have hmid : ∀ j, j < ya.size → c2[off + es.length * size + j]? = ya[j]? := fun j hj => by
      rw [← hc2, List.getElem?_toArray, List.getElem?_append_left (by simp; omega), List.getElem?_append_right (by simp; omega), ← Array.getElem?_toList]
      congr 1; simp; omega
    have hn : Near w σ (w.setRow b c2) (fun x => if x = b then off + (es.length + ys.length) * size else σ x) := by
      intro b1 c1 t1 fz1 e1
      by_cases hb1 : b1 = b
      · subst hb1
        rw [hbc] at e1; cases e1
        refine ⟨by simp only [if_true]; rw [hσ, Nat.add_mul]; omega, c2, hheap, hc2s, fun i hi => hlow i (by rw [hσ] at hi; omega)⟩
      · exact ⟨by simp only [if_neg hb1]; exact Nat.le_refl _, c1, (setRow_heap_ne w b c2 b1 hb1).trans e1, rfl, fun _ _ => rfl⟩
    have hbl0 : sCap ≠ es.length := by omega
    have hlen' : (es ++ ys).length = es.length + ys.length := List.length_append
    refine ⟨_, _, _, hrun, fun S' β' => ?_, by rw [setRow_size]; exact Nat.le_refl _, rfl, rfl, hn, fun x => ?_, fun x hx hne => ?_, fun x hx => ?_, fun h => absurd h hn0, rfl⟩
    · refine rep_tok_of hall hlen'.symm hroom hheap (by simp [hlen']) (by omega) (fun j d hj => ?_) S' β'
      rw [List.flatten_append] at hj
      by_cases hjl : j < es.length * size
      · rw [List.getElem?_append_left (by omega)] at hj
        cases hsd with
        | nil => simp at hj
        | sl b' off' cap' esz' es' vals c' t' fz' hcap' hlen2 hb' hσ' hc' hv' =>
          rw [hbc] at hb'; cases hb'
          have hes : esz' = size := by
            cases es with
            | nil => simp at hjl
            | cons y ys' => rw [← hlen2 y (by simp), hle y (by simp)]
          subst hes
          refine ⟨vals j, ?_, (hv' j d hj).mono hn⟩
          rw [hlow _ (by omega)]
          exact hc' j hjl
      · rw [List.getElem?_append_right (by omega), hfl] at hj
        obtain ⟨v, hv, hr⟩ := hyd _ d hj
        have hlt := (Array.getElem?_eq_some_iff.1 hv).1
        refine ⟨v, ?_, hr.mono hn⟩
        rw [← hv, ← hmid _ hlt]
        congr 1; omega
    · rw [setRow_size]
      by_cases hxb : x = b
      · left; omega
      · simp only [if_neg hxb]; exact hl x
    · have hxb : x ≠ b := fun e => hne (by simp [blk, hbl0, e])
      exact ⟨setRow_heap_ne _ _ _ _ hxb, if_neg hxb⟩
    · left
      simp only [blk] at hx ⊢
      split at hx
      · cases hx
      · rw [if_neg hbl0]; exact hx
  · obtain ⟨hyl', _, ya', hyr', hysz', hyd'⟩ := hy w.drew rfl
    obtain ⟨_, _, oa, hor, hosz, hod⟩ := src_slice (P := P) (hsd.mono (Near.drew w σ)) hle
    obtain ⟨cap, rest, hcap', hrest, hrun⟩ := run_app_grow (P := P) (ty := ty) (base := base) (sCap := sCap) ht hu hi hiz hyl (by rw [his]; exact hyr') (by rw [his]; exact hor) (by omega) hlen (by rw [hib]; exact hb)
    let w' : World := { w.drew with heap := w.heap.push (.cells (oa ++ ya' ++ rest) e) }
    let σ' : Nat → Nat := fun x => if x = w.heap.size then (es.length + ys.length) * size else σ x
    have hn : Near w σ w' σ' := by
      intro b1 c1 t1 fz1 e1
      have hlt := lt_of_some e1
      have hne : b1 ≠ w.heap.size := by omega
      refine ⟨by simp only [σ', if_neg hne]; exact Nat.le_refl _, c1, ?_, rfl, fun _ _ => rfl⟩
      simp only [w']
      rw [Array.getElem?_push, if_neg hne]; exact e1
    have hn' : Near w.drew σ w' σ' := hn
    have hheap : w'.heap[w.heap.size]? = some (.cells (oa ++ ya' ++ rest) e (0, 0)) := by simp [w']
    have hlen' : (es ++ ys).length = es.length + ys.length := List.length_append
    refine ⟨_, w', σ', hrun, fun S' β' => ?_, by simp [w'], rfl, rfl, hn, fun x => ?_, fun x hx _ => ?_, fun x hx => ?_, fun h => absurd h hn0, rfl⟩
    · refine rep_tok_of (off := 0) hall hlen'.symm hcap' hheap (by simp [σ', hlen']) ?_ (fun j d hj => ?_) S' β'
      · simp only [Array.size_append, hosz, hysz', hrest, hzsz, Nat.zero_add]
        rw [← Nat.add_mul, ← Nat.add_mul]
        exact Nat.mul_le_mul_right _ (by omega)
      · rw [List.flatten_append] at hj
        rw [Nat.zero_add]
        by_cases hjl : j < es.length * size
        · rw [List.getElem?_append_left (by omega)] at hj
          obtain ⟨v, hv, hr⟩ := hod j d hj
          refine ⟨v, ?_, hr.mono hn'⟩
          rw [Array.append_assoc, Array.getElem?_append_left (by omega)]; exact hv
        · rw [List.getElem?_append_right (by omega), hfl] at hj
          obtain ⟨v, hv, hr⟩ := hyd' _ d hj
          have hlt := (Array.getElem?_eq_some_iff.1 hv).1
          refine ⟨v, ?_, hr.mono hn'⟩
          rw [Array.append_assoc, Array.getElem?_append_right (by omega), hosz, Array.getElem?_append_left (by omega)]; exact hv
    · simp only [w', σ', Array.size_push]
      by_cases hxb : x = w.heap.size
      · left; omega
      · rw [if_neg hxb]; exact (hl x).imp (fun h => by omega) id
    · have hne : x ≠ w.heap.size := by omega
      refine ⟨?_, if_neg hne⟩
      simp only [w']
      rw [Array.getElem?_push, if_neg hne]
    · right
      simp only [blk] at hx
      split at hx
      · cases hx
      · cases hx; exact Nat.le_refl _
end
end Go.Ab
