/-
  SEVERAL TEXTS IN ONE (merged by program): contracts and models, each with its own heading.
-/
import Derived.Test.YtnceiannponbjaaGreatPartDibA
import Derived.LoopN
import Derived.StillTail
set_option linter.unusedSimpArgs false
set_option linter.unusedVariables false
namespace Go.Ab
def rowIs (t : TypeId) : Bool := t == 25
def rowO (o : Option Obj) (t : TypeId) : Bool := match o with
  | some (.xf []) => rowIs t
  | _ => false
def rowT (S : Store) (t : TypeId) : Bool := rowO (getO S (0, 0)) t
def litW (P : Program) (t : TypeId) (s : St) (dst : Option Nat) (K : St → Prop) (b : Bool) (r : R) : Prop :=
  match b, r with
  | false, r => r.1 ∧ K (s.put dst r.2)
  | true, (p, .c (.fsl es)) => match P.underlying t with
    | some (.slice e) => p ∧ newObj s dst (.mrow (P.cellsOf e) es) (fun k => .c (.msl k)) K
    | _ => False
  | true, _ => False
def rowApp (P : Program) (t u : TypeId) (k : Key) (y : V) (s : St) (dst : Option Nat) (K : St → Prop) : Prop :=
  match P.underlying t, srcV P u y, getO s.st k with
  | some (.slice e), some ys, some (.mrow esz es) => esz = P.cellsOf e ∧ (∀ y ∈ ys, y.length = P.cellsOf e) ∧ P.bytesOf e ≤ 4096 ∧ (∃ zs, zeroCs P e = some zs ∧ zs.length = P.cellsOf e) ∧ es.length + ys.length ≤ 1073741824 ∧
      newObj ⟨s.tm, setO s.st k .dead⟩ dst (.mrow esz (es ++ ys)) (fun k => .c (.msl k)) K
  | _, _, _ => False
def appendR (P : Program) (t u : TypeId) (x y : V) (s : St) (dst : Option Nat) (K : St → Prop) : Prop :=
  match x with
  | .c (.msl k) => rowApp P t u k y s dst K
  | x => appendW P t u x y s dst K
def execR (P : Program) (o : Oper) (s : St) (K : St → Prop) : Prop :=
  match o.op with
  | .call { callee := .builtin .append, args := ags, argTypes := ts } => match ags.toList, ts.toList with
    | [x, y], [t, u] => appendR P t u (ev s.tm x) (ev s.tm y) s o.dst K
    | _, _ => False
  | .buildSlice t n parts => litW P t s o.dst K (rowT s.st t) (nval P s.st s.tm (.buildSlice t n parts))
  | _ => execW P o s K
section
variable {P : Program} {w w' : World} {σ σ' : Nat → Nat} {S : Store} {β β' : Hs} {N : Nat} {s : St} {a : Act}
theorem RepS.lay {own : List Obj} {Ω : Store} {bo : List Value} {bΩ : Hs} {o : Obj} {h : Value} (hS : RepS w σ (own :: Ω) (bo :: bΩ)) (hlen : bo.length = own.length)
    (ho : RepObj w σ ((own ++ [o]) :: Ω) ((bo ++ [h]) :: bΩ) o h) (hb : ∀ b, owns o h b → ¬ Own (own :: Ω) (bo :: bΩ) b) :
    RepS w σ ((own ++ [o]) :: Ω) ((bo ++ [h]) :: bΩ) ∧ Keep (own :: Ω) (bo :: bΩ) ((own ++ [o]) :: Ω) ((bo ++ [h]) :: bΩ) ∧ ∀ b, Own ((own ++ [o]) :: Ω) ((bo ++ [h]) :: bΩ) b → Own (own :: Ω) (bo :: bΩ) b ∨ owns o h b := by
  have hkeep : Keep (own :: Ω) (bo :: bΩ) ((own ++ [o]) :: Ω) ((bo ++ [h]) :: bΩ) := by
    intro k o1 h1
    obtain ⟨h2, hh2, _⟩ := hS.obj k o1 h1
    exact ⟨o1, getO_push _ _ _ _ _ h1, by rw [getO_push _ _ _ _ _ hh2, hh2]; exact .refl _ _⟩
  have hinv : ∀ k o1 h1, getO ((own ++ [o]) :: Ω) k = some o1 → getO ((bo ++ [h]) :: bΩ) k = some h1 →
      (getO (own :: Ω) k = some o1 ∧ getO (bo :: bΩ) k = some h1) ∨ (k = (0, own.length) ∧ o1 = o ∧ h1 = h) := by
    intro k o1 h1 e1 e2
    rcases getO_push_inv _ _ _ _ _ e1 with e1 | ⟨rfl, rfl⟩
    · left
      refine ⟨e1, ?_⟩
      rcases getO_push_inv _ _ _ _ _ e2 with e2 | ⟨rfl, rfl⟩
      · exact e2
      · rw [getO_zero, hlen] at e1
        have := (List.getElem?_eq_some_iff.1 e1).1
        omega
    · right
      rw [← hlen, getO_push_new] at e2
      exact ⟨rfl, rfl, (Option.some.inj e2).symm⟩
  refine ⟨⟨?_, ?_, ⟨?_, ?_⟩, hS.live, hS.glob⟩, hkeep, ?_⟩
  · intro k o1 h1
    rcases getO_push_inv _ _ _ _ _ h1 with h1 | ⟨rfl, rfl⟩
    · obtain ⟨h2, hh2, hr⟩ := hS.obj k o1 h1
      exact ⟨h2, getO_push _ _ _ _ _ hh2, hr.mono (Near.refl _ _) (hkeep.drop _) fun b hb => ⟨rfl, rfl⟩⟩
    · exact ⟨h, by rw [← hlen, getO_push_new], ho⟩
  · intro k k' o1 o2 h1 h2 b e1 e2 e3 e4 e5 e6
    rcases hinv k o1 h1 e1 e2 with ⟨f1, f2⟩ | ⟨rfl, rfl, rfl⟩
    · rcases hinv k' o2 h2 e4 e5 with ⟨g1, g2⟩ | ⟨rfl, rfl, rfl⟩
      · exact hS.apart _ _ _ _ _ _ _ f1 f2 e3 g1 g2 e6
      · exact absurd ⟨k, o1, h1, f1, f2, e3⟩ (hb b e6)
    · rcases hinv k' o2 h2 e4 e5 with ⟨g1, g2⟩ | ⟨rfl, rfl, rfl⟩
      · exact absurd ⟨k', o2, h2, g1, g2, e6⟩ (hb b e3)
      · rfl
  · have := hS.shape.1
    simpa using this
  · intro l fr hl
    cases l with
    | zero =>
      simp at hl
      exact ⟨_, rfl, by rw [← hl]; simp [hlen]⟩
    | succ l => exact hS.shape.2 (l + 1) fr hl
  · rintro b ⟨k, o1, h1, e1, e2, e3⟩
    rcases hinv k o1 h1 e1 e2 with ⟨f1, f2⟩ | ⟨rfl, rfl, rfl⟩
    · exact .inl ⟨k, o1, h1, f1, f2, e3⟩
    · exact .inr e3
theorem append_row {t u ty e : TypeId} {sv : Value} {size : Nat} {es ys : List (List D)} {yv : Value} (hl : ∀ b, b < w.heap.size ∨ σ b = 0)
    (ht : P.underlying t = some (.slice e)) (hu : apT P u) (hz : ∃ zs, zeroCs P e = some zs ∧ zs.length = size) (hsize : P.cellsOf e = size) (hb : P.bytesOf e ≤ 4096)
    (hs : RepObj w σ S β (.mrow size es) sv) (hy : SrcAll P w σ size ys yv) (hlen : es.length + ys.length ≤ 1073741824) :
    ∃ r w', (Builtin.append_ #[t, u] ty #[sv, yv]).run P w = .ok r w' ∧ (∀ S' β', RepObj w' σ S' β' (.mrow size (es ++ ys)) r) ∧ w.heap.size ≤ w'.heap.size ∧ w'.os = w.os ∧ w'.output = w.output ∧
      Near w σ w' σ ∧ (∀ b, b < w'.heap.size ∨ σ b = 0) ∧ (∀ b, b < w.heap.size → ¬ owns (.mrow size es) sv b → w'.heap[b]? = w.heap[b]?) ∧
      (∀ b, owns (.mrow size (es ++ ys)) r b → owns (.mrow size es) sv b ∨ w.heap.size ≤ b) ∧ r.oneCell' = true := by
  obtain ⟨zs, hzs, hzl⟩ := hz
  obtain ⟨z, hzr, hzc⟩ := run_zero (w := w) (σ := σ) (S := S) (β := β) hzs
  have hzsz : z.cells.size = size := by have := hzc.1; simp at this; omega
  have hex : ∃ info, P.info? e = some info ∧ info.zero = some z := by
    unfold zeroCs at hzs
    cases hi : P.info? e with
    | none => rw [hi] at hzs; cases hzs
    | some i =>
      refine ⟨i, rfl, ?_⟩
      cases hz : i.zero with
      | none => rw [hi] at hzs; simp [hz] at hzs
      | some z' =>
        have : (zeroValue e).run P w = .ok z' w := by simp [zeroValue, typeInfo, hi, hz]
        rw [hzr] at this
        cases this; rfl
  obtain ⟨info, hi, hiz⟩ := hex
  have hib : info.bytes = P.bytesOf e := by simp [Program.bytesOf, hi]
  have his : info.size = size := by rw [← hsize]; simp [Program.cellsOf, hi]
  have hs0 := hs
  obtain ⟨hle, base, sCap, rfl, hcap, h4⟩ := hs
  obtain ⟨hyl, hys, ya, hyr, hysz, hyd⟩ := hy w rfl
  have hall : ∀ x ∈ es ++ ys, x.length = size := fun x hx => (List.mem_append.1 hx).elim (hle x) (hys x)
  have hfl : es.flatten.length = es.length * size := flat_len es size hle
  have hfy : ys.flatten.length = ys.length * size := flat_len ys size hys
  have hlen' : (es ++ ys).length = es.length + ys.length := List.length_append
  have hone : ∀ v ∈ ya.toList, v.oneCell' = true := fun v hv => by
    obtain ⟨j, hj⟩ := List.getElem?_of_mem hv
    have hjl := (List.getElem?_eq_some_iff.1 hj).1
    simp at hjl
    obtain ⟨v', hv', hr⟩ := hyd j _ (List.getElem?_eq_getElem (by omega))
    rw [Array.getElem?_toList] at hj
    rw [hj] at hv'; cases hv'
    exact hr.one
  by_cases hn0 : ys.length = 0
  · have hys0 : ys = [] := List.eq_nil_of_length_eq_zero hn0
    subst hys0
    have hya : ya = #[] := by simpa using hysz
    subst hya
    refine ⟨_, w, run_app_same ht hu hi hyl (by rw [his]; exact hyr) hcap, fun S' β' => ?_, Nat.le_refl _, rfl, rfl, Near.refl _ _, hl, fun b _ _ => rfl, fun b hb => .inl (by simpa using hb), rfl⟩
    rw [List.append_nil]
    exact hs0
  by_cases hroom : es.length + ys.length ≤ sCap
  · have hc0 : sCap ≠ 0 := by omega
    obtain ⟨b, c, ct, rfl, hbc, hσ, hfit, hcells⟩ := h4.resolve_left hc0
    have hmul : es.length * size + ys.length * size ≤ sCap * size := by rw [← Nat.add_mul]; exact Nat.mul_le_mul_right _ hroom
    have hrun := run_app_room (P := P) (ty := ty) (b := b) (off := 0) ht hu hi hyl (by rw [his]; exact hyr) hroom hbc (by rw [his, hysz]; omega) hone
    rw [his, Nat.zero_add] at hrun
    generalize hc2 : (c.toList.take (es.length * size) ++ ya.toList ++ c.toList.drop (es.length * size + ya.size)).toArray = c2 at hrun
    have hc2s : c2.size = c.size := by rw [← hc2]; simp; omega
    have hheap : (w.setRow b c2).heap[b]? = some (.cells c2 ct (0, 0)) := setRow_heap w b c c2 ct (0, 0) hbc
    have hlow : ∀ i, i < es.length * size → c2[i]? = c[i]? := fun i hi => by
      rw [← hc2, List.getElem?_toArray, List.append_assoc, List.getElem?_append_left (by simp; omega), List.getElem?_take_of_lt hi, Array.getElem?_toList]
    have hmid : ∀ j, j < ya.size → c2[es.length * size + j]? = ya[j]? := fun j hj => by
      rw [← hc2, List.getElem?_toArray, List.getElem?_append_left (by simp; omega), List.getElem?_append_right (by simp; omega), ← Array.getElem?_toList]
      congr 1; simp; omega
    have hn : Near w σ (w.setRow b c2) σ := by
      intro b1 c1 t1 fz1 e1
      refine ⟨Nat.le_refl _, fun _ => rfl, ?_⟩
      by_cases hb1 : b1 = b
      · subst hb1
        rw [hbc] at e1; cases e1
        exact ⟨c2, hheap, hc2s, fun i hi => by omega⟩
      · exact ⟨c1, (setRow_heap_ne w b c2 b1 hb1).trans e1, rfl, fun _ _ => rfl⟩
    refine ⟨_, _, hrun, fun S' β' => ⟨hall, _, sCap, by rw [hlen'], by omega, .inr ⟨b, c2, ct, rfl, hheap, hσ, by omega, fun j d hj => ?_⟩⟩, by rw [setRow_size]; exact Nat.le_refl _, rfl, rfl, hn, fun x => by rw [setRow_size]; exact hl x, fun x hx hne => ?_, fun x hx => .inl ?_, rfl⟩
    · rw [List.flatten_append] at hj
      by_cases hjl : j < es.length * size
      · rw [List.getElem?_append_left (by omega)] at hj
        obtain ⟨v, hv, hr⟩ := hcells j d hj
        exact ⟨v, by rw [hlow j hjl]; exact hv, hr.mono hn⟩
      · rw [List.getElem?_append_right (by omega), hfl] at hj
        obtain ⟨v, hv, hr⟩ := hyd _ d hj
        have hlt := (Array.getElem?_eq_some_iff.1 hv).1
        refine ⟨v, ?_, hr.mono hn⟩
        rw [← hv, ← hmid _ hlt]
        congr 1; omega
    · exact setRow_heap_ne _ _ _ _ fun e => hne (by simp [owns, blk, hc0, e])
    · simpa [owns, blk] using hx
  · obtain ⟨hyl', _, ya', hyr', hysz', hyd'⟩ := hy w.drew rfl
    obtain ⟨oa, hor, hosz, hod⟩ : ∃ oa : Array Value, (Builtin.firstCells size es.length (.slice base es.length sCap)).run P w.drew = .ok oa w.drew ∧ oa.size = es.length * size ∧ ∀ (j : Nat) (d : D), es.flatten[j]? = some d → ∃ v, oa[j]? = some v ∧ RepD w σ d v := by
      rcases h4 with h0 | ⟨b, c, ct, rfl, hbc, hσ, hfit, hcells⟩
      · have he : es = [] := List.eq_nil_of_length_eq_zero (by omega)
        subst he
        refine ⟨#[], ?_, by simp, fun j d hj => by simp at hj⟩
        cases base with
        | none => rfl
        | some b => simp [Builtin.firstCells, loadCells, loadCellsFrom]
      · have hm : es.length * size ≤ sCap * size := Nat.mul_le_mul_right _ hcap
        have hbc' : w.drew.heap[b]? = some (.cells c ct (0, 0)) := hbc
        have hex : ∀ j, j < es.length * size → ∃ v, c[0 + j]? = some v := fun j hj => ⟨c[0 + j]'(by omega), Array.getElem?_eq_getElem (by omega)⟩
        obtain ⟨hpl, hpv⟩ := part_list c 0 (es.length * size) hex
        refine ⟨_, run_cells_of (a := ⟨b, 0, none⟩) rfl hbc' _ hex, by simpa using hpl, fun j d hj => ?_⟩
        obtain ⟨v, hv, hr⟩ := hcells j d hj
        have hjl := (List.getElem?_eq_some_iff.1 hj).1
        refine ⟨v, ?_, hr⟩
        rw [List.getElem?_toArray, hpv j (by omega), Nat.zero_add]
        exact hv
    obtain ⟨cap, rest, hcap', hrest, hrun⟩ := run_app_grow (P := P) (ty := ty) (base := base) (sCap := sCap) ht hu hi hiz hyl (by rw [his]; exact hyr') (by rw [his]; exact hor) (by omega) hlen (by rw [hib]; exact hb)
    let w' : World := { w.drew with heap := w.heap.push (.cells (oa ++ ya' ++ rest) e) }
    have hn : Near w σ w' σ := by
      intro b1 c1 t1 fz1 e1
      have hne : b1 ≠ w.heap.size := by have := lt_of_some e1; omega
      refine ⟨Nat.le_refl _, fun _ => rfl, c1, ?_, rfl, fun _ _ => rfl⟩
      simp only [w']
      rw [Array.getElem?_push, if_neg hne]; exact e1
    have hn' : Near w.drew σ w' σ := hn
    have hheap : w'.heap[w.heap.size]? = some (.cells (oa ++ ya' ++ rest) e (0, 0)) := by simp [w']
    have hσ0 : σ w.heap.size = 0 := by
      rcases hl w.heap.size with h | h
      · omega
      · exact h
    refine ⟨_, w', hrun, fun S' β' => ⟨hall, _, cap, by rw [hlen'], by omega, .inr ⟨w.heap.size, _, e, rfl, hheap, hσ0, ?_, fun j d hj => ?_⟩⟩, by simp [w'], rfl, rfl, hn, fun x => ?_, fun x hx _ => ?_, fun x hx => .inr ?_, rfl⟩
    · simp only [Array.size_append, hosz, hysz', hrest, hzsz]
      rw [← Nat.add_mul, ← Nat.add_mul]
      exact Nat.mul_le_mul_right _ (by omega)
    · rw [List.flatten_append] at hj
      by_cases hjl : j < es.length * size
      · rw [List.getElem?_append_left (by omega)] at hj
        obtain ⟨v, hv, hr⟩ := hod j d hj
        refine ⟨v, ?_, hr.mono hn⟩
        rw [Array.append_assoc, Array.getElem?_append_left (by omega)]; exact hv
      · rw [List.getElem?_append_right (by omega), hfl] at hj
        obtain ⟨v, hv, hr⟩ := hyd' _ d hj
        have hlt := (Array.getElem?_eq_some_iff.1 hv).1
        refine ⟨v, ?_, hr.mono hn'⟩
        rw [Array.append_assoc, Array.getElem?_append_right (by omega), hosz, Array.getElem?_append_left (by omega)]; exact hv
    · simp only [w', Array.size_push]
      exact (hl x).imp (fun h => by omega) id
    · have hne : x ≠ w.heap.size := by omega
      simp only [w']
      rw [Array.getElem?_push, if_neg hne]
    · simp only [owns, blk] at hx
      split at hx
      · cases hx
      · cases hx; exact Nat.le_refl _
theorem rowApp_sound {o : Oper} {K : St → Prop} {Q : Exit → Act → World → Prop} {t u : TypeId} {x y : Operand} {k : Key} (hrun : ∀ r w', (Builtin.append_ #[t, u] o.type #[a.eval x, a.eval y]).run P w = .ok r w' → (execOp a.eval o).run P w = .ok (.value r) w')
    (hd : ∀ d, o.dst = some d → d < N) (hR : Rep N s a w σ β) (hx : ev s.tm x = .c (.msl k)) (h : rowApp P t u k (ev s.tm y) s o.dst K) : o.wp P a w (Then N s.st β σ w K) Q := by
  have hxr := rep_ev hR.T x
  have hyr := rep_ev hR.T y
  rw [hx] at hxr
  unfold rowApp at h
  split at h
  · rename_i e ys esz es ht hsrc hk
    obtain ⟨rfl, h1, h2, h3, h5, h6⟩ := h
    obtain ⟨hu, hsa⟩ := srcV_src hsrc hyr h1
    obtain ⟨⟨ob, ho, hlink⟩, hone⟩ := hxr
    rw [hk] at ho; cases ho
    have hβ := hlink _ _ rfl
    obtain ⟨hh, hb, hobj⟩ := hR.S.obj k _ hk
    rw [hβ] at hb; cases hb
    obtain ⟨r, w', hr, hro, hsz, hos, hout, hn, hl, hfar, hbk, h1c⟩ := append_row (P := P) (ty := o.type) hR.S.live ht hu h3 rfl h2 hobj hsa h5
    obtain ⟨hS1, hk1, hst1⟩ := hR.S.set (o' := .dead) (h' := a.eval x) hk hβ hsz hos hout hn hl (fun b h1 h2 => ⟨hfar b h1 h2, rfl⟩) (.inl rfl) trivial (fun b hb => by cases hb)
    have e1 : setO β k (a.eval x) = β := setO_setO (a.eval x) _ _ _ hβ
    rw [e1] at hS1 hk1 hst1
    obtain ⟨tm, st⟩ := s
    have hsh := hS1.shape
    cases hst : setO st k Obj.dead with
    | nil => simp only [newObj, hst] at h6
    | cons own Ω =>
      simp only [newObj, hst] at h6
      have hS1' : RepS w' σ (own :: Ω) β := by rw [← hst]; exact hS1
      have hfr : ∃ bo bΩ, β = bo :: bΩ ∧ bo.length = own.length := by
        cases β with
        | nil => have := hS1'.shape.1; simp at this
        | cons bo bΩ =>
          refine ⟨bo, bΩ, rfl, ?_⟩
          obtain ⟨gr, q1, q2⟩ := hS1'.shape.2 0 own rfl
          simp at q1; rw [q1]; exact q2
      obtain ⟨bo, bΩ, rfl, hlen⟩ := hfr
      have hnot : ∀ b, owns (.mrow (P.cellsOf e) (es ++ ys)) r b → ¬ Own (own :: Ω) (bo :: bΩ) b := by
        intro b hb ⟨k1, o1, h1, e1, e2, e3⟩
        have hin : getO st k1 = some o1 ∧ k1 ≠ k := by
          have e1' : getO (setO st k Obj.dead) k1 = some o1 := by rw [hst]; exact e1
          by_cases q : k1 = k
          · subst q
            rw [getO_setO_eq _ _ _ _ hk] at e1'
            cases e1'; cases e3
          · rw [getO_setO_ne _ _ _ _ (Ne.symm q)] at e1'
            exact ⟨e1', q⟩
        rcases hbk b hb with k2 | k2
        · exact hin.2 (hR.S.apart k1 k o1 _ h1 _ b hin.1 e2 e3 hk hβ k2)
        · have := hR.S.own_lt ⟨k1, o1, h1, hin.1, e2, e3⟩
          omega
      obtain ⟨hS2, hk2, hown⟩ := hS1'.lay hlen (hro _ _) hnot
      have hk1' : Keep st (bo :: bΩ) (own :: Ω) (bo :: bΩ) := by rw [← hst]; exact hk1
      have hst1' : Step st (bo :: bΩ) σ w (own :: Ω) (bo :: bΩ) σ w' := by rw [← hst]; exact hst1
      refine then_change (x := .c (.msl (0, own.length))) (v := r) hd hR hS2 (hk1'.trans hk2) ⟨hst1'.size, hst1'.os, hst1'.output, hst1'.far, hst1'.near, fun b hb => ?_⟩ ⟨⟨_, getO_push_new _ _ _, fun a b e => ?_⟩, h1c⟩ (.inl rfl) (hrun _ _ hr) h6
      · rcases hown b hb with q | q
        · exact hst1'.own b q
        · rcases hbk b q with q2 | q2
          · exact .inl ⟨k, _, _, hk, hβ, q2⟩
          · exact .inr q2
      · rw [← hlen, getO_push_new]
  · exact h.elim
theorem lit_sound {o : Oper} {K : St → Prop} {Q : Exit → Act → World → Prop} {t : TypeId} {n : Nat} {parts : Array (Nat × Operand)} (ho : o.op = .buildSlice t n parts) (hd : ∀ d, o.dst = some d → d < N) (hR : Rep N s a w σ β)
    (h : litW P t s o.dst K (rowT s.st t) (nval P s.st s.tm (.buildSlice t n parts))) : o.wp P a w (Then N s.st β σ w K) Q := by
  unfold litW at h
  split at h
  · obtain ⟨h1, h2⟩ := h
    rw [← ho] at h1 h2
    obtain ⟨v, w', σ', hrun, hg, hv⟩ := nval_sound o hR.S hR.T h1
    exact then_value hd hR hg hv hrun h2
  · rename_i p es hb hr
    split at h
    · rename_i e ht
      obtain ⟨hp, h6⟩ := h
      have hr' : nvalL P (labS s.st) s.st s.tm (.buildSlice t n parts) = (p, .c (.fsl es)) := hr
      simp only [nvalL] at hr'
      cases hlab : labS s.st with
      | some m =>
        rw [hlab] at hr'
        simp only [buildSliceL] at hr'
        split at hr' <;> cases hr'
      | none =>
        rw [hlab] at hr'
        simp only [buildSliceL, buildSliceV, ht] at hr'
        split at hr'
        · rename_i es' hes
          cases hr'
          obtain ⟨h1, h2, h3⟩ := hp
          obtain ⟨ca, hrun, hca, hle, hcells⟩ := buildSlice_base (P := P) (w := w) (σ := σ) (S := s.st) (β := β) (t := t) (n := n) (parts := parts.toList.map fun x => (x.1, ev s.tm x.2)) (pv := parts.toList.map fun x => (x.1, a.eval x.2)) (by simp)
            (fun j x hx => by
              rw [List.getElem?_map] at hx ⊢
              cases hc : parts.toList[j]? with
              | none => rw [hc] at hx; cases hx
              | some y => rw [hc] at hx; cases hx; exact ⟨_, rfl, rep_ev hR.T y.2⟩) ht hes h1 h2 h3
          have hrun' : (execOp a.eval o).run P w = .ok (.value (.slice (some ⟨w.heap.size, 0, none⟩) n n)) { w with heap := w.heap.push (.cells ca e) } := by
            clear h6 hr
            obtain ⟨dst, op, ty, pos, after, guard⟩ := o
            simp only at ho; subst ho
            simp [execOp]
            rw [amap, hrun]
            rfl
          have hg := push_cells w σ hR.S.live ca e 0
          have hσ0 : σ w.heap.size = 0 := by
            rcases hR.S.live w.heap.size with h | h
            · omega
            · exact h
          obtain ⟨tm, st⟩ := s
          cases st with
          | nil => exact h6.elim
          | cons own Ω =>
            obtain ⟨bo, bΩ, rfl, hlen⟩ := frames hR
            obtain ⟨hS', hk, hst⟩ := hR.S.push (o := .mrow (P.cellsOf e) es) (h := .slice (some ⟨w.heap.size, 0, none⟩) n n) hg hlen
              ⟨hle, some ⟨w.heap.size, 0, none⟩, n, by rw [h1], by omega, .inr ⟨w.heap.size, ca, e, rfl, by simp, by simp, by rw [hca, h1]; exact Nat.le_refl _, fun j d hj => by
                obtain ⟨v, hv, hr⟩ := hcells j d hj
                exact ⟨v, hv, hr.mono hg.near⟩⟩⟩
              (fun b hb => by
                simp only [owns, blk] at hb
                split at hb
                · cases hb
                · cases hb; exact Nat.le_refl _)
            refine then_change (x := .c (.msl (0, own.length))) hd hR hS' hk hst ⟨⟨_, getO_push_new _ _ _, fun esz es e => ?_⟩, rfl⟩ (.inl rfl) hrun' h6
            rw [← hlen, getO_push_new]
        · cases hr'
    · exact h.elim
  · exact h.elim
theorem execR_sound (hw : ∀ {o : Oper} {K : St → Prop} {Q : Exit → Act → World → Prop}, (∀ d, o.dst = some d → d < N) → execW P o s K → o.wp P a w (Then N s.st β σ w K) Q) {o : Oper} {K : St → Prop} {Q : Exit → Act → World → Prop} (hd : ∀ d, o.dst = some d → d < N) (hR : Rep N s a w σ β) (h : execR P o s K) : o.wp P a w (Then N s.st β σ w K) Q := by
  unfold execR at h
  split at h
  · rename_i ags ts ho
    split at h
    · rename_i x y t u hx ht
      unfold appendR at h
      split at h
      · rename_i k hk
        refine rowApp_sound (fun r w' hr => ?_) hd hR hk h
        clear h
        obtain ⟨dst, op, ty, pos, after, guard⟩ := o
        simp only at ho; subst ho
        obtain rfl : ags = #[x, y] := by rw [← Array.toArray_toList (xs := ags), hx]
        obtain rfl : ts = #[t, u] := by rw [← Array.toArray_toList (xs := ts), ht]
        simp only at hr
        simp [execOp, resolve, invoke, builtin, hr]
      · refine hw hd ?_
        unfold execW
        rw [ho]
        simp only [callW, hx, ht]
        exact h
    · exact h.elim
  · rename_i t n parts ho
    exact lit_sound ho hd hR h
  · exact hw hd h
end
end Go.Ab

namespace Go.Ab
section
variable {P : Program} {w w' : World} {σ σ' : Nat → Nat} {S : Store} {β β' : Hs} {N : Nat} {s : St} {a : Act}
theorem exec_sound {o : Oper} {K : St → Prop} {Q : Exit → Act → World → Prop} (hd : ∀ d, o.dst = some d → d < N) (hR : Rep N s a w σ β) (h : execW P o s K) : o.wp P a w (Then N s.st β σ w K) Q := by
  unfold execW at h
  split at h
  · rename_i t ho
    unfold allocW at h
    split at h
    · rename_i zs hz
      obtain ⟨z, hzr, hzc⟩ := run_zero (w := w) (σ := σ) (S := s.st) (β := β) hz
      refine newObj_box (v := z) (t := t) hd hR hzc (fun ad w' hnv => ?_) h
      obtain ⟨dst, op, ty, pos, after, guard⟩ := o
      simp only at ho; subst ho
      simp [execOp, Instr.alloc, hzr, hnv]
    · exact h.elim
  · rename_i t x ho
    unfold boxW at h
    split at h
    · rename_i cs hcs
      refine newObj_box (v := a.eval x) (t := t) hd hR (rep_cellsV hcs (rep_ev hR.T x)) (fun ad w' hnv => ?_) h
      obtain ⟨dst, op, ty, pos, after, guard⟩ := o
      simp only at ho; subst ho
      simp [execOp, Instr.box, hnv]
    · exact h.elim
  · rename_i t x y ho
    exact store_sound ho hd hR h
  · rename_i t x y ho
    exact make_sound ho hd hR h
  · rename_i t ho
    exact mapNew_sound ho hd hR h
  · rename_i t x y z ho
    exact mapPut_sound ho hd hR h
  · rename_i c ho
    exact call_sound ho hd hR h
  · obtain ⟨h1, h2⟩ := h
    obtain ⟨v, w', σ', hrun, hg, hv⟩ := nval_sound o hR.S hR.T h1
    exact then_value hd hR hg hv hrun h2
def dstOf (R : Array Oper) (j : Nat) : Option Nat := (R[j]?).bind (·.dst)
def guardW (P : Program) (R : Array Oper) (o : Oper) (s : St) (K : St → Prop) : Prop :=
  match o.guard with
  | none => execR P o s K
  | some (j, want) =>
    match (dstOf R j).map (look s.tm) with
    | some (.c (.d (.b x))) => (x = want → execR P o s K) ∧ (x = !want → K (s.put o.dst (.tup [])))
    | some (.tup []) => K (s.put o.dst (.tup []))
    | _ => False
def rops (P : Program) (R : Array Oper) : List Oper → St → (St → Prop) → Prop
  | [], s, K => K s
  | o :: os, s, K => guardW P R o s fun s' => rops P R os s' K
theorem Then.mono {K K' : St → Prop} {a' : Act} {w' : World} (hK : ∀ s, K s → K' s) (h : Then N S β σ w K a' w') : Then N S β σ w K' a' w' := by
  obtain ⟨s', σ', β', h1, h2, h3, h4⟩ := h
  exact ⟨s', σ', β', h1, h2, h3, hK _ h4⟩
theorem yielded_bool {R : Array Oper} {j : Nat} {x : Bool} (hR : Rep N s a w σ β) (h : (dstOf R j).map (look s.tm) = some (.c (.d (.b x)))) : yielded R a.tmps j = some x := by
  unfold yielded
  unfold dstOf at h
  cases hd : (R[j]?).bind (·.dst) with
  | none => rw [hd] at h; cases h
  | some d =>
    rw [hd] at h
    simp only [Option.map_some, Option.some.injEq] at h
    have ht := hR.T d
    rw [h] at ht
    obtain ⟨ht, _⟩ := ht
    simp only [Option.bind_some]
    have hlt : d < a.tmps.size := by
      rcases Nat.lt_or_ge d a.tmps.size with h | h
      · exact h
      · simp [Array.getD, Nat.not_lt.2 h, undef] at ht
        cases ht
    have hg : a.tmps.getD d undef = a.tmps[d] := by simp [Array.getD, hlt]
    rw [hg] at ht
    rw [Array.getElem?_eq_getElem hlt]
    generalize a.tmps[d] = v at ht
    cases ht
    rfl
theorem yielded_undef {R : Array Oper} {j : Nat} (hR : Rep N s a w σ β) (h : (dstOf R j).map (look s.tm) = some (.tup [])) : yielded R a.tmps j = none := by
  unfold yielded
  unfold dstOf at h
  cases hd : (R[j]?).bind (·.dst) with
  | none => rw [hd] at h; cases h
  | some d =>
    rw [hd] at h
    simp only [Option.map_some, Option.some.injEq] at h
    have ht := hR.T d
    rw [h] at ht
    obtain ⟨ar, hv, _⟩ := ht
    simp only [Option.bind_some]
    by_cases hlt : d < a.tmps.size
    · have hg : a.tmps.getD d undef = a.tmps[d] := by simp [Array.getD, hlt]
      rw [hg] at hv
      rw [Array.getElem?_eq_getElem hlt, hv]
    · rw [Array.getElem?_eq_none (Nat.le_of_not_lt hlt)]
theorem then_skip {o : Oper} {K : St → Prop} (hd : ∀ d, o.dst = some d → d < N) (hR : Rep N s a w σ β) (hK : K (s.put o.dst (.tup []))) : Then N s.st β σ w K (a.put o.dst undef) w := by
  have hr : Rep N (St.put ⟨s.tm, s.st⟩ o.dst (.tup [])) (a.put o.dst undef) w σ β := rep_put hd hR.size hR.defers hR.S hR.T undef_rep
  have he : (s.put o.dst (.tup [])).st = s.st := put_st o.dst s.tm s.st _
  exact ⟨_, σ, β, hr, by rw [show (St.put ⟨s.tm, s.st⟩ o.dst (.tup [])).st = s.st from he]; exact Step.of_grow (Grow.refl hR.S.live), by rw [show (St.put ⟨s.tm, s.st⟩ o.dst (.tup [])).st = s.st from he]; exact Keep.refl _ _, hK⟩
theorem guard_sound {R : Array Oper} {o : Oper} {K : St → Prop} {Q : Exit → Act → World → Prop} (hd : ∀ d, o.dst = some d → d < N) (hR : Rep N s a w σ β) (h : guardW P R o s K) :
    if Region.wanted o (yielded R a.tmps) then o.wp P a w (Then N s.st β σ w K) Q else Then N s.st β σ w K (a.put o.dst undef) w := by
  unfold guardW at h
  split at h
  · rename_i hg
    rw [if_pos (by simp [Region.wanted, hg])]
    exact execR_sound (fun hd h => exec_sound hd hR h) hd hR h
  · rename_i j want hg
    split at h
    · rename_i x hx
      have hy := yielded_bool hR hx
      by_cases e : x = want
      · rw [if_pos (by simp [Region.wanted, hg, hy, e])]
        exact execR_sound (fun hd h => exec_sound hd hR h) hd hR (h.1 e)
      · rw [if_neg (by simp [Region.wanted, hg, hy, e])]
        exact then_skip hd hR (h.2 (by cases x <;> cases want <;> simp_all))
    · rename_i hx
      have hy := yielded_undef hR hx
      rw [if_neg (by simp [Region.wanted, hg, hy])]
      exact then_skip hd hR h
    · exact h.elim
theorem rops_sound {R : Array Oper} {K : St → Prop} {S0 : Store} {β0 : Hs} {σ0 : Nat → Nat} {w0 : World} {Q : Exit → Act → World → Prop} (hQ : ∀ a w, Then N S0 β0 σ0 w0 K a w → Q .normal a w) :
    ∀ (n k : Nat), k + n = R.size → (∀ o ∈ R.toList, ∀ d, o.dst = some d → d < N) → ∀ (s : St) (a : Act) (w : World) (σ : Nat → Nat) (β : Hs), Rep N s a w σ β → Step S0 β0 σ0 w0 s.st β σ w → Keep S0 β0 s.st β →
      rops P R (R.toList.drop k) s K → wpOps P R Q (List.range' k n) a w
  | 0, k, hk, _, s, a, w, σ, β, hR, hst, hkp, h => by
    have : R.toList.drop k = [] := by apply List.drop_eq_nil_of_le; simp; omega
    rw [this] at h
    exact hQ a w ⟨s, σ, β, hR, hst, hkp, h⟩
  | n + 1, k, hk, hd, s, a, w, σ, β, hR, hst, hkp, h => by
    have hlt : k < R.toList.length := by simp; omega
    rw [List.drop_eq_getElem_cons hlt] at h
    have hg := guard_sound (Q := Q) (fun d e => hd _ (List.getElem_mem hlt) d e) hR h
    rw [List.range'_succ]
    have hRk : R[k]? = some R.toList[k] := by
      rw [Array.getElem?_eq_getElem (by omega)]; simp
    simp only [wpOps, hRk]
    have next : ∀ a' w', Then N s.st β σ w (fun s' => rops P R (R.toList.drop (k + 1)) s' K) a' w' → wpOps P R Q (List.range' (k + 1) n) a' w' := by
      rintro a' w' ⟨s', σ', β', hR', hst', hkp', hK'⟩
      exact rops_sound hQ n (k + 1) (by omega) hd s' a' w' σ' β' hR' (hst.trans hst') (hkp.trans hkp') hK'
    split
    · rename_i hw
      rw [if_pos hw] at hg
      exact .inl (Oper.wp_mono next hg)
    · rename_i hw
      rw [if_neg hw] at hg
      exact next _ _ hg
def tail1 {α : Type} (l : List α) : List α := l.drop 1
def AW (P : Program) (N : Nat) (c : Code) (Q : Exit → St → Prop) (s : St) : Prop :=
  ∀ (a : Act) (w : World) (σ : Nat → Nat) (β : Hs), Rep N s a w σ β →
    c.wp P (fun e a' w' => ∃ s' σ' β', Rep N s' a' w' σ' β' ∧ Step s.st β σ w s'.st β' σ' w' ∧ Keep (tail1 s.st) (tail1 β) (tail1 s'.st) (tail1 β') ∧ Q e s') a w
theorem AW.mono {c : Code} {Q Q' : Exit → St → Prop} (h : AW P N c Q s) (hq : ∀ e s, Q e s → Q' e s) : AW P N c Q' s := fun a w σ β hR =>
  wp_mono (h a w σ β hR) fun e a' w' ⟨s', σ', β', h1, h2, h3, h4⟩ => ⟨s', σ', β', h1, h2, h3, hq _ _ h4⟩
def thenK (K : St → Prop) (Q : Exit → St → Prop) : Exit → St → Prop
  | .normal, s => K s
  | e, s => Q e s
def inBlk (id : Nat) (Q : Exit → St → Prop) : Exit → St → Prop
  | .exit id', s => if id' = id then Q .normal s else Q (.exit id') s
  | e, s => Q e s
theorem aw_seq {x y : Code} {Q : Exit → St → Prop} (h : AW P N x (thenK (AW P N y Q) Q) s) : AW P N (.seq x y) Q s := by
  intro a w σ β hR
  refine wp_seq (wp_mono (h a w σ β hR) ?_)
  rintro e a' w' ⟨s', σ', β', h1, h2, h3, h4⟩
  cases e with
  | normal =>
    show y.wp P _ a' w'
    refine wp_mono (h4 a' w' σ' β' h1) ?_
    rintro e a'' w'' ⟨s'', σ'', β'', k1, k2, k3, k4⟩
    exact ⟨s'', σ'', β'', k1, h2.trans k2, h3.trans k3, k4⟩
  | _ => exact ⟨s', σ', β', h1, h2, h3, h4⟩
theorem aw_nil {c : Code} {e : Exit} {Q : Exit → St → Prop} (hc : ∀ {Q' : Exit → Act → World → Prop} {a : Act} {w : World}, Q' e a w → c.wp P Q' a w) (h : Q e s) : AW P N c Q s :=
  fun a w σ β hR => hc ⟨s, σ, β, hR, Step.of_grow (Grow.refl hR.S.live), Keep.refl _ _, h⟩
theorem aw_skip {Q : Exit → St → Prop} (h : Q .normal s) : AW P N .skip Q s := aw_nil wp_skip h
theorem aw_exit {id : Nat} {Q : Exit → St → Prop} (h : Q (.exit id) s) : AW P N (.exit id) Q s := aw_nil wp_exit h
theorem aw_ret {Q : Exit → St → Prop} (h : Q .ret s) : AW P N .ret Q s := aw_nil wp_ret h
theorem aw_cond {c : Operand} {x y : Code} {b : Bool} {Q : Exit → St → Prop} (hc : ev s.tm c = .c (.d (.b b))) (ht : b = true → AW P N x Q s) (hf : b = false → AW P N y Q s) : AW P N (.cond c x y) Q s := by
  intro a w σ β hR
  have hv := rep_ev hR.T c
  rw [hc] at hv
  obtain ⟨hv, _⟩ := hv
  generalize he : a.eval c = v at hv
  cases hv
  refine Go.wp_cond he ?_
  cases b with
  | true => exact ht rfl a w σ β hR
  | false => exact hf rfl a w σ β hR
theorem aw_block {id : Nat} {c : Code} {Q : Exit → St → Prop} (h : AW P N c (inBlk id Q) s) : AW P N (.block id c) Q s := by
  intro a w σ β hR
  refine wp_block (wp_mono (h a w σ β hR) ?_)
  rintro e a' w' ⟨s', σ', β', h1, h2, h3, h4⟩
  cases e with
  | exit id' =>
    show if id' = id then _ else _
    simp only [inBlk] at h4
    split
    · rename_i e; rw [if_pos e] at h4; exact ⟨s', σ', β', h1, h2, h3, h4⟩
    · rename_i e; rw [if_neg e] at h4; exact ⟨s', σ', β', h1, h2, h3, h4⟩
  | _ => exact ⟨s', σ', β', h1, h2, h3, h4⟩
theorem Keep.tail {S S' : Store} {β β' : Hs} (h : Keep S β S' β') : Keep (tail1 S) (tail1 β) (tail1 S') (tail1 β') := h.drop 1
theorem aw_region {id : Nat} {R : Array Oper} {Q : Exit → St → Prop} (hd : R.toList.all (fun o => match o.dst with | some d => decide (d < N) | none => true) = true) (h : rops P R R.toList s (Q .normal)) : AW P N (.region id R false) Q s := by
  intro a w σ β hR
  refine wp_region ?_
  rw [List.range_eq_range']
  refine rops_sound (S0 := s.st) (β0 := β) (σ0 := σ) (w0 := w) (K := Q .normal) (fun a' w' ht => ?_) R.size 0 (by omega) (fun o ho d e => ?_) s a w σ β hR (Step.of_grow (Grow.refl hR.S.live)) (Keep.refl _ _) h
  · obtain ⟨s', σ', β', h1, h2, h3, h4⟩ := ht
    exact ⟨s', σ', β', h1, h2, h3.tail, h4⟩
  · have := List.all_eq_true.1 hd o ho
    rw [e] at this
    simpa using this
theorem aw_loop {ι : Type} {c : Code} {Q : Exit → St → Prop} (I : ι → St → Prop) (μ : ι → Nat) (i0 : ι) (h0 : I i0 s)
    (round : ∀ i s, I i s → AW P N c (thenK (fun s' => ∃ j, μ j < μ i ∧ I j s') Q) s) : AW P N (.loop c) Q s := by
  intro a w σ β hR
  have key : ∀ (n : Nat) (i : ι) (s' : St) (a' : Act) (w' : World) (σ' : Nat → Nat) (β' : Hs), μ i < n → I i s' → Rep N s' a' w' σ' β' → Step s.st β σ w s'.st β' σ' w' → Keep (tail1 s.st) (tail1 β) (tail1 s'.st) (tail1 β') →
      Code.rounds P c (fun e a' w' => ∃ s' σ' β', Rep N s' a' w' σ' β' ∧ Step s.st β σ w s'.st β' σ' w' ∧ Keep (tail1 s.st) (tail1 β) (tail1 s'.st) (tail1 β') ∧ Q e s') n a' w' := by
    intro n
    induction n with
    | zero => intro i s' a' w' σ' β' h; omega
    | succ n ih =>
      intro i s' a' w' σ' β' hn hI hR' hst hkp
      refine wp_mono (round i s' hI a' w' σ' β' hR') ?_
      rintro e a'' w'' ⟨s'', σ'', β'', k1, k2, k3, k4⟩
      cases e with
      | normal =>
        obtain ⟨j, hj, hIj⟩ := k4
        exact ih j s'' a'' w'' σ'' β'' (by omega) hIj k1 (hst.trans k2) (hkp.trans k3)
      | _ => exact ⟨s'', σ'', β'', k1, hst.trans k2, hkp.trans k3, k4⟩
  exact wp_loop_rounds (μ i0 + 1) (key (μ i0 + 1) i0 s a w σ β (by omega) h0 hR (Step.of_grow (Grow.refl hR.S.live)) (Keep.refl _ _))
end
end Go.Ab

namespace Go.Ab
def argTm : List V → Nat → List (Nat × V)
  | [], _ => []
  | v :: vs, i => (i, v) :: argTm vs (i + 1)
def C.ret : C → Option C
  | .tsl (0, _) es => some (.d (.sl es))
  | c => c.down 1
def retComp (y : Bool × List C) : Option (Bool × List C) := (y.2.mapM C.ret).map fun cs => (y.1, cs)
def V.ret : V → Option V
  | .c x => (x.ret).map .c
  | .agg cs => (cs.mapM C.ret).map .agg
  | .tup xs => (xs.mapM retComp).map .tup
  | .any => some .any
def oneRes (P : Program) (s : St) : ResultVar → R
  | .tmp t => (True, look s.tm t)
  | .cell a t => loadV P s.st t (look s.tm a)
def compV : V → Option (Bool × List C)
  | .c x => some (false, [x])
  | .agg cs => some (true, cs)
  | _ => none
def allRes (P : Program) (s : St) : List ResultVar → Prop × Option (List (Bool × List C))
  | [] => (True, some [])
  | x :: xs => ((oneRes P s x).1 ∧ (allRes P s xs).1, (compV (oneRes P s x).2).bind fun y => (allRes P s xs).2.map fun ys => y :: ys)
def resV (P : Program) (rs : List ResultVar) (s : St) : R :=
  match rs with
  | [x] => oneRes P s x
  | xs => match (allRes P s xs).2 with
    | some ys => ((allRes P s xs).1, .tup ys)
    | none => no
def retQ (P : Program) (rs : List ResultVar) (post : V → Store → Prop) (e : Exit) (s : St) : Prop :=
  match e with
  | .normal | .ret => (resV P rs s).1 ∧ match (resV P rs s).2.ret with
    | some r => post r (tail1 s.st)
    | none => False
  | _ => False
section
variable {P : Program} {w w' : World} {σ σ' : Nat → Nat} {S : Store} {β β' : Hs} {N : Nat} {s : St} {a : Act}
theorem rep_upCs {cs : List C} {vs : List Value} (n : Nat) (h : RepCs w σ (S.drop n) (β.drop n) cs vs) : RepCs w σ S β (cs.map (C.up n)) vs :=
  ⟨by simpa using h.1, fun j x hx => by
    rw [List.getElem?_map] at hx
    cases hc : cs[j]? with
    | none => rw [hc] at hx; cases hx
    | some y =>
      rw [hc] at hx; cases hx
      obtain ⟨v, hv, hr, ho⟩ := h.2 j y hc
      exact ⟨v, hv, hr.up n, ho⟩⟩
theorem rep_upV {x : V} {v : Value} (n : Nat) (h : RepV w σ (S.drop n) (β.drop n) x v) : RepV w σ S β (x.up n) v := by
  cases x with
  | c x => exact ⟨h.1.up n, h.2⟩
  | agg cs => obtain ⟨ar, ha, hc⟩ := h; exact ⟨ar, ha, rep_upCs n hc⟩
  | tup xs =>
    obtain ⟨ar, ha, hl, h2⟩ := h
    refine ⟨ar, ha, by simpa using hl, fun j y hy => ?_⟩
    rw [List.getElem?_map] at hy
    cases hc : xs[j]? with
    | none => rw [hc] at hy; cases hy
    | some z =>
      rw [hc] at hy; cases hy
      obtain ⟨u, hu, h3⟩ := h2 j z hc
      refine ⟨u, hu, ?_⟩
      obtain ⟨b, cs⟩ := z
      cases b with
      | true => obtain ⟨a', e, hcs⟩ := h3; exact ⟨a', e, rep_upCs n hcs⟩
      | false => obtain ⟨x, e, hx, ho⟩ := h3; subst e; exact ⟨_, rfl, hx.up n, ho⟩
  | any => exact trivial
theorem rep_retC {c c' : C} {v : Value} (h : c.ret = some c') (hc : RepC w σ S β c v) : RepC w σ (S.drop 1) (β.drop 1) c' v := by
  unfold C.ret at h
  split at h
  · cases h; exact hc.1
  · exact rep_down h hc
theorem rep_retCs {xs ys : List C} {vs : List Value} (h : xs.mapM C.ret = some ys) (hc : RepCs w σ S β xs vs) : RepCs w σ (S.drop 1) (β.drop 1) ys vs := by
  induction xs generalizing ys vs with
  | nil => simp at h; subst h; exact ⟨hc.1, fun j d hd => by simp at hd⟩
  | cons x xs ih =>
    rw [List.mapM_cons] at h
    cases hd : C.ret x with
    | none => rw [hd] at h; simp at h
    | some y =>
      cases hm : xs.mapM C.ret with
      | none => rw [hd, hm] at h; simp at h
      | some ys' =>
        rw [hd, hm] at h
        simp at h
        subst h
        cases vs with
        | nil => have := hc.1; simp at this
        | cons v vs =>
          obtain ⟨l, r⟩ := ih hm (vs := vs) ⟨by have := hc.1; simpa using this, fun j y hy => hc.2 (j + 1) y hy⟩
          refine ⟨by simp [l], fun j e he => ?_⟩
          cases j with
          | zero =>
            simp at he; subst he
            obtain ⟨u, hu, hr, ho⟩ := hc.2 0 x rfl
            simp at hu; subst hu
            exact ⟨v, rfl, rep_retC hd hr, ho⟩
          | succ j => exact r j e he
theorem mapM_get {α γ : Type} (f : α → Option γ) : ∀ (xs : List α) (ys : List γ), xs.mapM f = some ys → ys.length = xs.length ∧ ∀ (j : Nat) (y : γ), ys[j]? = some y → ∃ x, xs[j]? = some x ∧ f x = some y
  | [], ys, h => by simp at h; subst h; exact ⟨rfl, fun j y hy => by simp at hy⟩
  | x :: xs, ys, h => by
    rw [List.mapM_cons] at h
    cases hd : f x with
    | none => rw [hd] at h; simp at h
    | some y =>
      cases hm : xs.mapM f with
      | none => rw [hd, hm] at h; simp at h
      | some ys' =>
        rw [hd, hm] at h
        simp at h
        subst h
        obtain ⟨l, r⟩ := mapM_get f xs ys' hm
        refine ⟨by simp [l], fun j e he => ?_⟩
        cases j with
        | zero => simp at he; subst he; exact ⟨x, rfl, hd⟩
        | succ j => exact r j e he
theorem rep_retV {x y : V} {v : Value} (h : x.ret = some y) (hx : RepV w σ S β x v) : RepV w σ (S.drop 1) (β.drop 1) y v := by
  cases x with
  | c x =>
    simp only [V.ret] at h
    cases hc : x.ret with
    | none => rw [hc] at h; cases h
    | some c => rw [hc] at h; cases h; exact ⟨rep_retC hc hx.1, hx.2⟩
  | agg cs =>
    simp only [V.ret] at h
    cases hc : cs.mapM C.ret with
    | none => rw [hc] at h; cases h
    | some c => rw [hc] at h; cases h; obtain ⟨ar, ha, h2⟩ := hx; exact ⟨ar, ha, rep_retCs hc h2⟩
  | tup xs =>
    simp only [V.ret] at h
    cases hc : xs.mapM retComp with
    | none => rw [hc] at h; cases h
    | some ys =>
      rw [hc] at h; cases h
      obtain ⟨ar, ha, hl, h2⟩ := hx
      obtain ⟨l, r⟩ := mapM_get _ _ _ hc
      refine ⟨ar, ha, by rw [l]; exact hl, fun j y hy => ?_⟩
      obtain ⟨z, hz, hzy⟩ := r j y hy
      obtain ⟨u, hu, h3⟩ := h2 j z hz
      refine ⟨u, hu, ?_⟩
      obtain ⟨b, cs⟩ := z
      simp only [retComp] at hzy
      cases hm : cs.mapM C.ret with
      | none => rw [hm] at hzy; cases hzy
      | some cs' =>
        rw [hm] at hzy; cases hzy
        cases b with
        | true => obtain ⟨a', e, hcs⟩ := h3; exact ⟨a', e, rep_retCs hm hcs⟩
        | false =>
          obtain ⟨x, e, hx, ho⟩ := h3
          subst e
          rw [List.mapM_cons] at hm
          cases hx' : C.ret x with
          | none => rw [hx'] at hm; simp at hm
          | some x' =>
            rw [hx'] at hm
            simp at hm
            exact ⟨x', hm.symm, rep_retC hx' hx, ho⟩
  | any => cases h; exact trivial
theorem one_res {x : ResultVar} (hR : Rep N s a w σ β) (h : (oneRes P s x).1) :
    ∃ v, (match x with | .tmp t => pure (a.tmps.getD t undef) | .cell b t => do loadVar t (← asAddr (a.tmps.getD b undef)) : Sem Value).run P w = .ok v w ∧ RepV w σ s.st β (oneRes P s x).2 v := by
  cases x with
  | tmp t => exact ⟨_, rfl, hR.T t⟩
  | cell b t =>
    obtain ⟨v, hrun, hv⟩ := here_load (P := P) (t := t) hR.S (hR.T b) h
    refine ⟨v, ?_, hv⟩
    show (do loadVar t (← asAddr (a.tmps.getD b undef)) : Sem Value).run P w = .ok v w
    generalize a.tmps.getD b undef = bv at hrun ⊢
    cases bv with
    | pointer o =>
      cases o with
      | none => simp [Instr.loadAt, Instr.sureAddr] at hrun
      | some ad => simpa [Instr.loadAt, Instr.sureAddr, asAddr] using hrun
    | _ => simp [Instr.loadAt, Instr.sureAddr] at hrun
theorem rep_comp {x : V} {y : Bool × List C} {v : Value} (h : compV x = some y) (hx : RepV w σ S β x v) : CompRep w σ S β y v := by
  cases x with
  | c x => cases h; exact ⟨x, rfl, hx.1, hx.2⟩
  | agg cs => cases h; exact hx
  | tup => cases h
  | any => cases h
theorem all_res (hR : Rep N s a w σ β) : ∀ (xs : List ResultVar) (ys : List (Bool × List C)), (allRes P s xs).1 → (allRes P s xs).2 = some ys →
    ∃ vs : List Value, (xs.mapM fun x => (match x with | .tmp t => pure (a.tmps.getD t undef) | .cell b t => do loadVar t (← asAddr (a.tmps.getD b undef)) : Sem Value)).run P w = .ok vs w ∧ ys.length = vs.length ∧
      ∀ (j : Nat) (y : Bool × List C), ys[j]? = some y → ∃ u, vs[j]? = some u ∧ CompRep w σ s.st β y u
  | [], ys, _, h => by simp only [allRes] at h; cases h; exact ⟨[], by simp, rfl, fun j y hy => by simp at hy⟩
  | x :: xs, ys, h1, h2 => by
    simp only [allRes] at h1 h2
    cases hc : compV (oneRes P s x).2 with
    | none => rw [hc] at h2; cases h2
    | some y =>
      cases hr : (allRes P s xs).2 with
      | none => rw [hc, hr] at h2; cases h2
      | some ys' =>
        rw [hc, hr] at h2; cases h2
        obtain ⟨v, hv, hrep⟩ := one_res (P := P) (x := x) hR h1.1
        obtain ⟨vs, hvs, hl, hj⟩ := all_res hR xs ys' h1.2 hr
        refine ⟨v :: vs, ?_, by simp [hl], fun j z hz => ?_⟩
        · rw [List.mapM_cons]
          simp only [Sem.run_bind, Result.andThen_ok, Sem.run_pure]
          rw [hv]
          simp only [Result.andThen_ok]
          rw [hvs]; rfl
        · cases j with
          | zero => simp at hz; subst hz; exact ⟨v, rfl, rep_comp hc hrep⟩
          | succ j => exact hj j z hz
theorem res_sound {fn : Func} (hR : Rep N s a w σ β) (h : (resV P fn.results.toList s).1) : ∃ v, (results fn a.tmps).run P w = .ok v w ∧ RepV w σ s.st β (resV P fn.results.toList s).2 v := by
  have hres : fn.results = fn.results.toList.toArray := by simp
  have hrun : ∀ vs : List Value, (fn.results.toList.mapM fun x => (match x with | .tmp t => pure (a.tmps.getD t undef) | .cell b t => do loadVar t (← asAddr (a.tmps.getD b undef)) : Sem Value)).run P w = .ok vs w →
      (results fn a.tmps).run P w = .ok (if h : vs.toArray.size = 1 then vs.toArray[0] else .tuple vs.toArray) w := by
    intro vs hvs
    unfold results
    rw [hres, List.mapM_toArray]
    simp only [Sem.run_bind, Sem.run_map]
    have : (fun x => (match x with | .tmp t => pure (a.tmps.getD t undef) | .cell b t => do loadVar t (← asAddr (a.tmps.getD b undef)) : Sem Value)) = fun (x : ResultVar) => (match x with | .tmp t => pure (a.tmps.getD t undef) | .cell b t => do loadVar t (← asAddr (a.tmps.getD b undef)) : Sem Value) := rfl
    erw [hvs]
    rfl
  unfold resV at h ⊢
  split at h
  · rename_i x hx
    rw [hx] at hrun
    obtain ⟨v, hv, hrep⟩ := one_res (P := P) (x := x) hR h
    refine ⟨v, ?_, hrep⟩
    have := hrun [v] (by
      rw [List.mapM_cons]
      simp only [Sem.run_bind, List.mapM_nil, Result.andThen_ok, Sem.run_pure]
      rw [hv]; rfl)
    simpa using this
  · rename_i hne
    split at h
    · rename_i ys hys
      obtain ⟨vs, hvs, hl, hj⟩ := all_res (P := P) hR _ ys h hys
      have h1 := hrun vs hvs
      have hlen : ¬ (vs.toArray.size = 1) := by
        intro e
        have hl2 : ys.length = fn.results.toList.length := by
          clear hj hvs h1 hrun hne e hl h
          generalize fn.results.toList = l at hys
          induction l generalizing ys with
          | nil => simp only [allRes] at hys; cases hys; rfl
          | cons x xs ih =>
            simp only [allRes] at hys
            cases hc : compV (oneRes P s x).2 with
            | none => rw [hc] at hys; cases hys
            | some y =>
              cases hr : (allRes P s xs).2 with
              | none => rw [hc, hr] at hys; cases hys
              | some ys' => rw [hc, hr] at hys; cases hys; simp [ih ys' hr]
        simp at e
        have : fn.results.toList.length = 1 := by omega
        obtain ⟨x, hx⟩ := List.length_eq_one_iff.1 this
        exact hne x hx
      rw [dif_neg hlen] at h1
      exact ⟨_, h1, vs.toArray, rfl, by simpa using hl, fun j y hy => by simpa using hj j y hy⟩
    · exact h.elim
theorem RepS.down1 {own : List Obj} {Ω : Store} {bo : List Value} {bΩ : Hs} (h : RepS w σ (own :: Ω) (bo :: bΩ)) : RepS w σ Ω bΩ := by
  refine ⟨fun k o ho => ?_, fun k k' o o' h1 h2 b e1 e2 e3 e4 e5 e6 => ?_, ⟨by have := h.shape.1; simpa using this, fun l fr hl => h.shape.2 (l + 1) fr hl⟩, h.live, h.glob⟩
  · obtain ⟨l, j⟩ := k
    obtain ⟨hv, hh, hr⟩ := h.obj (l + 1, j) o (by rw [getO_succ]; exact ho)
    rw [getO_succ] at hh
    exact ⟨hv, hh, hr⟩
  · obtain ⟨l, j⟩ := k
    obtain ⟨l', j'⟩ := k'
    have := h.apart (l + 1, j) (l' + 1, j') o o' h1 h2 b (by rw [getO_succ]; exact e1) (by rw [getO_succ]; exact e2) e3 (by rw [getO_succ]; exact e4) (by rw [getO_succ]; exact e5) e6
    cases this; rfl
theorem RepS.up1 (h : RepS w σ S β) : RepS w σ ([] :: S) ([] :: β) := by
  refine ⟨fun k o ho => ?_, fun k k' o o' h1 h2 b e1 e2 e3 e4 e5 e6 => ?_, ⟨by simp [h.shape.1], fun l fr hl => ?_⟩, h.live, h.glob⟩
  · obtain ⟨l, j⟩ := k
    cases l with
    | zero => rw [getO_zero] at ho; simp at ho
    | succ l =>
      rw [getO_succ] at ho
      obtain ⟨hv, hh, hr⟩ := h.obj (l, j) o ho
      exact ⟨hv, by rw [getO_succ]; exact hh, hr⟩
  · obtain ⟨l, j⟩ := k
    obtain ⟨l', j'⟩ := k'
    cases l with
    | zero => rw [getO_zero] at e1; simp at e1
    | succ l =>
      cases l' with
      | zero => rw [getO_zero] at e4; simp at e4
      | succ l' =>
        rw [getO_succ] at e1 e2 e4 e5
        have := h.apart (l, j) (l', j') o o' h1 h2 b e1 e2 e3 e4 e5 e6
        cases this; rfl
  · cases l with
    | zero => simp at hl; subst hl; exact ⟨[], rfl, rfl⟩
    | succ l => exact h.shape.2 l fr hl
theorem own_up1 {b : Nat} (h : Own ([] :: S) ([] :: β) b) : Own S β b := by
  obtain ⟨⟨l, j⟩, o, hv, h1, h2, h3⟩ := h
  cases l with
  | zero => rw [getO_zero] at h1; simp at h1
  | succ l => rw [getO_succ] at h1 h2; exact ⟨(l, j), o, hv, h1, h2, h3⟩
theorem own_down1 {own : List Obj} {Ω : Store} {bo : List Value} {bΩ : Hs} {b : Nat} (h : Own Ω bΩ b) : Own (own :: Ω) (bo :: bΩ) b := by
  obtain ⟨⟨l, j⟩, o, hv, h1, h2, h3⟩ := h
  exact ⟨(l + 1, j), o, hv, by rw [getO_succ]; exact h1, by rw [getO_succ]; exact h2, h3⟩
theorem look_argTm : ∀ (args : List V) (i t : Nat), look (argTm args i) t = if i ≤ t then (args[t - i]?).getD .any else .any
  | [], i, t => by simp [argTm, look]
  | v :: args, i, t => by
    rw [argTm, look, look_argTm args (i + 1) t]
    by_cases h1 : i = t
    · subst h1; simp
    · rw [if_neg h1]
      by_cases h2 : i + 1 ≤ t
      · rw [if_pos h2, if_pos (by omega)]
        rw [show t - i = (t - (i + 1)) + 1 from by omega]
        rfl
      · rw [if_neg h2, if_neg (by omega)]
theorem acall_enter {f : FuncId} {fn : Func} {c : Code} {args : List V} {post : V → Store → Prop} (hf : P.funcs[f]? = some fn) (hb : fn.body = some c) (hn : (fn.name == "runtime.NumGoroutine") = false)
    (hl : args.length ≤ fn.ntmps) (h : AW P fn.ntmps c (retQ P fn.results.toList post) ⟨argTm (args.map (V.up 1)) 0, [] :: S⟩) : ACall P f args S post := by
  refine ⟨⟨fn, hf, hn, by simp [hb]⟩, fun w σ β vs hS hargs => ?_⟩
  refine calls_of_wp hf hb ?_
  have hlen : vs.length = args.length := hargs.1.symm
  have hRep : Rep fn.ntmps ⟨argTm (args.map (V.up 1)) 0, [] :: S⟩ { tmps := vs.toArray ++ Array.replicate (fn.ntmps - vs.toArray.size) undef, defers := [] } w σ ([] :: β) := by
    refine ⟨by simp; omega, rfl, hS.up1, fun t => ?_⟩
    show RepV w σ ([] :: S) ([] :: β) (look (argTm (args.map (V.up 1)) 0) t) _
    rw [look_argTm, if_pos (Nat.zero_le _), Nat.sub_zero, List.getElem?_map]
    cases ha : args[t]? with
    | none => exact trivial
    | some x =>
      obtain ⟨v, hv, hr⟩ := hargs.2 t x ha
      have ht := (List.getElem?_eq_some_iff.1 hv).1
      have : (vs.toArray ++ Array.replicate (fn.ntmps - vs.toArray.size) undef).getD t undef = v := by
        rw [Array.getD_eq_getD_getElem?, Array.getElem?_append_left (by simpa using ht)]
        simp [hv]
      rw [this]
      exact rep_upV (S := [] :: S) (β := [] :: β) 1 hr
  refine wp_mono (h _ w σ ([] :: β) hRep) ?_
  rintro e a' w' ⟨s', σ', β', hR, hst, hkp, hq⟩
  have main : (resV P fn.results.toList s').1 ∧ (match (resV P fn.results.toList s').2.ret with | some r => post r (tail1 s'.st) | none => False) →
      a'.defers = [] ∧ ∃ v, (results fn a'.tmps).run P w' = .ok v w' ∧ ∃ v_1 r S' σ' β', Ending.returned v = Ending.returned v_1 ∧ RepS w' σ' S' β' ∧ Keep S β S' β' ∧ Step S β σ w S' β' σ' w' ∧ RepV w' σ' S' β' r v_1 ∧ post r S' := by
    rintro ⟨q1, q2⟩
    obtain ⟨v, hv, hrep⟩ := res_sound (fn := fn) hR q1
    split at q2
    · rename_i r hr
      obtain ⟨tm, st⟩ := s'
      have hrep2 := rep_retV hr hrep
      refine ⟨hR.defers, v, hv, v, r, tail1 st, σ', tail1 β', rfl, ?_, hkp, ?_, hrep2, q2⟩
      · cases st with
        | nil =>
          cases β' with
          | nil => exact hR.S
          | cons => have := hR.S.shape.1; simp at this
        | cons own Ω =>
          cases β' with
          | nil => have := hR.S.shape.1; simp at this
          | cons bo bΩ => exact hR.S.down1
      · refine ⟨hst.size, hst.os, hst.output, fun b hb ho => hst.far b hb (fun x => ho (own_up1 x)), hst.near, fun b hb => ?_⟩
        cases st with
        | nil => obtain ⟨k, o, hv, h1, _⟩ := hb; simp [tail1, getO_nil] at h1
        | cons own Ω =>
          cases β' with
          | nil => obtain ⟨k, o, hv, h1, h2, _⟩ := hb; simp [tail1, getO_nil] at h2
          | cons bo bΩ => exact (hst.own b (own_down1 hb)).imp own_up1 id
    · exact q2.elim
  cases e with
  | normal => exact main hq
  | ret => exact main hq
  | _ => exact hq.elim
end
end Go.Ab

namespace Go.Ab
def isD : Op → Bool
  | .alloc _ => true
  | .box _ _ => true
  | .store _ _ _ => true
  | .makeSlice _ _ _ => true
  | .makeMap _ none => true
  | .mapUpdate _ _ _ _ => true
  | .call { callee := .builtin .append, args := _, argTypes := _ } => true
  | _ => false
def isStore : Op → Bool
  | .store _ _ _ => true
  | .mapUpdate _ _ _ _ => true
  | _ => false
def isCallV : Op → Bool
  | .call { callee := .value _, args := _, argTypes := _ } => true
  | _ => false
abbrev Md := Op → Nat
def isDx (E : Md) (op : Op) : Bool := isD op || (decide (1 ≤ E op) && isCallV op)
def isSx (E : Md) (op : Op) : Bool := isStore op || (decide (2 ≤ E op) && isCallV op)
theorem isD_isDx {E : Md} {op : Op} (h : isD op = true) : isDx E op = true := by simp [isDx, h]
theorem isSx_isDx {E : Md} {op : Op} (h : isSx E op = true) : isDx E op = true := by
  unfold isSx isDx at *
  rw [Bool.or_eq_true] at h ⊢
  refine h.imp (fun hs => ?_) (fun h => ?_)
  · cases op <;> first | rfl | simp [isStore] at hs
  · rw [Bool.and_eq_true, decide_eq_true_eq] at h ⊢
    exact ⟨by omega, h.2⟩
def DS (S S' : Store) : Prop := ∀ k o, getO S k = some o → getO S' k = some o ∨ ((∃ z es, IsTok o z es) ∧ ∃ o' z es, getO S' k = some o' ∧ IsTok o' z es)
def callN (P : Program) (tm : List (Nat × V)) (c : Call) (r : V) : Prop :=
  match c.callee with
  | .value x => match ev tm x with
    | .c (.fn f caps) => PCall P f (c.args.toList.map (ev tm) ++ caps.map fun y => .c (.ptr y.1 y.2)) r
    | _ => False
  | _ => False
def dexecW (P : Program) (E : Md) (o : Oper) (s : St) (K : St → Prop) : Prop :=
  if isD o.op then execW P o s K else
  match o.op with
  | .call { callee := .value x, args, argTypes } => match E (.call { callee := .value x, args, argTypes }) with
    | 0 => ∃ r, callN P s.tm { callee := .value x, args, argTypes } r ∧ K (s.put o.dst r)
    | 1 => ∃ S' v, DS s.st S' ∧ execW P o s (fun t => t = St.put ⟨s.tm, S'⟩ o.dst v) ∧ K (St.put ⟨s.tm, S'⟩ o.dst v)
    | _ => ∃ S' v, execW P o s (fun t => t = St.put ⟨s.tm, S'⟩ o.dst v) ∧ K (St.put ⟨s.tm, S'⟩ o.dst v)
  | op => (nval P s.st s.tm op).1 ∧ K (s.put o.dst (nval P s.st s.tm op).2)
def dguardW (P : Program) (E : Md) (R : Array Oper) (o : Oper) (s : St) (K : St → Prop) : Prop :=
  match o.guard with
  | none => dexecW P E o s K
  | some (j, want) =>
    match (dstOf R j).map (look s.tm) with
    | some (.c (.d (.b x))) => (x = want → dexecW P E o s K) ∧ (x = !want → K (s.put o.dst (.tup [])))
    | some (.tup []) => K (s.put o.dst (.tup []))
    | _ => False
def dops (P : Program) (E : Md) (R : Array Oper) : List Oper → St → (St → Prop) → Prop
  | [], s, K => K s
  | o :: os, s, K => dguardW P E R o s fun s' => dops P E R os s' K
def NV (P : Program) (S : Store) (tm : List (Nat × V)) (op : Op) (v : V) : Prop :=
  (∃ c, op = .call c ∧ callN P tm c v) ∨ ((nval P S tm op).1 ∧ v = (nval P S tm op).2)
def gd (R : Array Oper) (o : Oper) (tm : List (Nat × V)) : Option Bool :=
  match o.guard with
  | none => some true
  | some (j, want) =>
    match (dstOf R j).map (look tm) with
    | some (.c (.d (.b x))) => some (x == want)
    | some (.tup []) => some false
    | _ => none
def TStep (P : Program) (E : Md) (R : Array Oper) (o : Oper) (s : St) (v : V) (s' : St) : Prop :=
  (gd R o s.tm = some false ∧ v = .tup [] ∧ s' = s.put o.dst v) ∨
  (gd R o s.tm = some true ∧ isDx E o.op = false ∧ NV P s.st s.tm o.op v ∧ s' = s.put o.dst v) ∨
  (gd R o s.tm = some true ∧ isDx E o.op = true ∧ execW P o s (fun t => t = s') ∧ s' = St.put ⟨s.tm, s'.st⟩ o.dst v ∧ (isD o.op = false → isSx E o.op = false → DS s.st s'.st))
section
variable {P : Program} {w w' : World} {σ σ' : Nat → Nat} {S S' : Store} {β β' : Hs} {N : Nat} {s : St} {a : Act}
theorem newObj_ex {dst : Option Nat} {o : Obj} {mk : Key → V} {K : St → Prop} (h : newObj s dst o mk K) : ∃ S' v, newObj s dst o mk (fun t => t = St.put ⟨s.tm, S'⟩ dst v) ∧ K (St.put ⟨s.tm, S'⟩ dst v) := by
  unfold newObj at h ⊢
  split at h
  · rename_i own Ω hst
    exact ⟨_, _, rfl, h⟩
  · exact h.elim
theorem appA_ex {b : Bool} {es x : List (List D)} {z : Nat} {dst : Option Nat} {K : St → Prop} (h : appA b es s dst z x K) : ∃ S' v, appA b es s dst z x (fun t => t = St.put ⟨s.tm, S'⟩ dst v) ∧ K (St.put ⟨s.tm, S'⟩ dst v) := by
  cases b with
  | false => exact newObj_ex (o := .tok z x) (mk := fun k => .c (.tsl k x)) h
  | true =>
    obtain ⟨S', v, h1, h2⟩ := newObj_ex (o := .mrow z x) (mk := fun k => .c (.msl k)) h.2
    exact ⟨S', v, ⟨h.1, h1⟩, h2⟩
theorem appF_ex {l : Option Nat} {es x : List (List D)} {z : Nat} {dst : Option Nat} {K : St → Prop} (h : appF l es s dst z x K) : ∃ S' v, appF l es s dst z x (fun t => t = St.put ⟨s.tm, S'⟩ dst v) ∧ K (St.put ⟨s.tm, S'⟩ dst v) := by
  cases l with
  | none => exact appA_ex h
  | some n =>
    cases es with
    | nil => exact ⟨s.st, _, rfl, h⟩
    | cons y es => exact newObj_ex (o := .tok z x) (mk := fun k => .c (.tsl k x)) h
theorem appL_ex {b : Bool} {n : Nat} {x : List (List D)} {z : Nat} {dst : Option Nat} {K : St → Prop} (h : appL b n s dst z x K) : ∃ S' v, appL b n s dst z x (fun t => t = St.put ⟨s.tm, S'⟩ dst v) ∧ K (St.put ⟨s.tm, S'⟩ dst v) := by
  cases b with
  | false => exact newObj_ex (o := .ltok n z x) (mk := fun k => .c (.tsl k x)) h
  | true => exact ⟨s.st, _, rfl, h⟩
theorem execD_ex {o : Oper} {K : St → Prop} (hD : isD o.op = true) (h : execW P o s K) : ∃ S' v, execW P o s (fun t => t = St.put ⟨s.tm, S'⟩ o.dst v) ∧ K (St.put ⟨s.tm, S'⟩ o.dst v) := by
  obtain ⟨dst, op, ty, pos, after, guard⟩ := o
  cases op with
  | alloc t =>
    simp only [execW, allocW] at h ⊢
    split at h
    · exact newObj_ex h
    · exact h.elim
  | box t x =>
    simp only [execW, boxW] at h ⊢
    split at h
    · exact newObj_ex h
    · exact h.elim
  | makeSlice t l c =>
    simp only [execW, makeW] at h ⊢
    split at h
    · split at h
      · obtain ⟨h1, h2, h3, h4, h5, h6⟩ := h
        obtain ⟨S', v, k1, k2⟩ := newObj_ex h6
        exact ⟨S', v, ⟨h1, h2, h3, h4, h5, k1⟩, k2⟩
      · exact h.elim
    · exact h.elim
  | store t x y =>
    simp only [execW, storeW] at h ⊢
    split at h
    · split at h
      · obtain ⟨h1, h2, h3, h4⟩ := h
        exact ⟨_, _, ⟨h1, h2, h3, rfl⟩, h4⟩
      · exact h.elim
    · split at h
      · obtain ⟨h1, h2, h3, h4, h5⟩ := h
        exact ⟨_, _, ⟨h1, h2, h3, h4, rfl⟩, h5⟩
      · exact h.elim
    · split at h
      · split at h
        · split at h
          · obtain ⟨h1, h2, h3, h4, h5, h6⟩ := h
            exact ⟨_, _, ⟨h1, h2, h3, h4, h5, rfl⟩, h6⟩
          · exact h.elim
        · exact h.elim
      · exact h.elim
    · exact h.elim
  | makeMap t r =>
    cases r with
    | none =>
      simp only [execW, mapNewW] at h ⊢
      exact newObj_ex h
    | some r => simp [isD] at hD
  | mapUpdate t x y z =>
    simp only [execW, mapPutW] at h ⊢
    split at h
    · split at h
      · exact ⟨_, _, rfl, h⟩
      · exact h.elim
    · exact h.elim
  | call c =>
    obtain ⟨cal, args, aty⟩ := c
    cases cal with
    | builtin b =>
      cases b with
      | append =>
        simp only [execW, callW] at h ⊢
        split at h
        · simp only [appendW] at h ⊢
          split at h
          · obtain ⟨h1, h2, h3, h4⟩ := h
            split at h4
            · split at h4
              · obtain ⟨k1, k2, k3, k4⟩ := h4
                exact ⟨_, _, ⟨h1, h2, h3, k1, k2, k3, rfl⟩, k4⟩
              · obtain ⟨k1, k2, k3, k4⟩ := h4
                exact ⟨_, _, ⟨h1, h2, h3, k1, k2, k3, rfl⟩, k4⟩
              · exact h4.elim
            · obtain ⟨k1, k2, k3⟩ := h4
              obtain ⟨S', v, l1, l2⟩ := appF_ex k3
              exact ⟨S', v, ⟨h1, h2, h3, k1, k2, l1⟩, l2⟩
            · obtain ⟨k1, k2, k3⟩ := h4
              obtain ⟨S', v, l1, l2⟩ := appL_ex k3
              exact ⟨S', v, ⟨h1, h2, h3, k1, k2, l1⟩, l2⟩
            · exact h4.elim
          · exact h.elim
        · exact h.elim
      | _ => simp [isD] at hD
    | _ => simp [isD] at hD
  | _ => simp [isD] at hD
theorem newObj_tm {tm tm' : List (Nat × V)} {dst : Option Nat} {o : Obj} {mk : Key → V} {v : V} (h : newObj ⟨tm, S⟩ dst o mk (fun t => t = St.put ⟨tm, S'⟩ dst v)) (hd : dst ≠ none) :
    newObj ⟨tm', S⟩ dst o mk (fun t => t = St.put ⟨tm', S'⟩ dst v) := by
  unfold newObj at h ⊢
  cases S with
  | nil => exact h
  | cons own Ω =>
    cases dst with
    | none => exact absurd rfl hd
    | some d =>
      simp only [St.put, St.mk.injEq, List.cons.injEq, Prod.mk.injEq, and_true, true_and] at h ⊢
      exact h
theorem newObj_tm0 {tm tm' : List (Nat × V)} {o : Obj} {mk : Key → V} {v : V} (h : newObj ⟨tm, S⟩ none o mk (fun t => t = St.put ⟨tm, S'⟩ none v)) :
    newObj ⟨tm', S⟩ none o mk (fun t => t = St.put ⟨tm', S'⟩ none v) := by
  unfold newObj at h ⊢
  cases S with
  | nil => exact h
  | cons own Ω =>
    simp only [St.put, St.mk.injEq, true_and] at h ⊢
    exact h
theorem newObj_tm' {tm tm' : List (Nat × V)} {dst : Option Nat} {o : Obj} {mk : Key → V} {v : V} (h : newObj ⟨tm, S⟩ dst o mk (fun t => t = St.put ⟨tm, S'⟩ dst v)) :
    newObj ⟨tm', S⟩ dst o mk (fun t => t = St.put ⟨tm', S'⟩ dst v) := by
  cases dst with
  | none => exact newObj_tm0 h
  | some d => exact newObj_tm h (by simp)
theorem put_tm {tm tm' : List (Nat × V)} {dst : Option Nat} {S1 S2 : Store} {v v' : V} (h : St.put ⟨tm, S1⟩ dst v = St.put ⟨tm, S2⟩ dst v') : St.put ⟨tm', S1⟩ dst v = St.put ⟨tm', S2⟩ dst v' := by
  cases dst with
  | none => simp only [St.put, St.mk.injEq, true_and] at h ⊢; exact h
  | some d => simp only [St.put, St.mk.injEq, List.cons.injEq, Prod.mk.injEq, and_true, true_and] at h ⊢; exact h
theorem appA_tm' {b : Bool} {es x : List (List D)} {z : Nat} {tm tm' : List (Nat × V)} {dst : Option Nat} {v : V} (h : appA b es ⟨tm, S⟩ dst z x (fun t => t = St.put ⟨tm, S'⟩ dst v)) :
    appA b es ⟨tm', S⟩ dst z x (fun t => t = St.put ⟨tm', S'⟩ dst v) := by
  cases b with
  | false => exact newObj_tm' (o := .tok z x) (mk := fun k => .c (.tsl k x)) h
  | true => exact ⟨h.1, newObj_tm' (o := .mrow z x) (mk := fun k => .c (.msl k)) h.2⟩
theorem appF_tm' {l : Option Nat} {es x : List (List D)} {z : Nat} {tm tm' : List (Nat × V)} {dst : Option Nat} {v : V} (h : appF l es ⟨tm, S⟩ dst z x (fun t => t = St.put ⟨tm, S'⟩ dst v)) :
    appF l es ⟨tm', S⟩ dst z x (fun t => t = St.put ⟨tm', S'⟩ dst v) := by
  cases l with
  | none => exact appA_tm' h
  | some n =>
    cases es with
    | nil => exact put_tm h
    | cons y es => exact newObj_tm' (o := .tok z x) (mk := fun k => .c (.tsl k x)) h
theorem appL_tm' {b : Bool} {n : Nat} {x : List (List D)} {z : Nat} {tm tm' : List (Nat × V)} {dst : Option Nat} {v : V} (h : appL b n ⟨tm, S⟩ dst z x (fun t => t = St.put ⟨tm, S'⟩ dst v)) :
    appL b n ⟨tm', S⟩ dst z x (fun t => t = St.put ⟨tm', S'⟩ dst v) := by
  cases b with
  | false => exact newObj_tm' (o := .ltok n z x) (mk := fun k => .c (.tsl k x)) h
  | true => exact put_tm h
theorem execD_tm {o : Oper} {tm tm' : List (Nat × V)} {v : V} (hD : isD o.op = true) (he : ∀ x ∈ o.op.operands, ev tm x = ev tm' x) (h : execW P o ⟨tm, S⟩ (fun t => t = St.put ⟨tm, S'⟩ o.dst v)) :
    execW P o ⟨tm', S⟩ (fun t => t = St.put ⟨tm', S'⟩ o.dst v) := by
  obtain ⟨dst, op, ty, pos, after, guard⟩ := o
  cases op with
  | alloc t =>
    simp only [execW, allocW] at h ⊢
    split at h
    · exact newObj_tm' h
    · exact h.elim
  | box t x =>
    have e1 := he x (by simp [Op.operands])
    simp only [execW, boxW, e1] at h ⊢
    split at h
    · exact newObj_tm' h
    · exact h.elim
  | makeSlice t l c =>
    have e1 := he l (by simp [Op.operands])
    have e2 := he c (by simp [Op.operands])
    simp only [execW, makeW, e1, e2] at h ⊢
    split at h
    · split at h
      · obtain ⟨h1, h2, h3, h4, h5, h6⟩ := h
        exact ⟨h1, h2, h3, h4, h5, newObj_tm' h6⟩
      · exact h.elim
    · exact h.elim
  | store t x y =>
    have e1 := he x (by simp [Op.operands])
    have e2 := he y (by simp [Op.operands])
    simp only [execW, storeW, e1, e2] at h ⊢
    split at h
    · split at h
      · obtain ⟨h1, h2, h3, h4⟩ := h
        exact ⟨h1, h2, h3, put_tm h4⟩
      · exact h.elim
    · split at h
      · obtain ⟨h1, h2, h3, h4, h5⟩ := h
        exact ⟨h1, h2, h3, h4, put_tm h5⟩
      · exact h.elim
    · split at h
      · split at h
        · split at h
          · obtain ⟨h1, h2, h3, h4, h5, h6⟩ := h
            exact ⟨h1, h2, h3, h4, h5, put_tm h6⟩
          · exact h.elim
        · exact h.elim
      · exact h.elim
    · exact h.elim
  | makeMap t r =>
    cases r with
    | none =>
      simp only [execW, mapNewW] at h ⊢
      exact newObj_tm' h
    | some r => simp [isD] at hD
  | mapUpdate t x y z =>
    have e1 := he x (by simp [Op.operands])
    have e2 := he y (by simp [Op.operands])
    have e3 := he z (by simp [Op.operands])
    simp only [execW, mapPutW, e1, e2, e3] at h ⊢
    split at h
    · split at h
      · exact put_tm h
      · exact h.elim
    · exact h.elim
  | call c =>
    obtain ⟨cal, args, aty⟩ := c
    cases cal with
    | builtin b =>
      cases b with
      | append =>
        simp only [execW, callW] at h ⊢
        split at h
        · rename_i x y t u hxy htu
          have hargs : args = #[x, y] := by rw [← Array.toArray_toList (xs := args), hxy]
          have e1 := he x (by simp [Op.operands, Call.operands, hargs])
          have e2 := he y (by simp [Op.operands, Call.operands, hargs])
          simp only [appendW, e1, e2] at h ⊢
          split at h
          · obtain ⟨h1, h2, h3, h4⟩ := h
            refine ⟨h1, h2, h3, ?_⟩
            split at h4
            · split at h4
              · obtain ⟨k1, k2, k3, k4⟩ := h4
                exact ⟨k1, k2, k3, put_tm k4⟩
              · obtain ⟨k1, k2, k3, k4⟩ := h4
                exact ⟨k1, k2, k3, put_tm k4⟩
              · exact h4.elim
            · obtain ⟨k1, k2, k3⟩ := h4
              exact ⟨k1, k2, appF_tm' k3⟩
            · obtain ⟨k1, k2, k3⟩ := h4
              exact ⟨k1, k2, appL_tm' k3⟩
            · exact h4.elim
          · exact h.elim
        · exact h.elim
      | _ => simp [isD] at hD
    | _ => simp [isD] at hD
  | _ => simp [isD] at hD
theorem CallW_tm {f : FuncId} {args : List V} {tm tm' : List (Nat × V)} {dst : Option Nat} {v : V} (h : CallW P f args ⟨tm, S⟩ dst (fun t => t = St.put ⟨tm, S'⟩ dst v)) : CallW P f args ⟨tm', S⟩ dst (fun t => t = St.put ⟨tm', S'⟩ dst v) := by
  rcases h with ⟨post, h1, h2⟩ | ⟨r, h1, h2⟩
  · exact .inl ⟨post, h1, fun r S'' hp => put_tm (h2 r S'' hp)⟩
  · exact .inr ⟨r, h1, put_tm h2⟩
theorem execX_tm {E : Md} {o : Oper} {tm tm' : List (Nat × V)} {v : V} (hD : isDx E o.op = true) (he : ∀ x ∈ o.op.operands, ev tm x = ev tm' x) (h : execW P o ⟨tm, S⟩ (fun t => t = St.put ⟨tm, S'⟩ o.dst v)) :
    execW P o ⟨tm', S⟩ (fun t => t = St.put ⟨tm', S'⟩ o.dst v) := by
  by_cases hd : isD o.op = true
  · exact execD_tm hd he h
  · have hc : isCallV o.op = true := by
      unfold isDx at hD
      rw [Bool.or_eq_true, Bool.and_eq_true] at hD
      rcases hD with h | h
      · exact absurd h hd
      · exact h.2
    obtain ⟨dst, op, ty, pos, after, guard⟩ := o
    cases op with
    | call c =>
      obtain ⟨cal, args, aty⟩ := c
      cases cal with
      | value x =>
        have h1 : args.toList.map (ev tm) = args.toList.map (ev tm') := List.map_congr_left fun y hy => he y (by simp [Op.operands, Call.operands]; exact .inr (by simpa using hy))
        have h2 : ev tm x = ev tm' x := he x (by simp [Op.operands, Call.operands])
        simp only [execW, callW, h1, h2] at h ⊢
        split at h
        · exact CallW_tm h
        · exact h.elim
      | _ => simp [isCallV] at hc
    | _ => simp [isCallV] at hc
theorem nval_tm {tm tm' : List (Nat × V)} {op : Op} (he : ∀ x ∈ op.operands, ev tm x = ev tm' x) : nval P S tm op = nval P S tm' op := by
  unfold nval nvalL
  split <;> try rfl
  · rw [he _ (by simp [Op.operands])]
  · rw [he _ (by simp [Op.operands])]
  · rename_i c x y; rw [he c (by simp [Op.operands]), he x (by simp [Op.operands]), he y (by simp [Op.operands])]
  · rw [he _ (by simp [Op.operands])]
  · rw [he _ (by simp [Op.operands])]
  · rw [he _ (by simp [Op.operands])]
  · rename_i t x i; rw [he x (by simp [Op.operands]), he i (by simp [Op.operands])]
  · rename_i t x i; rw [he x (by simp [Op.operands]), he i (by simp [Op.operands])]
  · rename_i op t x y _; rw [he x (by simp [Op.operands]), he y (by simp [Op.operands])]
  · rw [he _ (by simp [Op.operands])]
  · rw [he _ (by simp [Op.operands])]
  · rw [he _ (by simp [Op.operands])]
  · rename_i fn first caps
    have h1 : first.toList.map (ev tm) = first.toList.map (ev tm') := List.map_congr_left fun x hx => he x (by simp [Op.operands]; exact .inl (by simpa using hx))
    have h2 : caps.toList.map (ev tm) = caps.toList.map (ev tm') := List.map_congr_left fun x hx => he x (by simp [Op.operands]; exact .inr (by simpa using hx))
    rw [h1, h2]
  · rw [he _ (by simp [Op.operands])]
  · rename_i t x lo hi mx
    rw [he x (by simp [Op.operands])]
    have h1 : lo.map (ev tm) = lo.map (ev tm') := by
      cases lo with
      | none => rfl
      | some y => simp [he y (by simp [Op.operands])]
    have h2 : hi.map (ev tm) = hi.map (ev tm') := by
      cases hi with
      | none => rfl
      | some y => simp [he y (by simp [Op.operands])]
    have h3 : mx.map (ev tm) = mx.map (ev tm') := by
      cases mx with
      | none => rfl
      | some y => simp [he y (by simp [Op.operands])]
    rw [h1, h2, h3]
  · rename_i t parts
    have h1 : (parts.toList.map fun x => (x.1, ev tm x.2)) = parts.toList.map fun x => (x.1, ev tm' x.2) := List.map_congr_left fun x hx => by
      rw [he x.2 (by simp only [Op.operands, List.mem_toArray, List.mem_map]; exact ⟨x, hx, rfl⟩)]
    rw [h1]
  · rename_i t n parts
    have h1 : (parts.toList.map fun x => (x.1, ev tm x.2)) = parts.toList.map fun x => (x.1, ev tm' x.2) := List.map_congr_left fun x hx => by
      rw [he x.2 (by simp only [Op.operands, List.mem_toArray, List.mem_map]; exact ⟨x, hx, rfl⟩)]
    rw [h1]
  · rename_i t x i; rw [he x (by simp [Op.operands]), he i (by simp [Op.operands])]
  · rename_i args aty
    split
    · rename_i x t hx ht
      have hargs : args = #[x] := by rw [← Array.toArray_toList (xs := args), hx]
      rw [he x (by simp [Op.operands, Call.operands, hargs])]
    · rfl
  · rename_i args aty
    split
    · rename_i x y hx
      have hargs : args = #[x, y] := by rw [← Array.toArray_toList (xs := args), hx]
      rw [he x (by simp [Op.operands, Call.operands, hargs]), he y (by simp [Op.operands, Call.operands, hargs])]
    · rfl
  · rename_i args aty
    split
    · rename_i x y hx
      have hargs : args = #[x, y] := by rw [← Array.toArray_toList (xs := args), hx]
      rw [he x (by simp [Op.operands, Call.operands, hargs]), he y (by simp [Op.operands, Call.operands, hargs])]
    · rfl
theorem callN_tm {tm tm' : List (Nat × V)} {c : Call} {v : V} (he : ∀ x ∈ c.operands, ev tm x = ev tm' x) (h : callN P tm c v) : callN P tm' c v := by
  unfold callN at h ⊢
  obtain ⟨cal, args, aty⟩ := c
  cases cal with
  | value x =>
    simp only at h ⊢
    rw [← he x (by simp [Call.operands])]
    have h1 : args.toList.map (ev tm) = args.toList.map (ev tm') := List.map_congr_left fun y hy => he y (by simp [Call.operands]; exact .inr (by simpa using hy))
    rw [← h1]
    exact h
  | _ => exact h
def Readable : Obj → Prop
  | .box _ => True
  | .mrow _ _ => True
  | .mp _ => True
  | .xf _ => True
  | _ => False
def RefTo (v : V) (k : Key) : Prop := (∃ off, v = .c (.ptr k off)) ∨ (∃ i off, v = .c (.eptr k i off)) ∨ v = .c (.msl k) ∨ v = .c (.mp k) ∨ (∃ r p, v = .c (.xp k r p)) ∨ ∃ r p z i off, v = .c (.xq k r p z i off)
def Fix (S S' : Store) : Prop := ∀ k o, getO S k = some o → Readable o → getO S' k = some o
theorem Fix.refl (S : Store) : Fix S S := fun _ _ h _ => h
theorem no_false {q : Prop} (h : no.1) : q := h.elim
theorem nval_fix {l : Option Nat} {tm : List (Nat × V)} {op : Op} (h : (nvalL P l S tm op).1)
    (hf : ∀ x ∈ op.operands, ∀ k, RefTo (ev tm x) k →
      ∀ o, getO S k = some o → Readable o → getO S' k = some o) : nvalL P l S' tm op = nvalL P l S tm op := by
  unfold nvalL at h ⊢
  split at h <;> try rfl
  · rename_i t x
    have hf := hf x (by simp [Op.operands])
    unfold loadV at h ⊢
    split at h
    · rfl
    · split at h
      · rename_i hx; simp only [hx]
      · rename_i k off hx
        split at h
        · rename_i cs hk; rw [hf k (.inl ⟨off, hx⟩) _ hk trivial]
        · exact no_false h
      · rename_i k i off hx
        split at h
        · rename_i esz es hk; rw [hf k (.inr (.inl ⟨i, off, hx⟩)) _ hk trivial]
        · exact no_false h
      · rename_i k r p z i off hx
        split at h
        · rename_i rs hk; rw [hf k (.inr (.inr (.inr (.inr (.inr ⟨r, p, z, i, off, hx⟩))))) _ hk trivial]
        · exact no_false h
      · exact no_false h
  · rename_i t x f
    have hf := hf x (by simp [Op.operands])
    unfold fieldAddrV at h ⊢
    split at h
    · split at h
      · split at h
        · exact no_false h
        · rename_i fs hs _ fd hfd hne
          split at h
          · rename_i hx; simp [hs, hfd, hne, hx]
          · rename_i k off hx
            split at h
            · rename_i cs hk
              simp only [hs, hfd, hne, if_false, hx, hf k (.inl ⟨off, hx⟩) _ hk trivial, hk]
            · exact no_false h
          · rename_i k i off hx
            split at h
            · rename_i esz es hk
              simp only [hs, hfd, hne, if_false, hx, hf k (.inr (.inl ⟨i, off, hx⟩)) _ hk trivial, hk]
            · exact no_false h
          · rename_i k r p z i off hx
            split at h
            · rename_i rs hk
              simp only [hs, hfd, hne, if_false, hx, hf k (.inr (.inr (.inr (.inr (.inr ⟨r, p, z, i, off, hx⟩))))) _ hk trivial, hk]
            · exact no_false h
          · exact no_false h
      · exact no_false h
    · exact no_false h
  · rename_i t x i
    have hf := hf x (by simp [Op.operands])
    unfold indexAddrV at h ⊢
    split at h
    · rename_i e k n' n ht hx hi
      split at h
      · rename_i esz es hk
        simp only [ht, hx, hi, hf k (.inr (.inr (.inl hx))) _ hk trivial, hk]
      · exact no_false h
    · rename_i len e k off n' n ht hx hi
      split at h
      · rename_i cs hk
        simp only [ht, hx, hi, hf k (.inl ⟨off, hx⟩) _ hk trivial, hk]
      · exact no_false h
    · rename_i e k r p n' n ht hx hi
      split at h
      · rename_i rs hk
        simp only [ht, hx, hi, hf k (.inr (.inr (.inr (.inr (.inl ⟨r, p, hx⟩))))) _ hk trivial, hk]
      · exact no_false h
    · rename_i e y n' n hy hy2 ht hx hi
      simp only [ht, hx, hi]
    · exact no_false h
  · rename_i x
    have hf := hf x (by simp [Op.operands])
    unfold nilCheckV at h ⊢
    split at h
    · rename_i k off hx
      split at h
      · rename_i cs hk
        simp only [hx, hf k (.inl ⟨off, hx⟩) _ hk trivial, hk]
      · exact no_false h
    · rename_i hx; simp only [hx]
    · exact no_false h
  · rename_i t x i
    have hf := hf x (by simp [Op.operands])
    unfold lookupV at h ⊢
    split at h
    · rename_i kt et k l ht hxx hi
      split at h
      · rename_i m hk hkt hz
        simp only [ht, hxx, hi, hf k (.inr (.inr (.inr (.inl hxx)))) _ hk trivial, hk, hkt, hz]
      · exact no_false h
    · exact no_false h
  · rename_i args aty
    split at h
    · rename_i x t hx ht
      have hargs : args = #[x] := by rw [← Array.toArray_toList (xs := args), hx]
      have hf := hf x (by simp [Op.operands, Call.operands, hargs])
      unfold lenV at h ⊢
      split at h
      · rename_i l htt hxx; simp only [htt, hxx]
      · rename_i n e htt; simp only [htt]
      · rename_i e k htt hxx
        split at h
        · rename_i esz es hk
          simp only [htt, hxx, hf k (.inr (.inr (.inl hxx))) _ hk trivial, hk]
        · exact no_false h
      · rename_i e k r p htt hxx
        split at h
        · rename_i rs hk
          simp only [htt, hxx, hf k (.inr (.inr (.inr (.inr (.inl ⟨r, p, hxx⟩))))) _ hk trivial, hk]
        · exact no_false h
      · rename_i e y hy hy2 htt hxx
        simp only [htt, hxx]
      · exact no_false h
    · exact no_false h
end
end Go.Ab

namespace Go.Ab
def edgeMask (acc : List Nat) : List Edge → Nat
  | [] => 0
  | e :: es => (if Region.binds .any e then 2 ^ e.on ||| acc.getD e.on 0 else 0) ||| edgeMask acc es
def masks : List Oper → List Nat → List Nat
  | [], acc => acc
  | o :: os, acc => masks os (acc ++ [edgeMask acc o.after.toList])
def clash (E : Md) (R : Array Oper) (x y : Oper) : Bool := !(x.apart R y) || (isDx E x.op && isDx E y.op) || isSx E x.op || isSx E y.op
def drawOk (E : Md) (R : Array Oper) (N : Nat) : Bool :=
  (List.range R.size).all fun j =>
    (match R[j]? with
     | some o => o.after.toList.all (fun e => !Region.binds .any e || decide (e.on < j)) && (match o.dst with | some d => decide (d < N) | none => true)
     | none => true) &&
    (List.range j).all fun i =>
      match R[i]?, R[j]? with
      | some x, some y => ((masks R.toList []).getD j 0).testBit i || !(clash E R x y)
      | _, _ => true
def bitIn (R : Array Oper) (i j : Nat) : Bool := if i < j then ((masks R.toList []).getD j 0).testBit i else ((masks R.toList []).getD i 0).testBit j
def clash0 (E : Md) (R : Array Oper) (x y : Oper) : Bool := !(x.apart R y) || (isDx E x.op && isDx E y.op)
def settled (R : Array Oper) (i : Nat) : Operand → Bool
  | .tmp t => (List.range R.size).all fun n => decide (n < i) || !(dstOf R n == some t)
  | _ => true
def loneOk (R : Array Oper) (i : Nat) (x : Oper) (j : Nat) (y : Oper) : Bool := isCallV y.op || match x.op with
  | .store _ a _ => settled R i a && y.op.operands.toList.all (settled R j)
  | _ => false
def drawOkL (E : Md) (R : Array Oper) (N : Nat) : Bool :=
  (List.range R.size).all fun j =>
    (match R[j]? with
     | some o => o.after.toList.all (fun e => !Region.binds .any e || decide (e.on < j)) && (match o.dst with | some d => decide (d < N) | none => true)
     | none => true) &&
    (List.range j).all fun i =>
      match R[i]?, R[j]? with
      | some x, some y => ((masks R.toList []).getD j 0).testBit i || !(clash0 E R x y || (isSx E x.op && !(loneOk R i x j y)) || (isSx E y.op && !(loneOk R j y i x)))
      | _, _ => true
def awayB (v w : V) : Bool :=
  match w with
  | .c (.ptr k _) => (match v with | .c (.ptr k' _) => k'.2 != k.2 | .c (.eptr k' _ _) => k'.2 != k.2 | _ => false)
  | .c (.eptr k _ _) => (match v with | .c (.ptr k' _) => k'.2 != k.2 | .c (.eptr k' _ _) => k'.2 != k.2 | _ => false)
  | .c (.msl k) => (match v with | .c (.ptr k' _) => k'.2 != k.2 | .c (.eptr k' _ _) => k'.2 != k.2 | _ => false)
  | .c (.mp k) => (match v with | .c (.ptr k' _) => k'.2 != k.2 | .c (.eptr k' _ _) => k'.2 != k.2 | _ => false)
  | .c (.xp _ _ _) => false
  | .c (.xq _ _ _ _ _ _) => false
  | _ => true
def loneB (E : Md) (R : Array Oper) (tm : List (Nat × V)) : Bool :=
  (List.range R.size).all fun i => match R[i]? with
    | some x => !(isSx E x.op) || match x.op with
      | .store _ a _ => (List.range R.size).all fun j => match R[j]? with
        | some y => bitIn R i j || isDx E y.op || isCallV y.op || y.op.operands.toList.all (fun z => awayB (ev tm a) (ev tm z))
        | none => true
      | _ => true
    | none => true
def inOrder (R : Array Oper) (i : Nat) : Bool :=
  (List.range R.size).all fun j => decide (j = i) || (if j < i then ((masks R.toList []).getD i 0).testBit j else ((masks R.toList []).getD j 0).testBit i)
def callFn : Op → Option FuncId
  | .call { callee := .value (.func f), args := _, argTypes := _ } => some f
  | _ => none
def tryMd (R : Array Oper) (m : Nat) : Md := fun op => if (List.range R.size).all (fun i => match R[i]? with
    | some o => (callFn op != callFn o.op) || inOrder R i
    | none => true) then 2 else m
def isAlloc : Op → Bool
  | .alloc _ => true
  | _ => false
def pendOk (E : Md) (R : Array Oper) (p : Nat) : Bool := match R[p]? with
  | some o => isAlloc o.op && o.guard.isNone && o.dst.isSome && (List.range R.size).all fun j => match R[j]? with
    | some y => decide (j = p) || y.apart R o || (List.range p).all fun i => match R[i]? with
      | some x => !(isDx E x.op) || (decide (i < j) && ((masks R.toList []).getD j 0).testBit i)
      | none => true
    | none => true
  | none => true
def clashP (E : Md) (R : Array Oper) (p j : Nat) (x y : Oper) : Bool := !(x.apart R y) || (!(decide (j = p)) && ((isDx E x.op && isDx E y.op) || isSx E x.op || isSx E y.op))
def drawOkP (E : Md) (R : Array Oper) (N p : Nat) : Bool :=
  pendOk E R p && (List.range R.size).all fun j =>
    (match R[j]? with
     | some o => o.after.toList.all (fun e => !Region.binds .any e || decide (e.on < j)) && (match o.dst with | some d => decide (d < N) | none => true)
     | none => true) &&
    (List.range j).all fun i =>
      match R[i]?, R[j]? with
      | some x, some y => ((masks R.toList []).getD j 0).testBit i || !(clashP E R p j x y)
      | _, _ => true
def drawOkLP (E : Md) (R : Array Oper) (N p : Nat) : Bool :=
  pendOk E R p && (List.range R.size).all fun j =>
    (match R[j]? with
     | some o => o.after.toList.all (fun e => !Region.binds .any e || decide (e.on < j)) && (match o.dst with | some d => decide (d < N) | none => true)
     | none => true) &&
    (List.range j).all fun i =>
      match R[i]?, R[j]? with
      | some x, some y => ((masks R.toList []).getD j 0).testBit i || !(!(x.apart R y) || (!(decide (j = p)) && ((isDx E x.op && isDx E y.op) || (isSx E x.op && !(loneOk R i x j y)) || (isSx E y.op && !(loneOk R j y i x)))))
      | _, _ => true
def inOrderP (R : Array Oper) (p i : Nat) : Bool :=
  (List.range R.size).all fun j => decide (j = i) || decide (j = p) || (if j < i then ((masks R.toList []).getD i 0).testBit j else ((masks R.toList []).getD j 0).testBit i)
def tryMdP (R : Array Oper) (p : Nat) : Md := fun op => if (List.range R.size).all (fun i => match R[i]? with
    | some o => (callFn op != callFn o.op) || inOrderP R p i
    | none => true) then 2 else 0
def hasAlloc (R : Array Oper) (p : Nat) : Bool := match R[p]? with
  | some o => isAlloc o.op
  | none => false
def pOf (R : Array Oper) (N : Nat) : Option Nat := (List.range R.size).find? fun p => hasAlloc R p && drawOkP (tryMdP R p) R N p
def pOfL (R : Array Oper) (N : Nat) : Option Nat := (List.range R.size).find? fun p => hasAlloc R p && drawOkLP (tryMdP R p) R N p
def autoE (R : Array Oper) (N : Nat) : Md := if drawOk (tryMd R 1) R N then tryMd R 1 else match pOf R N with
  | some p => tryMdP R p
  | none => if drawOk (tryMd R 0) R N then tryMd R 0 else fun _ => 0
def drawAny (R : Array Oper) (N : Nat) : Bool := drawOk (autoE R N) R N || match pOf R N with
  | some p => drawOkP (autoE R N) R N p
  | none => false
def autoEL (R : Array Oper) (N : Nat) : Md := if drawOkL (tryMd R 1) R N then tryMd R 1 else match pOfL R N with
  | some p => tryMdP R p
  | none => if drawOkL (tryMd R 0) R N then tryMd R 0 else fun _ => 0
section
variable {P : Program} {E : Md} {w w' : World} {σ σ' : Nat → Nat} {S S' : Store} {β β' : Hs} {N : Nat} {s : St} {a : Act} {R : Array Oper}
theorem masks_old : ∀ (l : List Oper) (acc : List Nat) (i : Nat), i < acc.length → (masks l acc)[i]? = acc[i]?
  | [], acc, i, h => rfl
  | o :: os, acc, i, h => by rw [masks, masks_old os _ i (by simp; omega), List.getElem?_append_left h]
theorem masks_at : ∀ (l : List Oper) (acc : List Nat) (i : Nat) (o : Oper), l[i]? = some o →
    ∃ acc', (∀ j, j < acc.length + i → acc'[j]? = (masks l acc)[j]?) ∧ acc'.length = acc.length + i ∧ (masks l acc)[acc.length + i]? = some (edgeMask acc' o.after.toList)
  | [], acc, i, o, h => by simp at h
  | x :: os, acc, 0, o, h => by
    simp at h; subst h
    refine ⟨acc, fun j hj => ?_, by simp, ?_⟩
    · rw [masks, masks_old os _ j (by simp; omega), List.getElem?_append_left (by omega)]
    · rw [masks, Nat.add_zero, masks_old os _ _ (by simp), List.getElem?_append_right (Nat.le_refl _)]; simp
  | x :: os, acc, i + 1, o, h => by
    obtain ⟨acc', h1, h2, h3⟩ := masks_at os (acc ++ [edgeMask acc x.after.toList]) i o (by simpa using h)
    refine ⟨acc', fun j hj => ?_, by rw [h2]; simp; omega, ?_⟩
    · rw [masks]; exact h1 j (by simp; omega)
    · rw [masks, ← h3]; congr 1; simp; omega
theorem edgeMask_bit {acc : List Nat} {k : Nat} : ∀ (es : List Edge), (edgeMask acc es).testBit k = true → ∃ e ∈ es, Region.binds .any e = true ∧ (e.on = k ∨ (acc.getD e.on 0).testBit k = true)
  | [], h => by simp [edgeMask] at h
  | e :: es, h => by
    rw [edgeMask, Nat.testBit_or, Bool.or_eq_true] at h
    rcases h with h | h
    · by_cases hb : Region.binds .any e = true
      · rw [if_pos hb, Nat.testBit_or, Bool.or_eq_true] at h
        refine ⟨e, by simp, hb, ?_⟩
        rcases h with h | h
        · left
          rw [Nat.testBit_two_pow] at h
          simpa using h
        · exact .inr h
      · rw [if_neg hb] at h; simp at h
    · obtain ⟨e', he', h'⟩ := edgeMask_bit es h
      exact ⟨e', by simp [he'], h'⟩
theorem mask_done (E : Nat → Prop) (hE : ∀ i o e, R[i]? = some o → E i → e ∈ o.after → Region.binds .any e = true → E e.on) (hlt : ∀ i o e, R[i]? = some o → e ∈ o.after → Region.binds .any e = true → e.on < i) :
    ∀ (i : Nat) (o : Oper), R[i]? = some o → (∀ e ∈ o.after, Region.binds .any e = true → E e.on) → ∀ k, ((masks R.toList []).getD i 0).testBit k = true → E k := by
  intro i
  induction i using Nat.strongRecOn with
  | _ i ih =>
    intro o ho hed k hk
    obtain ⟨acc', h1, h2, h3⟩ := masks_at R.toList [] i o (by simpa using ho)
    simp only [List.length_nil, Nat.zero_add] at h1 h2 h3
    rw [List.getD_eq_getElem?_getD, h3] at hk
    obtain ⟨e, he, hb, hek⟩ := edgeMask_bit _ hk
    have he' : e ∈ o.after := by simpa using he
    rcases hek with rfl | hek
    · exact hed e he' hb
    · have hon := hlt i o e ho he' hb
      have hEon := hed e he' hb
      have hilt : i < R.size := (Array.getElem?_eq_some_iff.1 ho).1
      have hsome : R[e.on]? = some R[e.on] := Array.getElem?_eq_getElem (by omega)
      refine ih e.on hon _ hsome (fun e2 he2 hb2 => hE e.on _ e2 hsome hEon he2 hb2) k ?_
      rw [List.getD_eq_getElem?_getD, h1 e.on (by omega)] at hek
      rw [List.getD_eq_getElem?_getD]; exact hek
def lookE (R : Array Oper) (vs : Nat → V) (E : Nat → Bool) (base : List (Nat × V)) : Nat → Nat → V
  | 0, t => look base t
  | k + 1, t => if E k = true ∧ dstOf R k = some t then vs k else lookE R vs E base k t
theorem lookE_agree {vs : Nat → V} {E : Nat → Bool} {base : List (Nat × V)} {t i : Nat} : ∀ (n : Nat), (∀ j, j < n → dstOf R j = some t → (E j = true ↔ j < i)) →
    lookE R vs E base n t = lookE R vs (fun _ => true) base (min n i) t
  | 0, _ => by simp [lookE]
  | n + 1, h => by
    have ih := lookE_agree (vs := vs) (base := base) n (fun j hj hd => h j (by omega) hd)
    rw [lookE]
    by_cases hd : dstOf R n = some t
    · by_cases hE : E n = true
      · have hni := (h n (by omega) hd).1 hE
        rw [if_pos ⟨hE, hd⟩, show min (n + 1) i = n + 1 from by omega, lookE, if_pos ⟨rfl, hd⟩]
      · have hni : ¬ n < i := fun hn => hE ((h n (by omega) hd).2 hn)
        rw [if_neg (fun x => hE x.1), ih, show min (n + 1) i = min n i from by omega]
    · rw [if_neg (fun x => hd x.2), ih]
      by_cases hni : n < i
      · rw [show min (n + 1) i = n + 1 from by omega, show min n i = n from by omega, lookE, if_neg (fun x => hd x.2)]
      · rw [show min (n + 1) i = min n i from by omega]
theorem lookE_congr {vs : Nat → V} {E E' : Nat → Bool} {base : List (Nat × V)} {t : Nat} : ∀ (n : Nat), (∀ j, j < n → dstOf R j = some t → E j = E' j) → lookE R vs E base n t = lookE R vs E' base n t
  | 0, _ => rfl
  | n + 1, h => by
    rw [lookE, lookE, lookE_congr n (fun j hj hd => h j (by omega) hd)]
    by_cases hd : dstOf R n = some t
    · rw [h n (by omega) hd]
    · rw [if_neg (fun x => hd x.2), if_neg (fun x => hd x.2)]
theorem lookE_last {vs : Nat → V} {E : Nat → Bool} {base : List (Nat × V)} {t i : Nat} (hi : E i = true) (hd : dstOf R i = some t) : ∀ (n : Nat), i < n → (∀ j, j < n → i < j → dstOf R j = some t → E j = false) → lookE R vs E base n t = vs i
  | 0, h, _ => by omega
  | n + 1, h, hj => by
    rw [lookE]
    by_cases hin : i = n
    · subst hin; rw [if_pos ⟨hi, hd⟩]
    · have : ¬ (E n = true ∧ dstOf R n = some t) := fun x => by
        have := hj n (by omega) (by omega) x.2
        rw [this] at x; simp at x
      rw [if_neg this]
      exact lookE_last hi hd n (by omega) (fun j hjn hij hdj => hj j (by omega) hij hdj)
theorem dguard_step {o : Oper} {s : St} {K : St → Prop} (h : dguardW P E R o s K) : ∃ v s', TStep P E R o s v s' ∧ K s' := by
  have hN : ∀ (hg : gd R o s.tm = some true), dexecW P E o s K → ∃ v s', TStep P E R o s v s' ∧ K s' := by
    intro hg hx
    unfold dexecW at hx
    by_cases hD : isD o.op = true
    · rw [if_pos hD] at hx
      obtain ⟨S', v, h1, h2⟩ := execD_ex hD hx
      exact ⟨v, _, .inr (.inr ⟨hg, isD_isDx hD, h1, by rw [put_st], fun h => by rw [hD] at h; cases h⟩), h2⟩
    · rw [if_neg hD] at hx
      have hD' : isD o.op = false := by simpa using hD
      split at hx
      · rename_i x args aty hop
        have hcv : isCallV o.op = true := by rw [hop]; rfl
        rw [← hop] at hx
        split at hx
        · rename_i hE
          obtain ⟨r, h1, h2⟩ := hx
          exact ⟨r, _, .inr (.inl ⟨hg, by unfold isDx; rw [hD', hE]; rfl, .inl ⟨_, hop, h1⟩, rfl⟩), h2⟩
        · rename_i hE
          obtain ⟨S', v, h0, h1, h2⟩ := hx
          exact ⟨v, _, .inr (.inr ⟨hg, by unfold isDx; rw [hE, hcv]; simp, h1, by rw [put_st], fun _ _ => by rw [put_st]; exact h0⟩), h2⟩
        · rename_i hE0 hE1
          obtain ⟨S', v, h1, h2⟩ := hx
          have h3 : 2 ≤ E o.op := by
            rcases Nat.lt_or_ge (E o.op) 2 with h | h
            · exfalso
              have : E o.op = 0 ∨ E o.op = 1 := by omega
              exact this.elim hE0 hE1
            · exact h
          exact ⟨v, _, .inr (.inr ⟨hg, by unfold isDx; rw [hcv, Bool.and_true, Bool.or_eq_true, decide_eq_true_eq]; exact .inr (by omega), h1, by rw [put_st], fun _ h => by
            unfold isSx at h
            rw [hcv, Bool.and_true, Bool.or_eq_false_iff, decide_eq_false_iff_not] at h
            exact absurd h3 h.2⟩), h2⟩
      · rename_i hne
        refine ⟨_, _, .inr (.inl ⟨hg, ?_, .inr ⟨hx.1, rfl⟩, rfl⟩), hx.2⟩
        have : isCallV o.op = false := by
          cases hc : isCallV o.op with
          | false => rfl
          | true =>
            exfalso
            unfold isCallV at hc
            split at hc
            · rename_i x a b ho; exact hne _ _ _ ho
            · cases hc
        unfold isDx; rw [hD', this]; simp
  unfold dguardW at h
  split at h
  · rename_i hg; exact hN (by simp only [gd, hg]) h
  · rename_i j want hg
    split at h
    · rename_i x hx
      by_cases e : x = want
      · exact hN (by simp only [gd, hg, hx, e, beq_self_eq_true]) (h.1 e)
      · exact ⟨.tup [], _, .inl ⟨by simp only [gd, hg, hx]; simp [e], rfl, rfl⟩, h.2 (by cases x <;> cases want <;> simp_all)⟩
    · rename_i hx
      exact ⟨.tup [], _, .inl ⟨by simp only [gd, hg, hx], rfl, rfl⟩, h⟩
    · exact h.elim
theorem dops_runF {F : Oper → St → St → Prop} {D : List Oper → St → Prop} {K : St → Prop} (hnil : ∀ s, D [] s → K s) (hcons : ∀ o os s, D (o :: os) s → ∃ v s', TStep P E R o s v s' ∧ F o s s' ∧ D os s') : ∀ (n k : Nat), k + n = R.size → ∀ s, D (R.toList.drop k) s →
    ∃ (st : Nat → St) (vs : Nat → V), st k = s ∧ K (st R.size) ∧ ∀ i, k ≤ i → i < R.size → ∃ o, R[i]? = some o ∧ TStep P E R o (st i) (vs i) (st (i + 1)) ∧ F o (st i) (st (i + 1))
  | 0, k, hk, s, h => by
    have : R.toList.drop k = [] := by apply List.drop_eq_nil_of_le; simp; omega
    rw [this] at h
    exact ⟨fun _ => s, fun _ => .any, rfl, hnil s h, fun i h1 h2 => by omega⟩
  | n + 1, k, hk, s, h => by
    have hlt : k < R.toList.length := by simp; omega
    rw [List.drop_eq_getElem_cons hlt] at h
    have hRk : R[k]? = some R.toList[k] := by
      rw [Array.getElem?_eq_getElem (by omega)]; simp
    obtain ⟨v, s', ht, hf, hd⟩ := hcons _ _ s h
    obtain ⟨st, vs, h1, h2, h3⟩ := dops_runF hnil hcons n (k + 1) (by omega) s' hd
    refine ⟨fun i => if i = k then s else st i, fun i => if i = k then v else vs i, by simp, ?_, fun i hi1 hi2 => ?_⟩
    · have : R.size ≠ k := by omega
      simp only [if_neg this]; exact h2
    · by_cases e : i = k
      · subst e
        refine ⟨_, hRk, ?_⟩
        simp only [if_true]
        have : i + 1 ≠ i := by omega
        simp only [if_neg this, h1]
        exact ⟨ht, hf⟩
      · obtain ⟨o, ho, ht'⟩ := h3 i (by omega) hi2
        refine ⟨o, ho, ?_⟩
        have : i + 1 ≠ k := by omega
        simp only [if_neg e, if_neg this]
        exact ht'
theorem dops_run {K : St → Prop} (n k : Nat) (hk : k + n = R.size) (s : St) (h : dops P E R (R.toList.drop k) s K) :
    ∃ (st : Nat → St) (vs : Nat → V), st k = s ∧ K (st R.size) ∧ ∀ i, k ≤ i → i < R.size → ∃ o, R[i]? = some o ∧ TStep P E R o (st i) (vs i) (st (i + 1)) := by
  obtain ⟨st, vs, h1, h2, h3⟩ := dops_runF (F := fun _ _ _ => True) (D := fun os s => dops P E R os s K) (fun _ h => h) (fun o os s h => by
    obtain ⟨v, s', a, b⟩ := dguard_step h
    exact ⟨v, s', a, trivial, b⟩) n k hk s h
  exact ⟨st, vs, h1, h2, fun i a b => by
    obtain ⟨o, c, d, _⟩ := h3 i a b
    exact ⟨o, c, d⟩⟩
theorem tstep_tm {o : Oper} {s s' : St} {v : V} (h : TStep P E R o s v s') : s' = St.put ⟨s.tm, s'.st⟩ o.dst v := by
  rcases h with ⟨_, _, h⟩ | ⟨_, _, _, h⟩ | ⟨_, _, _, h, _⟩
  · rw [h]; cases o.dst <;> rfl
  · rw [h]; cases o.dst <;> rfl
  · exact h
theorem tstep_st {o : Oper} {s s' : St} {v : V} (h : TStep P E R o s v s') (hD : isDx E o.op = false) : s'.st = s.st := by
  rcases h with ⟨_, _, h⟩ | ⟨_, _, _, h⟩ | ⟨_, h, _, _⟩
  · rw [h]; cases o.dst <;> rfl
  · rw [h]; cases o.dst <;> rfl
  · rw [hD] at h; cases h
theorem text_look {st : Nat → St} {vs : Nat → V} (h : ∀ i, i < R.size → ∃ o, R[i]? = some o ∧ TStep P E R o (st i) (vs i) (st (i + 1))) (t : Nat) : ∀ i, i ≤ R.size → look (st i).tm t = lookE R vs (fun _ => true) (st 0).tm i t
  | 0, _ => rfl
  | i + 1, hi => by
    obtain ⟨o, ho, ht⟩ := h i (by omega)
    have e := tstep_tm ht
    have ih := text_look h t i (by omega)
    rw [lookE, ← ih]
    have hdst : dstOf R i = o.dst := by simp [dstOf, ho]
    rw [hdst, e]
    cases hd : o.dst with
    | none => simp [St.put]
    | some d =>
      simp only [St.put, look, true_and, Option.some.injEq]
theorem DS.refl (S : Store) : DS S S := fun _ _ h => .inl h
theorem DS.trans {S1 S2 S3 : Store} (h : DS S1 S2) (k : DS S2 S3) : DS S1 S3 := by
  intro x o hx
  rcases h x o hx with h1 | ⟨h1, o', z, es, h2, h2'⟩
  · exact k x o h1
  · rcases k x _ h2 with h3 | ⟨_, h3⟩
    · exact .inr ⟨h1, o', z, es, h3, h2'⟩
    · exact .inr ⟨h1, h3⟩
theorem DS.push {own : List Obj} {Ω : Store} {o : Obj} : DS (own :: Ω) ((own ++ [o]) :: Ω) := fun k o' h => .inl (getO_push _ _ _ _ _ h)
theorem newObj_ds {dst : Option Nat} {o : Obj} {mk : Key → V} {s' : St} (h : newObj s dst o mk (fun t => t = s')) : DS s.st s'.st := by
  unfold newObj at h
  split at h
  · rename_i own Ω hst
    rw [← h, put_st, hst]
    exact DS.push
  · exact h.elim
theorem appA_ds {b : Bool} {es x : List (List D)} {z : Nat} {dst : Option Nat} {s' : St} (h : appA b es s dst z x (fun t => t = s')) : DS s.st s'.st := by
  cases b with
  | false => exact newObj_ds (o := .tok z x) (mk := fun k => .c (.tsl k x)) h
  | true => exact newObj_ds (o := .mrow z x) (mk := fun k => .c (.msl k)) h.2
theorem appF_ds {l : Option Nat} {es x : List (List D)} {z : Nat} {dst : Option Nat} {s' : St} (h : appF l es s dst z x (fun t => t = s')) : DS s.st s'.st := by
  cases l with
  | none => exact appA_ds h
  | some n =>
    cases es with
    | nil =>
      have h : St.put ⟨s.tm, s.st⟩ dst (.c (.d (.ol n x))) = s' := h
      rw [← h, put_st]
      exact DS.refl _
    | cons y es => exact newObj_ds (o := .tok z x) (mk := fun k => .c (.tsl k x)) h
theorem appL_ds {b : Bool} {n : Nat} {x : List (List D)} {z : Nat} {dst : Option Nat} {s' : St} (h : appL b n s dst z x (fun t => t = s')) : DS s.st s'.st := by
  cases b with
  | false => exact newObj_ds (o := .ltok n z x) (mk := fun k => .c (.tsl k x)) h
  | true =>
    have h : St.put ⟨s.tm, s.st⟩ dst (.c (.d (.ol n x))) = s' := h
    rw [← h, put_st]
    exact DS.refl _
theorem exec_ds0 {o : Oper} {s s' : St} (hD : isD o.op = true) (hs : isStore o.op = false) (h : execW P o s (fun t => t = s')) : DS s.st s'.st := by
  obtain ⟨dst, op, ty, pos, after, guard⟩ := o
  cases op with
  | alloc t =>
    simp only [execW, allocW] at h
    split at h
    · exact newObj_ds h
    · exact h.elim
  | box t x =>
    simp only [execW, boxW] at h
    split at h
    · exact newObj_ds h
    · exact h.elim
  | makeSlice t l c =>
    simp only [execW, makeW] at h
    split at h
    · split at h
      · exact newObj_ds h.2.2.2.2.2
      · exact h.elim
    · exact h.elim
  | store t x y => simp [isStore] at hs
  | mapUpdate t x y z => simp [isStore] at hs
  | makeMap t r =>
    cases r with
    | none =>
      simp only [execW, mapNewW] at h
      exact newObj_ds h
    | some r => simp [isD] at hD
  | call c =>
    obtain ⟨cal, args, aty⟩ := c
    cases cal with
    | builtin b =>
      cases b with
      | append =>
        simp only [execW, callW] at h
        split at h
        · simp only [appendW] at h
          split at h
          · obtain ⟨h1, h2, h3, h4⟩ := h
            split at h4
            · rename_i k es hex
              split at h4
              · rename_i z es' hk
                obtain ⟨k1, k2, k3, k4⟩ := h4
                rw [← k4, put_st]
                intro k' o' ho'
                by_cases e : k' = k
                · subst e
                  rw [hk] at ho'; cases ho'
                  exact .inr ⟨⟨_, _, .inl rfl⟩, _, _, _, getO_setO_eq _ _ _ _ hk, .inl rfl⟩
                · exact .inl ((getO_setO_ne _ _ _ _ (Ne.symm e)).trans ho')
              · rename_i n z es' hk
                obtain ⟨k1, k2, k3, k4⟩ := h4
                rw [← k4, put_st]
                intro k' o' ho'
                by_cases e : k' = k
                · subst e
                  rw [hk] at ho'; cases ho'
                  exact .inr ⟨⟨_, _, .inr ⟨_, rfl⟩⟩, _, _, _, getO_setO_eq _ _ _ _ hk, .inr ⟨_, rfl⟩⟩
                · exact .inl ((getO_setO_ne _ _ _ _ (Ne.symm e)).trans ho')
              · exact h4.elim
            · exact appF_ds h4.2.2
            · exact appL_ds h4.2.2
            · exact h4.elim
          · exact h.elim
        · exact h.elim
      | _ => simp [isD] at hD
    | _ => simp [isD] at hD
  | _ => simp [isD] at hD
theorem tstep_ds {o : Oper} {s s' : St} {v : V} (h : TStep P E R o s v s') (hs : isSx E o.op = false) : DS s.st s'.st := by
  rcases h with ⟨_, _, h⟩ | ⟨_, _, _, h⟩ | ⟨_, hD, h, _, hc⟩
  · rw [h]; cases o.dst <;> exact DS.refl _
  · rw [h]; cases o.dst <;> exact DS.refl _
  · cases hd : isD o.op with
    | true => exact exec_ds0 hd (by unfold isSx at hs; rw [Bool.or_eq_false_iff] at hs; exact hs.1) h
    | false => exact hc hd hs
theorem st_same {st : Nat → St} {vs : Nat → V} (h : ∀ i, i < R.size → ∃ o, R[i]? = some o ∧ TStep P E R o (st i) (vs i) (st (i + 1))) {i : Nat} : ∀ (m : Nat), i + m ≤ R.size → (∀ j o, i ≤ j → j < i + m → R[j]? = some o → isDx E o.op = false) → (st (i + m)).st = (st i).st
  | 0, _, _ => rfl
  | m + 1, hm, hj => by
    obtain ⟨o, ho, ht⟩ := h (i + m) (by omega)
    rw [show i + (m + 1) = i + m + 1 from rfl, tstep_st ht (hj _ o (by omega) (by omega) ho)]
    exact st_same h m (by omega) (fun j o h1 h2 h3 => hj j o h1 (by omega) h3)
def KS (k : Key) (S S' : Store) : Prop := ∀ o, getO S k = some o → getO S' k = some o ∨ ((∃ z es, IsTok o z es) ∧ ∃ o' z es, getO S' k = some o' ∧ IsTok o' z es)
theorem KS.trans {k : Key} {S1 S2 S3 : Store} (h : KS k S1 S2) (h' : KS k S2 S3) : KS k S1 S3 := by
  intro o hx
  rcases h o hx with h1 | ⟨h1, o', z, es, h2, h2'⟩
  · exact h' o h1
  · rcases h' _ h2 with h3 | ⟨_, h3⟩
    · exact .inr ⟨h1, o', z, es, h3, h2'⟩
    · exact .inr ⟨h1, h3⟩
theorem st_ks {st : Nat → St} {vs : Nat → V} (h : ∀ i, i < R.size → ∃ o, R[i]? = some o ∧ TStep P E R o (st i) (vs i) (st (i + 1))) {i : Nat} {k : Key} : ∀ (m : Nat), i + m ≤ R.size →
    (∀ j o, i ≤ j → j < i + m → R[j]? = some o → isSx E o.op = false ∨ getO (st (j + 1)).st k = getO (st j).st k) → KS k (st i).st (st (i + m)).st
  | 0, _, _ => fun _ hx => .inl hx
  | m + 1, hm, hj => by
    obtain ⟨o, ho, ht⟩ := h (i + m) (by omega)
    refine (st_ks h m (by omega) (fun j o h1 h2 h3 => hj j o h1 (by omega) h3)).trans ?_
    rcases hj _ o (by omega) (by omega) ho with hs | hs
    · exact tstep_ds ht hs k
    · intro x hx
      exact .inl (hs.trans hx)
theorem cnt_lt (p q : Nat → Bool) : ∀ (l : List Nat) (i : Nat), (∀ x, q x = true → p x = true) → i ∈ l → p i = true → q i = false → l.countP q < l.countP p
  | [], _, _, h, _, _ => by simp at h
  | x :: l, i, h, hi, hp, hq => by
    rw [List.countP_cons, List.countP_cons]
    have hle : l.countP q ≤ l.countP p := List.countP_mono_left (fun y _ hy => h y hy)
    rcases List.mem_cons.1 hi with rfl | hi
    · rw [hp, hq]; simp; omega
    · have ih := cnt_lt p q l i h hi hp hq
      by_cases hx : q x = true
      · rw [hx, h x hx]; simp; exact ih
      · have : q x = false := by simpa using hx
        rw [this]; simp
        split <;> omega
end
end Go.Ab

namespace Go.Ab
section
variable {P : Program} {E : Md} {N : Nat} {R : Array Oper}
def Pend (E : Md) (R : Array Oper) (p : Nat) (listed : Array Bool) : Prop := listed.getD p false = true ∧ p < R.size ∧ ∃ j x, j < p ∧ R[j]? = some x ∧ isDx E x.op = true ∧ listed.getD j false = false
def Raw (P : Program) (R : Array Oper) (p : Nat) (w0 w : World) (σ : Nat → Nat) (S : Store) (β : Hs) (v : Value) : Prop :=
  ∃ b c ty, v = .pointer (some ⟨b, 0, none⟩) ∧ w.heap[b]? = some (.cells c ty (0, 0)) ∧ σ b = 0 ∧ w0.heap.size ≤ b ∧ ¬ Own S β b ∧
    ∀ o t zs, R[p]? = some o → o.op = .alloc t → zeroCs P t = some zs → ∀ w σ S β, RepCs w σ S β zs c.toList
open Classical in
noncomputable def lookP (E : Md) (R : Array Oper) (p : Nat) (vs : Nat → V) (listed : Array Bool) (base : List (Nat × V)) (t : Nat) : V :=
  if Pend E R p listed ∧ dstOf R p = some t then .any else lookE R vs (fun i => listed.getD i false) base R.size t
structure Mid (P : Program) (N : Nat) (E : Md) (R : Array Oper) (p : Nat) (st : Nat → St) (vs : Nat → V) (β0 : Hs) (σ0 : Nat → Nat) (w0 : World) (listed : Array Bool) (a : Act) (w : World) : Prop where
  size : listed.size = R.size
  closed : ∀ i o e, R[i]? = some o → listed.getD i false = true → e ∈ o.after → Region.binds .any e = true → listed.getD e.on false = true
  rep : ∃ m, m ≤ R.size ∧ (∀ i o, R[i]? = some o → isDx E o.op = true → (i = p → ¬ Pend E R p listed) → (listed.getD i false = true ↔ i < m)) ∧ ∃ σ β, a.tmps.size = N ∧ a.defers = [] ∧ RepS w σ (st m).st β ∧
    (∀ t, RepV w σ (st m).st β (lookP E R p vs listed (st 0).tm t) (a.tmps.getD t undef)) ∧ Step (st 0).st β0 σ0 w0 (st m).st β σ w ∧ Keep (st 0).st β0 (st m).st β ∧
    (Pend E R p listed → m ≤ p ∧ ∀ d, dstOf R p = some d → Raw P R p w0 w σ (st m).st β (a.tmps.getD d undef))
theorem looks_operand {o : Oper} {x : Operand} {t : Nat} (hx : x ∈ o.op.operands) (e : x = .tmp t) : t ∈ o.looksAt R := by
  subst e
  exact List.mem_append_left _ (List.mem_filterMap.2 ⟨.tmp t, by simpa using hx, rfl⟩)
theorem looks_guard {o : Oper} {g d : Nat} {want : Bool} (hg : o.guard = some (g, want)) (hd : dstOf R g = some d) : d ∈ o.looksAt R := by
  refine List.mem_append_right _ ?_
  rw [hg]
  show d ∈ ((R[g]?).bind (·.dst)).toList
  unfold dstOf at hd
  rw [hd]; simp
theorem draw_ok_pair (h : drawOk E R N = true) {i j : Nat} {x y : Oper} (hij : i < j) (hx : R[i]? = some x) (hy : R[j]? = some y) (hc : clash E R x y = true) : ((masks R.toList []).getD j 0).testBit i = true := by
  have hj : j < R.size := (Array.getElem?_eq_some_iff.1 hy).1
  have h1 := List.all_eq_true.1 h j (List.mem_range.2 hj)
  rw [Bool.and_eq_true] at h1
  have h2 := List.all_eq_true.1 h1.2 i (List.mem_range.2 hij)
  rw [hx, hy] at h2
  simp only [hc, Bool.not_true, Bool.or_false] at h2
  exact h2
theorem draw_ok_edge (h : drawOk E R N = true) {i : Nat} {o : Oper} {e : Edge} (ho : R[i]? = some o) (he : e ∈ o.after) (hb : Region.binds .any e = true) : e.on < i := by
  have hj : i < R.size := (Array.getElem?_eq_some_iff.1 ho).1
  have h1 := List.all_eq_true.1 h i (List.mem_range.2 hj)
  rw [Bool.and_eq_true, ho] at h1
  have h2 := h1.1
  simp only [Bool.and_eq_true] at h2
  have h3 := List.all_eq_true.1 h2.1 e (by simpa using he)
  simpa [hb] using h3
theorem draw_ok_dst (h : drawOk E R N = true) {i : Nat} {o : Oper} (ho : R[i]? = some o) : ∀ d, o.dst = some d → d < N := by
  intro d hd
  have hj : i < R.size := (Array.getElem?_eq_some_iff.1 ho).1
  have h1 := List.all_eq_true.1 h i (List.mem_range.2 hj)
  rw [Bool.and_eq_true, ho] at h1
  have h2 := h1.1
  simp only [Bool.and_eq_true, hd] at h2
  simpa using h2.2
theorem apart_symm {x y : Oper} : x.apart R y = y.apart R x := by
  rw [Bool.eq_iff_iff]
  have key : ∀ x y : Oper, x.apart R y = true → y.apart R x = true := fun x y h => by
    obtain ⟨h1, h2, h3⟩ := Oper.apart_spec h
    unfold Oper.apart
    cases hx : x.dst <;> cases hy : y.dst <;> simp
    · rename_i d; exact h3 d hy
    · rename_i d; exact h1 d hx
    · rename_i d d'
      exact ⟨⟨h3 d' hy, fun e => h2 d hx (by rw [hy, e])⟩, h1 d hx⟩
  exact ⟨key x y, key y x⟩
theorem clash0_symm {x y : Oper} : clash0 E R x y = clash0 E R y x := by
  unfold clash0
  rw [apart_symm, Bool.and_comm (isDx E x.op)]
def isMv : Op → Bool
  | .move _ => true
  | _ => false
theorem nvalL_mv {P : Program} {l : Option Nat} {S S' : Store} {tm : List (Nat × V)} {op : Op} (h : isMv op = true) : nvalL P l S' tm op = nvalL P l S tm op := by
  cases op <;> first | rfl | cases h
def refs (tm : List (Nat × V)) (o : Oper) (k : Key) : Prop := isMv o.op = false ∧ ∃ x ∈ o.op.operands, RefTo (ev tm x) k
structure DOk (E : Md) (R : Array Oper) (N : Nat) (st : Nat → St) (p : Nat) : Prop where
  edge : ∀ (i : Nat) (o : Oper) (e : Edge), R[i]? = some o → e ∈ o.after → Region.binds .any e = true → e.on < i
  dst : ∀ (i : Nat) (o : Oper), R[i]? = some o → ∀ d, o.dst = some d → d < N
  pair : ∀ (i j : Nat) (x y : Oper), i < j → R[i]? = some x → R[j]? = some y → clash0 E R x y = true → ((masks R.toList []).getD j 0).testBit i = true ∨ (j = p ∧ isDx E x.op = true ∧ x.apart R y = true)
  store : ∀ (i j : Nat) (x o : Oper), i ≠ j → R[i]? = some x → R[j]? = some o → isSx E x.op = true → isDx E o.op = false → isCallV o.op = false →
    bitIn R i j = true ∨ ∀ k, refs (st j).tm o k → getO (st (i + 1)).st k = getO (st i).st k
  pend : ∀ o, R[p]? = some o → isAlloc o.op = true ∧ o.guard = none ∧ (∃ d, o.dst = some d) ∧ ∀ j y, j ≠ p → R[j]? = some y → y.apart R o = false → ∀ i x, i < p → R[i]? = some x → isDx E x.op = true → i < j ∧ ((masks R.toList []).getD j 0).testBit i = true
theorem dok_of {st : Nat → St} (h : drawOk E R N = true) : DOk E R N st R.size where
  edge := fun i o e h1 h2 h3 => draw_ok_edge h h1 h2 h3
  dst := fun i o h1 => draw_ok_dst h h1
  pair := fun i j x y hij hx hy hc => .inl (draw_ok_pair h hij hx hy (by
    unfold clash0 at hc
    unfold clash
    rw [hc]; rfl))
  store := fun i j x o hij hx ho hs hD hc => .inl (by
    unfold bitIn
    by_cases e : i < j
    · rw [if_pos e]
      exact draw_ok_pair h e hx ho (by unfold clash; rw [hs]; simp)
    · rw [if_neg e]
      exact draw_ok_pair h (show j < i by omega) ho hx (by unfold clash; rw [hs]; simp))
  pend := fun o ho => by rw [Array.getElem?_eq_none (Nat.le_refl _)] at ho; cases ho
theorem pend_ok {p : Nat} (h : pendOk E R p = true) : ∀ o, R[p]? = some o → isAlloc o.op = true ∧ o.guard = none ∧ (∃ d, o.dst = some d) ∧ ∀ j y, j ≠ p → R[j]? = some y → y.apart R o = false → ∀ i x, i < p → R[i]? = some x → isDx E x.op = true → i < j ∧ ((masks R.toList []).getD j 0).testBit i = true := by
  intro o ho
  unfold pendOk at h
  rw [ho] at h
  simp only [Bool.and_eq_true] at h
  obtain ⟨⟨⟨h1, h2⟩, h3⟩, h4⟩ := h
  refine ⟨h1, by simpa using h2, Option.isSome_iff_exists.1 h3, fun j y hj hy hap i x hi hx hD => ?_⟩
  have hjl : j < R.size := (Array.getElem?_eq_some_iff.1 hy).1
  have h5 := List.all_eq_true.1 h4 j (List.mem_range.2 hjl)
  rw [hy] at h5
  simp only [hap, hj, decide_false, Bool.false_or] at h5
  have h6 := List.all_eq_true.1 h5 i (List.mem_range.2 hi)
  rw [hx] at h6
  simpa [hD] using h6
theorem alloc_dx {o : Oper} (h : isAlloc o.op = true) : isDx E o.op = true ∧ isSx E o.op = false ∧ isCallV o.op = false := by
  obtain ⟨dst, op, ty, pos, after, guard⟩ := o
  cases op <;> simp_all [isAlloc, isDx, isD, isSx, isStore, isCallV]
theorem dok_ofP {st : Nat → St} {p : Nat} (h0 : drawOkP E R N p = true) : DOk E R N st p := by
  unfold drawOkP at h0
  rw [Bool.and_eq_true] at h0
  obtain ⟨hp, h⟩ := h0
  have hpd := pend_ok hp
  have hpr : ∀ (i j : Nat) (x y : Oper), i < j → R[i]? = some x → R[j]? = some y → ((masks R.toList []).getD j 0).testBit i = true ∨ (x.apart R y = true ∧ (j = p ∨ ((isDx E x.op && isDx E y.op) = false ∧ isSx E x.op = false ∧ isSx E y.op = false))) := by
    intro i j x y hij hx hy
    have hj : j < R.size := (Array.getElem?_eq_some_iff.1 hy).1
    have h1 := List.all_eq_true.1 h j (List.mem_range.2 hj)
    rw [Bool.and_eq_true] at h1
    have h2 := List.all_eq_true.1 h1.2 i (List.mem_range.2 hij)
    rw [hx, hy] at h2
    simp only [clashP] at h2
    rw [Bool.or_eq_true] at h2
    rcases h2 with h2 | h2
    · exact .inl h2
    · right
      rw [Bool.not_eq_true', Bool.or_eq_false_iff, Bool.not_eq_false'] at h2
      refine ⟨h2.1, ?_⟩
      by_cases e : j = p
      · exact .inl e
      · right
        have h3 := h2.2
        simp only [e, decide_false, Bool.not_false, Bool.true_and, Bool.or_eq_false_iff] at h3
        exact ⟨h3.1.1, h3.1.2, h3.2⟩
  refine ⟨?_, ?_, ?_, ?_, hpd⟩
  · intro i o e ho he hb
    have hj : i < R.size := (Array.getElem?_eq_some_iff.1 ho).1
    have h1 := List.all_eq_true.1 h i (List.mem_range.2 hj)
    rw [Bool.and_eq_true, ho] at h1
    have h2 := h1.1
    simp only [Bool.and_eq_true] at h2
    have h3 := List.all_eq_true.1 h2.1 e (by simpa using he)
    simpa [hb] using h3
  · intro i o ho d hd
    have hj : i < R.size := (Array.getElem?_eq_some_iff.1 ho).1
    have h1 := List.all_eq_true.1 h i (List.mem_range.2 hj)
    rw [Bool.and_eq_true, ho] at h1
    have h2 := h1.1
    simp only [Bool.and_eq_true, hd] at h2
    simpa using h2.2
  · intro i j x y hij hx hy hc
    rcases hpr i j x y hij hx hy with h1 | ⟨h1, h2⟩
    · exact .inl h1
    · rcases h2 with h2 | ⟨h2, _, _⟩
      · right
        unfold clash0 at hc
        rw [h1] at hc
        simp only [Bool.not_true, Bool.false_or, Bool.and_eq_true] at hc
        exact ⟨h2, hc.1, h1⟩
      · unfold clash0 at hc
        rw [h1, h2] at hc
        cases hc
  · intro i j x o hij hx ho hs hD hc
    have hjp : j ≠ p := fun e => by
      subst e
      have := (alloc_dx (E := E) (hpd o ho).1).1
      rw [hD] at this; cases this
    have hip : i ≠ p := fun e => by
      subst e
      have := (alloc_dx (E := E) (hpd x hx).1).2.1
      rw [hs] at this; cases this
    left
    unfold bitIn
    by_cases e : i < j
    · rw [if_pos e]
      rcases hpr i j x o e hx ho with h1 | ⟨_, h2⟩
      · exact h1
      · rcases h2 with h2 | ⟨_, h2, _⟩
        · exact absurd h2 hjp
        · rw [hs] at h2; cases h2
    · rw [if_neg e]
      rcases hpr j i o x (by omega) ho hx with h1 | ⟨_, h2⟩
      · exact h1
      · rcases h2 with h2 | ⟨_, _, h2⟩
        · exact absurd h2 hip
        · rw [hs] at h2; cases h2
theorem Oper.wp_put {o : Oper} {a : Act} {w : World} {K : Act → World → Prop} {Q : Exit → Act → World → Prop} (hh : o.wp P a w K Q) : o.wp P a w (fun a' w' => K a' w' ∧ ∀ d, o.dst ≠ some d → a'.tmps.getD d undef = a.tmps.getD d undef) Q := by
  have key : ∀ (ds : List Deferred) (v : Value) (d : Nat), o.dst ≠ some d → (({ a with defers := ds } : Act).put o.dst v).tmps.getD d undef = a.tmps.getD d undef := by
    intro ds v d hd
    cases ho : o.dst with
    | none => rfl
    | some e =>
      have hne : e ≠ d := fun x => hd (by rw [ho, x])
      simp only [Act.put, Array.getD_eq_getD_getElem?]
      rw [Array.getElem?_setIfInBounds_ne hne]
  unfold Oper.wp at *
  generalize (execOp a.eval o).run P w = r at *
  cases r with
  | ok n w' =>
    cases n <;> simp only [Oper.upon] at hh ⊢ <;>
      first
        | exact ⟨hh, fun d hd => key _ _ d hd⟩
        | exact Calls.mono hh (fun e w'' he => by cases e <;> first | exact ⟨he, fun d hd => key _ _ d hd⟩ | exact he)
        | exact Rows.mono hh (fun _ _ he => ⟨he, fun d hd => key _ _ d hd⟩)
  | halt x w' => cases x <;> simp only [Oper.upon] at hh ⊢ <;> exact hh
theorem put_other {a : Act} {dst : Option Nat} {v : Value} {d : Nat} (h : dst ≠ some d) : (a.put dst v).tmps.getD d undef = a.tmps.getD d undef := by
  cases dst with
  | none => rfl
  | some e =>
    have hne : e ≠ d := fun x => h (by rw [x])
    simp only [Act.put, Array.getD_eq_getD_getElem?]
    rw [Array.getElem?_setIfInBounds_ne hne]
theorem zero_all {t : TypeId} {zs : List C} (h : zeroCs P t = some zs) : ∃ z : Value, (∀ w, (zeroValue t).run P w = .ok z w) ∧ ∀ w σ S β, RepCs w σ S β zs z.cells.toList := by
  unfold zeroCs at h
  cases hi : P.info? t with
  | none => rw [hi] at h; cases h
  | some i =>
    rw [hi] at h
    cases hz : i.zero with
    | none => simp [hz] at h
    | some z =>
      simp only [Option.bind_some, hz] at h
      split at h
      · rename_i hall
        cases h
        refine ⟨z, fun w => by simp [zeroValue, typeInfo, hi, hz], fun w σ S β => ⟨by simp, fun j x hx => ?_⟩⟩
        rw [List.getElem?_map] at hx
        cases hv : z.cells.toList[j]? with
        | none => rw [hv] at hx; cases hx
        | some v =>
          rw [hv] at hx; cases hx
          exact ⟨v, rfl, rep_constC _ _ _ _ _, List.all_eq_true.1 hall v (List.mem_of_getElem? hv)⟩
      · cases h
theorem push_raw {w w0 : World} {σ σ0 : Nat → Nat} {S0 : Store} {β0 : Hs} {own : List Obj} {Ω : Store} {β : Hs} {zs : List C} {b : Nat} {c : Array Value} {ty : TypeId} (hS : RepS w σ (own :: Ω) β) (hst : Step S0 β0 σ0 w0 (own :: Ω) β σ w) (hb : w.heap[b]? = some (.cells c ty (0, 0))) (hσ : σ b = 0)
    (h0 : w0.heap.size ≤ b) (hno : ¬ Own (own :: Ω) β b) (hz : ∀ w σ S β, RepCs w σ S β zs c.toList) :
    ∃ bo bΩ, β = bo :: bΩ ∧ bo.length = own.length ∧ RepS w σ ((own ++ [.box zs]) :: Ω) ((bo ++ [Value.pointer (some ⟨b, 0, none⟩)]) :: bΩ) ∧ Keep (own :: Ω) β ((own ++ [.box zs]) :: Ω) ((bo ++ [Value.pointer (some ⟨b, 0, none⟩)]) :: bΩ) ∧
      Step S0 β0 σ0 w0 ((own ++ [.box zs]) :: Ω) ((bo ++ [Value.pointer (some ⟨b, 0, none⟩)]) :: bΩ) σ w := by
  cases β with
  | nil => have := hS.shape.1; simp at this
  | cons bo bΩ =>
  have hlen : bo.length = own.length := by
    obtain ⟨gr, g1, g2⟩ := hS.shape.2 0 own rfl
    simp at g1; rw [g1]; exact g2
  refine ⟨bo, bΩ, rfl, hlen, ?_⟩
  have hkeep : Keep (own :: Ω) (bo :: bΩ) ((own ++ [.box zs]) :: Ω) ((bo ++ [Value.pointer (some ⟨b, 0, none⟩)]) :: bΩ) := by
    intro k o1 h1
    obtain ⟨h2, hh2, _⟩ := hS.obj k o1 h1
    exact ⟨o1, getO_push _ _ _ _ _ h1, by rw [getO_push _ _ _ _ _ hh2, hh2]; exact .refl _ _⟩
  have hinv : ∀ k o1 h1, getO ((own ++ [Obj.box zs]) :: Ω) k = some o1 → getO ((bo ++ [Value.pointer (some ⟨b, 0, none⟩)]) :: bΩ) k = some h1 →
      (getO (own :: Ω) k = some o1 ∧ getO (bo :: bΩ) k = some h1) ∨ (k = (0, own.length) ∧ o1 = .box zs ∧ h1 = Value.pointer (some ⟨b, 0, none⟩)) := by
    intro k o1 h1 e1 e2
    rcases getO_push_inv _ _ _ _ _ e1 with e1 | ⟨rfl, rfl⟩
    · left
      refine ⟨e1, ?_⟩
      rcases getO_push_inv _ _ _ _ _ e2 with e2 | ⟨rfl, rfl⟩
      · exact e2
      · rw [getO_zero, hlen] at e1
        have := (List.getElem?_eq_some_iff.1 e1).1
        omega
    · right
      rw [← hlen, getO_push_new] at e2
      exact ⟨rfl, rfl, (Option.some.inj e2).symm⟩
  have hown : ∀ x, Own ((own ++ [Obj.box zs]) :: Ω) ((bo ++ [Value.pointer (some ⟨b, 0, none⟩)]) :: bΩ) x → Own (own :: Ω) (bo :: bΩ) x ∨ x = b := by
    rintro x ⟨k, o, h, e1, e2, e3⟩
    rcases hinv k o h e1 e2 with ⟨f1, f2⟩ | ⟨rfl, rfl, rfl⟩
    · exact .inl ⟨k, o, h, f1, f2, e3⟩
    · right; cases e3; rfl
  have hmono : ∀ k o h, getO (own :: Ω) k = some o → getO (bo :: bΩ) k = some h → RepObj w σ ((own :: Ω).drop k.1) ((bo :: bΩ).drop k.1) o h → RepObj w σ (((own ++ [Obj.box zs]) :: Ω).drop k.1) (((bo ++ [Value.pointer (some ⟨b, 0, none⟩)]) :: bΩ).drop k.1) o h :=
    fun k o h _ _ hr => hr.mono (Near.refl _ _) (hkeep.drop _) fun x _ => ⟨rfl, rfl⟩
  refine ⟨⟨?_, ?_, ⟨?_, ?_⟩, hS.live, hS.glob⟩, hkeep, ⟨hst.size, hst.os, hst.output, fun x hx hn => hst.far x hx hn, hst.near, fun x hx => ?_⟩⟩
  · intro k o1 h1
    rcases getO_push_inv _ _ _ _ _ h1 with h1 | ⟨rfl, rfl⟩
    · obtain ⟨h2, hh2, hr⟩ := hS.obj k o1 h1
      exact ⟨h2, getO_push _ _ _ _ _ hh2, hmono k o1 h2 h1 hh2 hr⟩
    · exact ⟨Value.pointer (some ⟨b, 0, none⟩), by rw [← hlen, getO_push_new], b, c, ty, rfl, hb, hσ, hz _ _ _ _⟩
  · intro k k' o1 o2 h1 h2 x e1 e2 e3 e4 e5 e6
    rcases hinv k o1 h1 e1 e2 with ⟨f1, f2⟩ | ⟨rfl, rfl, rfl⟩
    · rcases hinv k' o2 h2 e4 e5 with ⟨g1, g2⟩ | ⟨rfl, rfl, rfl⟩
      · exact hS.apart _ _ _ _ _ _ _ f1 f2 e3 g1 g2 e6
      · cases e6; exact absurd ⟨k, o1, h1, f1, f2, e3⟩ hno
    · rcases hinv k' o2 h2 e4 e5 with ⟨g1, g2⟩ | ⟨rfl, rfl, rfl⟩
      · cases e3; exact absurd ⟨k', o2, h2, g1, g2, e6⟩ hno
      · rfl
  · have := hS.shape.1; simpa using this
  · intro l fr hl
    cases l with
    | zero => simp at hl; subst hl; exact ⟨_, rfl, by simp [hlen]⟩
    | succ l => exact hS.shape.2 (l + 1) fr (by simpa using hl)
  · rcases hown x hx with h | h
    · exact hst.own x h
    · subst h; exact .inr h0
theorem alloc_step {st : Nat → St} {vs : Nat → V} {p : Nat} {o : Oper} {d : Nat} {t : TypeId} (ht : TStep P E R o (st p) (vs p) (st (p + 1))) (hop : o.op = .alloc t) (hg : o.guard = none) (hd : o.dst = some d) :
    ∃ zs own Ω, zeroCs P t = some zs ∧ (st p).st = own :: Ω ∧ (st (p + 1)).st = (own ++ [.box zs]) :: Ω ∧ vs p = .c (.ptr (0, own.length) 0) := by
  have hgd : gd R o (st p).tm = some true := by unfold gd; rw [hg]
  rcases ht with ⟨h1, _, _⟩ | ⟨_, hD, _, _⟩ | ⟨_, hD, hx, hs', _⟩
  · rw [hgd] at h1; cases h1
  · rw [(alloc_dx (E := E) (o := o) (by rw [hop]; rfl)).1] at hD; cases hD
  · obtain ⟨dst, op, ty, pos, after, guard⟩ := o
    simp only at hop hd; subst hop; subst hd
    unfold execW allocW at hx
    simp only at hx
    cases hz : zeroCs P t with
    | none => rw [hz] at hx; exact hx.elim
    | some zs =>
      rw [hz] at hx
      generalize st (p + 1) = s1 at *
      generalize st p = s0 at *
      obtain ⟨tm, S⟩ := s0
      simp only [newObj] at hx
      cases S with
      | nil => exact hx.elim
      | cons own Ω =>
        subst hx
        refine ⟨zs, own, Ω, rfl, rfl, rfl, ?_⟩
        simp only [St.put, St.mk.injEq, List.cons.injEq, Prod.mk.injEq, and_true, true_and] at hs'
        exact hs'.symm
theorem mid_step {st : Nat → St} {vs : Nat → V} {β0 : Hs} {σ0 : Nat → Nat} {w0 : World} {Q : Exit → Act → World → Prop} {p : Nat} (hok : DOk E R N st p)
    (hT : ∀ i, i < R.size → ∃ o, R[i]? = some o ∧ TStep P E R o (st i) (vs i) (st (i + 1))) {listed : Array Bool} {a : Act} {w : World} (hM : Mid P N E R p st vs β0 σ0 w0 listed a w) {i : Nat} (hi : i ∈ Region.ready .any R listed) :
    wpOp P R Q i (fun a' w' => Mid P N E R p st vs β0 σ0 w0 (listed.setIfInBounds i true) a' w') a w := by
  obtain ⟨hun, o, ho, hedges⟩ := mem_ready.1 hi
  have hlt : i < R.size := (Array.getElem?_eq_some_iff.1 ho).1
  obtain ⟨o', ho', ht⟩ := hT i hlt
  rw [ho] at ho'; cases ho'
  have hunf : listed.getD i false = false := by
    have hs : i < listed.size := by rw [hM.size]; exact hlt
    simp [hs] at hun ⊢; exact hun
  obtain ⟨m, hm, hmD, σ, β, hsz, hdf, hS, hrT, hst, hkp, hpd⟩ := hM.rep
  have hdn := hok.dst i o ho
  have hset : (listed.setIfInBounds i true).getD i false = true := by
    have hs : i < listed.size := by rw [hM.size]; exact hlt
    simp [hs]
  have hset2 : ∀ j, (listed.setIfInBounds i true).getD j false = true → j = i ∨ listed.getD j false = true := by
    intro j hj
    by_cases e : j = i
    · exact .inl e
    · rw [getD_set_ne false (Ne.symm e)] at hj; exact .inr hj
  have hset3 : ∀ j, (listed.setIfInBounds i true).getD j false = false → j ≠ i ∧ listed.getD j false = false := by
    intro j hj
    by_cases e : j = i
    · subst e; rw [hset] at hj; cases hj
    · rw [getD_set_ne false (Ne.symm e)] at hj; exact ⟨e, hj⟩
  have hmask : ∀ j x k, R[j]? = some x → listed.getD j false = true → ((masks R.toList []).getD j 0).testBit k = true → listed.getD k false = true := fun j x k hx hE hb =>
    mask_done (fun k => listed.getD k false = true) hM.closed hok.edge j x hx (fun e he hb => hM.closed j x e hx hE he hb) k hb
  have hmaski : ∀ k, ((masks R.toList []).getD i 0).testBit k = true → listed.getD k false = true := fun k hb =>
    mask_done (fun k => listed.getD k false = true) hM.closed hok.edge i o ho (fun e he hb => hedges e he hb) k hb
  have hpip : Pend E R p listed → i ≠ p := fun h e => by have h1 := h.1; rw [← e, hunf] at h1; cases h1
  -- closing the new listing
  have hclosed' : ∀ j x e, R[j]? = some x → (listed.setIfInBounds i true).getD j false = true → e ∈ x.after → Region.binds .any e = true → (listed.setIfInBounds i true).getD e.on false = true := by
    intro j x e hx hE he hb
    by_cases hji : j = i
    · subst hji
      rw [ho] at hx; cases hx
      exact getD_set_true (hedges e he hb)
    · rw [getD_set_ne false (Ne.symm hji)] at hE
      exact getD_set_true (hM.closed j x e hx hE he hb)
  by_cases hA2 : i = p ∧ ∃ j x, j < p ∧ R[j]? = some x ∧ isDx E x.op = true ∧ listed.getD j false = false
  · -- the variable is made ahead of its place
    obtain ⟨rfl, j0, x0, hj0, hx0, hD0, hu0⟩ := hA2
    obtain ⟨hal, hgn, ⟨d, hd⟩, _⟩ := hok.pend o ho
    obtain ⟨ty, hop⟩ : ∃ ty, o.op = .alloc ty := by
      cases h : o.op <;> rw [h] at hal <;> first | exact ⟨_, rfl⟩ | cases hal
    obtain ⟨zs, own, Ω, hzs, _, _, _⟩ := alloc_step ht hop hgn hd
    obtain ⟨z, hzr, hzc⟩ := zero_all hzs
    have hnp : ¬ Pend E R i listed := fun h => by have h1 := h.1; rw [hunf] at h1; cases h1
    have hP' : Pend E R i (listed.setIfInBounds i true) := ⟨hset, hlt, j0, x0, hj0, hx0, hD0, by rw [getD_set_ne false (by omega)]; exact hu0⟩
    have hmp : m ≤ i := by
      have h1 := hmD j0 x0 hx0 hD0 (fun _ => hnp)
      rcases Nat.lt_or_ge j0 m with h | h
      · rw [h1.2 h] at hu0; cases hu0
      · omega
    have hdi : dstOf R i = some d := by simp [dstOf, ho, hd]
    have hg := push_cells w σ hS.live z.cells ty 0
    unfold wpOp
    rw [ho]
    simp only
    rw [if_pos (by simp [Region.wanted, hgn])]
    left
    have hrun : (execOp a.eval o).run P w = .ok (.value (.pointer (some ⟨w.heap.size, 0, none⟩))) { w with heap := w.heap.push (.cells z.cells ty) } := by
      have hnv : (newVar ty z).run P w = .ok ⟨w.heap.size, 0, none⟩ { w with heap := w.heap.push (.cells z.cells ty) } := rfl
      have hzr := hzr w
      clear hS hrT hst hkp hpd hM hdn ht
      obtain ⟨dst, op, ty', pos, after, guard⟩ := o
      simp only at hop; subst hop
      simp [execOp, Instr.alloc, hzr, hnv]
    unfold Oper.wp
    rw [hrun]
    show Mid P N E R i st vs β0 σ0 w0 _ (a.put o.dst _) _
    rw [hd]
    have hdN : d < a.tmps.size := by rw [hsz]; exact hdn d hd
    refine ⟨by simpa using hM.size, hclosed', m, hm, fun j x hx hDx hjp => ?_, fun b => if b = w.heap.size then 0 else σ b, β, by simp [Act.put, hsz], hdf, hS.grow hg, fun t => ?_, hst.trans (Step.of_grow hg), hkp, fun _ => ⟨hmp, fun d' hd' => ?_⟩⟩
    · have hji : j ≠ i := fun e => hjp e hP'
      rw [getD_set_ne false (Ne.symm hji)]
      exact hmD j x hx hDx fun _ => hnp
    · unfold lookP
      by_cases e : t = d
      · subst e
        rw [if_pos ⟨hP', hdi⟩]
        exact trivial
      · rw [if_neg (fun h => e (by rw [hdi] at h; exact (Option.some.inj h.2).symm))]
        rw [lookE_congr (E' := fun i => listed.getD i false) R.size (fun j hj hdj => by
          have hji : j ≠ i := fun x => by rw [x, hdi] at hdj; exact e (Option.some.inj hdj).symm
          exact getD_set_ne false (Ne.symm hji))]
        have h1 := hrT t
        unfold lookP at h1
        rw [if_neg (fun h => hnp h.1)] at h1
        rw [put_other (by intro x; exact e (Option.some.inj x).symm)]
        exact h1.mono hg.near (Keep.refl _ _)
    · rw [hdi] at hd'; cases hd'
      refine ⟨w.heap.size, z.cells, ty, by simp [Act.put, Array.getD, hdN], by simp, by simp, hst.size, fun h => ?_, fun o2 t2 zs2 h1 h2 h3 => ?_⟩
      · have := hS.own_lt h; omega
      · rw [ho] at h1; cases h1
        rw [hop] at h2; cases h2
        rw [hzs] at h3; cases h3
        exact hzc
  have hA : i = p → ∀ j x, j < p → R[j]? = some x → isDx E x.op = true → listed.getD j false = true := fun e j x hj hx hD => by
    cases hl : listed.getD j false with
    | true => rfl
    | false => exact absurd ⟨e, j, x, hj, hx, hD, hl⟩ hA2
  have hPP : Pend E R p (listed.setIfInBounds i true) → Pend E R p listed := by
    rintro ⟨h1, h2, j, x, hj, hx, hD, hl⟩
    obtain ⟨hji, hl⟩ := hset3 j hl
    rcases hset2 p h1 with e | h
    · rw [hA e.symm j x hj hx hD] at hl; cases hl
    · exact ⟨h, h2, j, x, hj, hx, hD, hl⟩
  -- while one is ahead of its place, this operation is apart from it
  have hap : Pend E R p listed → ∀ po d, R[p]? = some po → po.dst = some d → o.dst ≠ some d ∧ d ∉ o.looksAt R := by
    rintro hP po d hpo hpd
    have hP0 := hP
    obtain ⟨_, _, j0, x0, hj0, hx0, hD0, hu0⟩ := hP0
    have : o.apart R po = true := by
      cases hc : o.apart R po with
      | true => rfl
      | false =>
        have := (hok.pend po hpo).2.2.2 i o (hpip hP) ho hc j0 x0 hj0 hx0 hD0
        rw [hmaski j0 this.2] at hu0; cases hu0
    obtain ⟨q1, q2, q3⟩ := Oper.apart_spec this
    exact ⟨fun e => q2 d e hpd, q3 d hpd⟩
  have hip : Pend E R p listed → isDx E o.op = true → i < p := by
    rintro hP hD
    have hP0 := hP
    obtain ⟨_, hpl, j0, x0, hj0, hx0, hD0, hu0⟩ := hP0
    have hne := hpip hP
    rcases Nat.lt_or_ge i p with h | h
    · exact h
    · exfalso
      rcases hok.pair j0 i x0 o (by omega) hx0 ho (by simp [clash0, hD, hD0]) with hb | ⟨e, _⟩
      · rw [hmaski j0 hb] at hu0; cases hu0
      · exact hne e
  -- what is in order with it and comes before in the text has run; what comes after has not
  have hbit : ∀ j x, R[j]? = some x → j ≠ i → bitIn R j i = true → (listed.getD j false = true ↔ j < i) := by
    intro j x hx hne hc
    unfold bitIn at hc
    constructor
    · intro hE
      rcases Nat.lt_or_ge j i with h | h
      · exact h
      · exfalso
        rw [if_neg (by omega)] at hc
        have := hmask j x i hx hE hc
        rw [hunf] at this; cases this
    · intro hji
      rw [if_pos hji] at hc
      exact hmaski j hc
  have hdone : ∀ j x, R[j]? = some x → j ≠ i → (j = p → ¬ Pend E R p listed) → clash0 E R x o = true → (listed.getD j false = true ↔ j < i) := by
    intro j x hx hne hjp hc
    by_cases e : j < i
    · rcases hok.pair j i x o e hx ho hc with hb | ⟨e1, hD, _⟩
      · exact hbit j x hx hne (by unfold bitIn; rw [if_pos e]; exact hb)
      · exact ⟨fun _ => e, fun _ => hA e1 j x (by omega) hx hD⟩
    · rcases hok.pair i j o x (by omega) ho hx (by rw [clash0_symm]; exact hc) with hb | ⟨e1, hD, _⟩
      · exact hbit j x hx hne (by unfold bitIn; rw [if_neg e]; exact hb)
      · refine ⟨fun h => absurd ⟨e1 ▸ h, ?_, i, o, by omega, ho, hD, hunf⟩ (hjp e1), fun h => absurd h e⟩
        rw [← e1]; exact (Array.getElem?_eq_some_iff.1 hx).1
  -- the temporaries as a list
  obtain ⟨tmL, htmL⟩ : ∃ tmL : List (Nat × V), ∀ t, look tmL t = lookE R vs (fun i => listed.getD i false) (st 0).tm R.size t := by
    have : ∀ n, ∃ tmE : List (Nat × V), ∀ t, look tmE t = lookE R vs (fun i => listed.getD i false) (st 0).tm n t := by
      intro n
      induction n with
      | zero => exact ⟨(st 0).tm, fun t => rfl⟩
      | succ n ih =>
        obtain ⟨tm, h⟩ := ih
        by_cases hE : listed.getD n false = true
        · cases hd : dstOf R n with
          | none => exact ⟨tm, fun t => by rw [lookE, if_neg (fun x => by rw [hd] at x; cases x.2)]; exact h t⟩
          | some d =>
            refine ⟨(n |> vs |> fun v => (d, v)) :: tm, fun t => ?_⟩
            rw [lookE, look, hd, h t]
            by_cases e : d = t
            · rw [if_pos e, if_pos ⟨hE, by rw [e]⟩]
            · rw [if_neg e, if_neg (fun x => e (Option.some.inj x.2))]
        · exact ⟨tm, fun t => by rw [lookE, if_neg (fun x => hE x.1)]; exact h t⟩
    exact this R.size
  obtain ⟨tmE, htmE⟩ : ∃ tmE : List (Nat × V), ∀ t, look tmE t = lookP E R p vs listed (st 0).tm t := by
    by_cases hP : Pend E R p listed
    · cases hd : dstOf R p with
      | none => exact ⟨tmL, fun t => by unfold lookP; rw [if_neg (fun h => by rw [hd] at h; cases h.2)]; exact htmL t⟩
      | some d =>
        refine ⟨(d, .any) :: tmL, fun t => ?_⟩
        unfold lookP
        rw [look, hd]
        by_cases e : d = t
        · rw [if_pos e, if_pos ⟨hP, by rw [e]⟩]
        · rw [if_neg e, if_neg (fun x => e (Option.some.inj x.2))]; exact htmL t
    · exact ⟨tmL, fun t => by unfold lookP; rw [if_neg (fun h => hP h.1)]; exact htmL t⟩
  have hPd : ∀ t, Pend E R p listed → dstOf R p = some t → ∃ po, R[p]? = some po ∧ po.dst = some t := by
    intro t _ h
    unfold dstOf at h
    cases hpo : R[p]? with
    | none => rw [hpo] at h; cases h
    | some po => rw [hpo] at h; exact ⟨po, rfl, h⟩
  -- what it looks at is as in the text
  have hlook : ∀ t ∈ o.looksAt R, look tmE t = look (st i).tm t := by
    intro t htl
    rw [htmE]
    unfold lookP
    rw [if_neg (fun h => by
      obtain ⟨po, h1, h2⟩ := hPd t h.1 h.2
      exact (hap h.1 po t h1 h2).2 htl), text_look hT t i (by omega)]
    have := lookE_agree (R := R) (vs := vs) (E := fun i => listed.getD i false) (base := (st 0).tm) (t := t) (i := i) R.size (fun j hj hd => by
      by_cases e : j = i
      · subst e; rw [hunf]; simp
      · obtain ⟨x, hx⟩ : ∃ x, R[j]? = some x := ⟨_, Array.getElem?_eq_getElem hj⟩
        have hxd : x.dst = some t := by simpa [dstOf, hx] using hd
        refine hdone j x hx e (fun e2 hP => ?_) ?_
        · subst e2
          exact (hap hP x t hx hxd).2 htl
        · have : x.apart R o = false := by
            cases hap : x.apart R o with
            | false => rfl
            | true => exact absurd htl ((Oper.apart_spec hap).1 t hxd)
          simp [clash0, this])
    rw [this, show min R.size i = i from by omega]
  have hR : Rep N ⟨tmE, (st m).st⟩ a w σ β := ⟨hsz, hdf, hS, fun t => by show RepV w σ (st m).st β (look tmE t) _; rw [htmE]; exact hrT t⟩
  have hev : ∀ x ∈ o.op.operands, ev (st i).tm x = ev tmE x := by
    intro x hx
    cases x with
    | tmp t => show look _ t = look _ t; rw [hlook t (looks_operand hx rfl)]
    | _ => rfl
  have hgd : gd R o tmE = gd R o (st i).tm := by
    unfold gd
    cases hg : o.guard with
    | none => rfl
    | some gw =>
      obtain ⟨g, want⟩ := gw
      simp only
      cases hd : dstOf R g with
      | none => rfl
      | some d =>
        simp only [Option.map_some]
        rw [hlook d (looks_guard hg hd)]
  -- the temporaries behind the step
  have hlkE : ∀ (S' : Store) (t : Nat), lookE R vs (fun i_1 => (listed.setIfInBounds i true).getD i_1 false) (st 0).tm R.size t = look (St.put ⟨tmL, S'⟩ o.dst (vs i)).tm t := by
    intro S' t
    by_cases hd : o.dst = some t
    · have hdi : dstOf R i = some t := by simp [dstOf, ho, hd]
      rw [lookE_last (E := fun i_1 => (listed.setIfInBounds i true).getD i_1 false) hset hdi R.size hlt (fun j hj hij hdj => by
        obtain ⟨x, hx⟩ : ∃ x, R[j]? = some x := ⟨_, Array.getElem?_eq_getElem hj⟩
        have hxd : x.dst = some t := by simpa [dstOf, hx] using hdj
        have hap0 : x.apart R o = false := by
          cases hap : x.apart R o with
          | false => rfl
          | true => exact absurd hd ((Oper.apart_spec hap).2.1 t hxd)
        have := hdone j x hx (by omega) (fun e hP => by
          subst e
          exact (hap hP x t hx hxd).1 hd) (by simp [clash0, hap0])
        rw [getD_set_ne false (by omega)]
        cases hE : listed.getD j false with
        | false => rfl
        | true => exact absurd (this.1 hE) (by omega))]
      rw [hd]
      simp [St.put, look]
    · have hdi : dstOf R i ≠ some t := by simp only [dstOf, ho, Option.bind_some]; exact hd
      rw [lookE_congr (E' := fun i => listed.getD i false) R.size (fun j hj hdj => by
        have hji : j ≠ i := fun e => hdi (e ▸ hdj)
        exact getD_set_ne false (Ne.symm hji)), ← htmL t]
      cases hdd : o.dst with
      | none => rfl
      | some d =>
        have hne : d ≠ t := fun e => hd (by rw [hdd, e])
        simp [St.put, look, hne]
  have hlkP : ∀ (S' : Store) (t : Nat), ¬ (Pend E R p listed ∧ dstOf R p = some t) → look (St.put ⟨tmE, S'⟩ o.dst (vs i)).tm t = lookE R vs (fun i_1 => (listed.setIfInBounds i true).getD i_1 false) (st 0).tm R.size t := by
    intro S' t hn
    rw [hlkE S' t]
    have h1 : look tmE t = look tmL t := by rw [htmE, htmL]; unfold lookP; rw [if_neg hn]
    cases hdd : o.dst with
    | none => exact h1
    | some d => simp only [St.put, look, h1]
  have fin : ∀ (m' : Nat) (a' : Act) (w' : World) (σ' : Nat → Nat) (β' : Hs), m' ≤ R.size → (∀ j x, R[j]? = some x → isDx E x.op = true → (j = p → ¬ Pend E R p listed) → ((listed.setIfInBounds i true).getD j false = true ↔ j < m')) →
      (Pend E R p listed → m' ≤ p) → (∀ d, o.dst ≠ some d → a'.tmps.getD d undef = a.tmps.getD d undef) →
      Rep N (St.put ⟨tmE, (st m').st⟩ o.dst (vs i)) a' w' σ' β' → Step (st m).st β σ w (st m').st β' σ' w' → Keep (st m).st β (st m').st β' → Mid P N E R p st vs β0 σ0 w0 (listed.setIfInBounds i true) a' w' := by
    intro m' a' w' σ' β' hm' hD' hmp ha' hR' hst' hkp'
    have hS' := hR'.S
    have hT' := hR'.T
    rw [put_st] at hS' hT'
    by_cases hP : Pend E R p listed
    · obtain ⟨_, hraw⟩ := hpd hP
      have hP0 := hP
      obtain ⟨hp1, hp2, j0, x0, hj0, hx0, hD0, hu0⟩ := hP0
      obtain ⟨po, hpo⟩ : ∃ po, R[p]? = some po := ⟨_, Array.getElem?_eq_getElem hp2⟩
      obtain ⟨hal, hgn, ⟨d, hd⟩, hlate⟩ := hok.pend po hpo
      have hdp : dstOf R p = some d := by simp [dstOf, hpo, hd]
      have hod := hap hP po d hpo hd
      have hraw := hraw d hdp
      obtain ⟨b, c, ty', hv, hb, hσ, h0, hno, hzc⟩ := hraw
      have hbl : b < w.heap.size := lt_of_some hb
      have hb' : w'.heap[b]? = some (.cells c ty' (0, 0)) := by rw [(hst'.far b hbl hno).1]; exact hb
      have hσ' : σ' b = 0 := by rw [(hst'.far b hbl hno).2]; exact hσ
      have hno' : ¬ Own (st m').st β' b := fun h => (hst'.own b h).elim hno (fun h => by omega)
      have hv' : a'.tmps.getD d undef = .pointer (some ⟨b, 0, none⟩) := (ha' d hod.1).trans hv
      have hraw' : Raw P R p w0 w' σ' (st m').st β' (a'.tmps.getD d undef) := ⟨b, c, ty', hv', hb', hσ', h0, hno', hzc⟩
      by_cases hP' : Pend E R p (listed.setIfInBounds i true)
      · refine ⟨by simpa using hM.size, hclosed', m', hm', fun j x hx hDx hjp => hD' j x hx hDx (fun e => absurd hP' (hjp e)), σ', β', hR'.size, hR'.defers, hS', fun t => ?_, hst.trans hst', hkp.trans hkp', fun _ => ⟨hmp hP, fun d' hd' => by rw [hdp] at hd'; cases hd'; exact hraw'⟩⟩
        unfold lookP
        by_cases e : dstOf R p = some t
        · rw [if_pos ⟨hP', e⟩]; exact trivial
        · rw [if_neg (fun h => e h.2), ← hlkP (st m').st t (fun h => e h.2)]
          exact hT' t
      · -- its place has come
        have hpl : (listed.setIfInBounds i true).getD p false = true := getD_set_true hp1
        have hall : ∀ j x, j < p → R[j]? = some x → isDx E x.op = true → (listed.setIfInBounds i true).getD j false = true := fun j x hj hx hD => by
          cases hl : (listed.setIfInBounds i true).getD j false with
          | true => rfl
          | false => exact absurd ⟨hpl, hp2, j, x, hj, hx, hD, hl⟩ hP'
        have hlater : ∀ j x, p < j → R[j]? = some x → isDx E x.op = true → (listed.setIfInBounds i true).getD j false = false := fun j x hj hx hD => by
          cases hl : (listed.setIfInBounds i true).getD j false with
          | false => rfl
          | true =>
            exfalso
            rcases hok.pair j0 j x0 x (by omega) hx0 hx (by simp [clash0, hD, hD0]) with hbt | ⟨e, _⟩
            · rcases hset2 j hl with e | hl
              · subst e
                rw [hmaski j0 hbt] at hu0; cases hu0
              · rw [hmask j x j0 hx hl hbt] at hu0; cases hu0
            · omega
        have hmp' := hmp hP
        have hsm : (st p).st = (st m').st := by
          have := st_same hT (i := m') (p - m') (by omega) (fun j x h1 h2 h3 => by
            cases hDx : isDx E x.op with
            | false => rfl
            | true =>
              have := (hD' j x h3 hDx (fun e => by omega)).1 (hall j x (by omega) h3 hDx)
              omega)
          rwa [show m' + (p - m') = p from by omega] at this
        obtain ⟨po', hpo', htp⟩ := hT p hp2
        rw [hpo] at hpo'; cases hpo'
        obtain ⟨ty, hop⟩ : ∃ ty, po.op = .alloc ty := by
          cases h : po.op <;> rw [h] at hal <;> first | exact ⟨_, rfl⟩ | cases hal
        obtain ⟨zs, own, Ω, hzs, hs0, hs1, hvp⟩ := alloc_step htp hop hgn hd
        rw [hsm] at hs0
        have hst2 := hst.trans hst'
        have hkp2 := hkp.trans hkp'
        rw [hs0] at hS' hT' hst2 hkp2 hno'
        obtain ⟨bo, bΩ, rfl, hlen, q1, q2, q3⟩ := push_raw hS' hst2 hb' hσ' h0 hno' (hzc po ty zs hpo hop hzs)
        rw [← hs1] at q1 q2 q3
        refine ⟨by simpa using hM.size, hclosed', p + 1, by omega, fun j x hx hDx _ => ?_, σ', _, hR'.size, hR'.defers, q1, fun t => ?_, q3, hkp2.trans q2, fun h => absurd h hP'⟩
        · rcases Nat.lt_trichotomy j p with h | h | h
          · exact ⟨fun _ => by omega, fun _ => hall j x h hx hDx⟩
          · subst h; exact ⟨fun _ => by omega, fun _ => hpl⟩
          · rw [hlater j x h hx hDx]; exact ⟨fun h => (by cases h), fun h => by omega⟩
        · unfold lookP
          rw [if_neg (fun h => hP' h.1)]
          by_cases e : t = d
          · subst e
            rw [lookE_last (E := fun i_1 => (listed.setIfInBounds i true).getD i_1 false) hpl hdp R.size hp2 (fun j hj hpj hdj => by
              obtain ⟨x, hx⟩ : ∃ x, R[j]? = some x := ⟨_, Array.getElem?_eq_getElem hj⟩
              have hxd : x.dst = some t := by simpa [dstOf, hx] using hdj
              have hap0 : x.apart R po = false := by
                cases hap : x.apart R po with
                | false => rfl
                | true => exact absurd hd ((Oper.apart_spec hap).2.1 t hxd)
              have hbt := hlate j x (by omega) hx hap0 j0 x0 hj0 hx0 hD0
              cases hl : (listed.setIfInBounds i true).getD j false with
              | false => rfl
              | true =>
                exfalso
                rcases hset2 j hl with e | hl
                · subst e
                  rw [hmaski j0 hbt.2] at hu0; cases hu0
                · rw [hmask j x j0 hx hl hbt.2] at hu0; cases hu0), hvp, hv', hs1]
            exact ptr_new hlen
          · rw [← hlkP (st m').st t (fun h => e (by rw [hdp] at h; exact (Option.some.inj h.2).symm))]
            have h1 := hT' t
            rw [hs0]
            exact h1.mono (Near.refl _ _) q2
    · have hP' : ¬ Pend E R p (listed.setIfInBounds i true) := fun h => hP (hPP h)
      refine ⟨by simpa using hM.size, hclosed', m', hm', fun j x hx hDx _ => hD' j x hx hDx (fun _ => hP), σ', β', hR'.size, hR'.defers, hS', fun t => ?_, hst.trans hst', hkp.trans hkp', fun h => absurd h hP'⟩
      unfold lookP
      rw [if_neg (fun h => hP' h.1), ← hlkP (st m').st t (fun h => hP h.1)]
      exact hT' t
  have keepD : isDx E o.op = false → ∀ j x, R[j]? = some x → isDx E x.op = true → (j = p → ¬ Pend E R p listed) → ((listed.setIfInBounds i true).getD j false = true ↔ j < m) := by
    intro hD j x hx hDx hjp
    have hji : j ≠ i := fun e => by rw [e, ho] at hx; cases hx; rw [hD] at hDx; cases hDx
    rw [getD_set_ne false (Ne.symm hji)]
    exact hmD j x hx hDx hjp
  have hmP : Pend E R p listed → m ≤ p := fun h => (hpd h).1
  -- an operation that leaves the objects alone
  have quiet : ∀ (w' : World) (σ' : Nat → Nat) (v : Value), isDx E o.op = false → Grow w σ w' σ' → RepV w' σ' (st m).st β (vs i) v → Mid P N E R p st vs β0 σ0 w0 (listed.setIfInBounds i true) (a.put o.dst v) w' := by
    intro w' σ' v hD hg hv
    exact fin m _ w' σ' β hm (keepD hD) hmP (fun d hd => put_other hd) (rep_put hdn hsz hdf (hS.grow hg) (hR.T.mono hg.near (Keep.refl _ _)) hv) (Step.of_grow hg) (Keep.refl _ _)
  -- where the objects stand
  have hDs : isDx E o.op = true → ∀ j x, R[j]? = some x → isDx E x.op = true → (j = p → ¬ Pend E R p listed) → (listed.getD j false = true ↔ j < i) := by
    intro hD j x hx hDx hjp
    by_cases e : j = i
    · subst e; rw [hunf]; simp
    · exact hdone j x hx e hjp (by simp [clash0, hD, hDx])
  have hsame : isDx E o.op = true → (st m).st = (st i).st := by
    intro hD
    have hno : ∀ j x, R[j]? = some x → (i ≤ j ∧ j < m ∨ m ≤ j ∧ j < i) → isDx E x.op = false := by
      intro j x hx hj
      cases hDx : isDx E x.op with
      | false => rfl
      | true =>
        have hjp : j = p → ¬ Pend E R p listed := fun e hP => by
          have := hip hP hD
          have := hmP hP
          omega
        have h1 := hDs hD j x hx hDx hjp
        have h2 := hmD j x hx hDx hjp
        rcases hj with hj | hj
        · have := h1.1 (h2.2 hj.2); omega
        · have := h2.1 (h1.2 hj.2); omega
    rcases Nat.le_total i m with h | h
    · have := st_same hT (i := i) (m - i) (by omega) (fun j x h1 h2 h3 => hno j x h3 (.inl ⟨h1, by omega⟩))
      rwa [show i + (m - i) = m from by omega] at this
    · have := st_same hT (i := m) (i - m) (by omega) (fun j x h1 h2 h3 => hno j x h3 (.inr ⟨h1, by omega⟩))
      rw [show m + (i - m) = i from by omega] at this
      exact this.symm
  have afterD : isDx E o.op = true → ∀ j x, R[j]? = some x → isDx E x.op = true → (j = p → ¬ Pend E R p listed) → ((listed.setIfInBounds i true).getD j false = true ↔ j < i + 1) := by
    intro hD j x hx hDx hjp
    by_cases e : j = i
    · subst e; rw [hset]; simp
    · rw [getD_set_ne false (Ne.symm e), hDs hD j x hx hDx hjp]; omega
  have hiP : isDx E o.op = true → Pend E R p listed → i + 1 ≤ p := fun hD hP => hip hP hD
  unfold wpOp
  rw [ho]
  simp only
  have hRR : Rep N ⟨tmE, (st m).st⟩ a w σ β := hR
  rcases ht with ⟨hg, hv, hs'⟩ | ⟨hg, hD, hv, hs'⟩ | ⟨hg, hD, hx, hs', _⟩
  · -- left out
    have hw : Region.wanted o (yielded R a.tmps) = false := by
      rw [← hgd] at hg
      unfold gd at hg
      split at hg
      · cases hg
      · rename_i j want hgu
        split at hg
        · rename_i x hx
          have hy := yielded_bool (s := ⟨tmE, (st m).st⟩) hRR hx
          have hne : x ≠ want := by
            intro e
            rw [e] at hg
            simp at hg
          simp [Region.wanted, hgu, hy, hne]
        · rename_i hx
          have hy := yielded_undef (s := ⟨tmE, (st m).st⟩) hRR hx
          simp [Region.wanted, hgu, hy]
        · cases hg
    rw [if_neg (by rw [hw]; simp)]
    have hvu : RepV w σ (st m).st β (vs i) undef := by rw [hv]; exact undef_rep
    by_cases hD : isDx E o.op = true
    · have hsm := hsame hD
      have hs1 : (st (i + 1)).st = (st m).st := by rw [hsm, hs']; cases o.dst <;> rfl
      refine fin (i + 1) _ w σ β hlt (afterD hD) (hiP hD) (fun d hd => put_other hd) (by rw [hs1]; exact rep_put hdn hsz hdf hS hR.T hvu) (by rw [hs1]; exact Step.of_grow (Grow.refl hS.live)) (by rw [hs1]; exact Keep.refl _ _)
    · exact quiet w σ undef (by simpa using hD) (Grow.refl hS.live) hvu
  all_goals
    have hw : Region.wanted o (yielded R a.tmps) = true := by
      rw [← hgd] at hg
      unfold gd at hg
      split at hg
      · rename_i hgu; simp [Region.wanted, hgu]
      · rename_i j want hgu
        split at hg
        · rename_i x hx
          have hy := yielded_bool (s := ⟨tmE, (st m).st⟩) hRR hx
          simp at hg
          simp [Region.wanted, hgu, hy, hg]
        · cases hg
        · cases hg
    rw [if_pos hw]
    left
  · -- a quiet one
    rcases hv with ⟨c, hc, hcn⟩ | ⟨hcond, hval⟩
    · have hcn' := callN_tm (tm' := tmE) (fun x hx => hev x (by rw [hc]; exact hx)) hcn
      unfold callN at hcn'
      split at hcn'
      · rename_i x hcx
        split at hcn'
        · rename_i f caps hex
          have hcall : callW P c ⟨tmE, (st m).st⟩ o.dst (fun t => t = St.put ⟨tmE, (st m).st⟩ o.dst (vs i)) := by
            unfold callW
            rw [hcx]
            simp only [hex]
            exact .inl ⟨_, hcn' (st m).st, fun r S' hp => by rw [hp.1, hp.2]⟩
          refine Oper.wp_mono ?_ (Oper.wp_put (call_sound (Q := Q) hc hdn hRR hcall))
          rintro a' w' ⟨⟨s'', σ', β', hR', hst', hkp', hK⟩, ha'⟩
          subst hK
          rw [put_st] at hst' hkp'
          exact fin m a' w' σ' β' hm (keepD hD) hmP ha' hR' hst' hkp'
        · exact hcn'.elim
      · exact hcn'.elim
    · have hcv : isCallV o.op = false := by
        cases hc : isCallV o.op with
        | false => rfl
        | true =>
          exfalso
          unfold isCallV at hc
          split at hc
          · rename_i x b c hop
            rw [hop] at hcond
            exact no_false hcond
          · cases hc
      have hnost : ∀ k, refs (st i).tm o k → ∀ j x, R[j]? = some x → (i ≤ j ∧ j < m ∨ m ≤ j ∧ j < i) → isSx E x.op = false ∨ getO (st (j + 1)).st k = getO (st j).st k := by
        intro k hk j x hx hj
        cases hs : isSx E x.op with
        | false => exact .inl rfl
        | true =>
          have hDx : isDx E x.op = true := isSx_isDx hs
          have hji : j ≠ i := fun e => by rw [e, ho] at hx; cases hx; rw [hD] at hDx; cases hDx
          rcases hok.store j i x o hji hx ho hs hD hcv with hb | hb
          · have h1 := hbit j x hx hji hb
            have h2 := hmD j x hx hDx (fun e => by
              subst e
              have := (alloc_dx (E := E) (hok.pend x hx).1).2.1
              rw [hs] at this; cases this)
            rcases hj with hj | hj
            · have := h1.1 (h2.2 hj.2); omega
            · have := h2.1 (h1.2 hj.2); omega
          · exact .inr (hb k hk)
      have e1 := nval_tm (P := P) (S := (st i).st) (tm := (st i).tm) (tm' := tmE) (op := o.op) hev
      rw [e1] at hcond hval
      have e2 : nvalL P (labS (st i).st) (st m).st tmE o.op = nvalL P (labS (st i).st) (st i).st tmE o.op := by
       cases hmv : isMv o.op with
       | true => exact nvalL_mv hmv
       | false =>
        exact nval_fix (P := P) (l := labS (st i).st) (S := (st i).st) (S' := (st m).st) (tm := tmE) (op := o.op) hcond (by
        intro x hx k hk ob hob hbr
        have hrf : refs (st i).tm o k := ⟨hmv, x, hx, by rw [hev x hx]; exact hk⟩
        rcases Nat.le_total i m with h | h
        · have hds := st_ks hT (i := i) (k := k) (m - i) (by omega) (fun j x h1 h2 h3 => hnost k hrf j x h3 (.inl ⟨h1, by omega⟩))
          rw [show i + (m - i) = m from by omega] at hds
          rcases hds ob hob with h' | ⟨⟨z, es, e⟩, _⟩
          · exact h'
          · rcases e with e | ⟨_, e⟩ <;> rw [e] at hbr <;> exact hbr.elim
        · have hds := st_ks hT (i := m) (k := k) (i - m) (by omega) (fun j x h1 h2 h3 => hnost k hrf j x h3 (.inr ⟨h1, by omega⟩))
          rw [show m + (i - m) = i from by omega] at hds
          have hrx := rep_ev (a := a) hR.T x
          have hin : ∃ o', getO (st m).st k = some o' := by
            rcases hk with ⟨off, e⟩ | ⟨i', off, e⟩ | e | e | ⟨r', p', e⟩ | ⟨r', p', z', i', off, e⟩ <;> rw [show ev (⟨tmE, (st m).st⟩ : St).tm x = ev tmE x from rfl, e] at hrx <;> obtain ⟨⟨o', ho', _⟩, _⟩ := hrx <;> exact ⟨o', ho'⟩
          obtain ⟨o', ho'⟩ := hin
          rcases hds o' ho' with h' | ⟨_, o2, z, es, h', e⟩
          · rw [hob] at h'; cases h'; exact ho'
          · rw [hob] at h'; cases h'
            rcases e with e | ⟨_, e⟩ <;> rw [e] at hbr <;> exact hbr.elim)
      have hcond' : (nvalL P (labS (st i).st) (st m).st tmE o.op).1 := by rw [e2]; exact hcond
      have hval' : vs i = (nvalL P (labS (st i).st) (st m).st tmE o.op).2 := by rw [e2]; exact hval
      obtain ⟨v, w', σ', hrun, hgr, hrv⟩ := nvalL_sound (P := P) _ o hS hR.T hcond'
      unfold Oper.wp
      rw [hrun]
      exact quiet w' σ' v hD hgr (by rw [hval']; exact hrv)
  · have hsm := hsame hD
    have hx' : execW P o ⟨(st i).tm, (st i).st⟩ (fun t => t = St.put ⟨(st i).tm, (st (i + 1)).st⟩ o.dst (vs i)) := by
      rw [hs'] at hx
      exact hx
    have hx2 := execX_tm hD hev hx'
    rw [← hsm] at hx2
    refine Oper.wp_mono ?_ (Oper.wp_put (exec_sound (Q := Q) hdn hRR hx2))
    rintro a' w' ⟨⟨s'', σ', β', hR', hst', hkp', hK⟩, ha'⟩
    subst hK
    rw [put_st] at hst' hkp'
    exact fin (i + 1) a' w' σ' β' hlt (afterD hD) (hiP hD) ha' hR' hst' hkp'
theorem mid_all {st : Nat → St} {vs : Nat → V} {β0 : Hs} {σ0 : Nat → Nat} {w0 : World} {Q : Exit → Act → World → Prop} {p : Nat} (hok : DOk E R N st p)
    (hT : ∀ i, i < R.size → ∃ o, R[i]? = some o ∧ TStep P E R o (st i) (vs i) (st (i + 1))) (hQ : ∀ listed a w, Mid P N E R p st vs β0 σ0 w0 listed a w → (∀ i, i < R.size → listed.getD i false = true) → Q .normal a w) :
    ∀ (fuel : Nat) (listed : Array Bool) (a : Act) (w : World), (List.range R.size).countP (fun i => !listed.getD i false) ≤ fuel → Mid P N E R p st vs β0 σ0 w0 listed a w → wpAny P .any R Q fuel listed a w := by
  have hend : ∀ listed a w, Mid P N E R p st vs β0 σ0 w0 listed a w → Region.ready .any R listed = [] → Q .normal a w := by
    intro listed a w hM hr
    refine hQ listed a w hM ?_
    intro i
    induction i using Nat.strongRecOn with
    | _ i ih =>
      intro hi
      cases hE : listed.getD i false with
      | true => rfl
      | false =>
        exfalso
        have ho : R[i]? = some R[i] := Array.getElem?_eq_getElem hi
        have : i ∈ Region.ready .any R listed := by
          rw [mem_ready]
          have hs : i < listed.size := by rw [hM.size]; exact hi
          refine ⟨by simp [hs] at hE ⊢; exact hE, _, ho, fun e he hb => ?_⟩
          have hon := hok.edge i _ e ho he hb
          exact ih e.on hon (by omega)
        rw [hr] at this
        simp at this
  intro fuel
  induction fuel with
  | zero =>
    intro listed a w hc hM
    have hnone : Region.ready .any R listed = [] := by
      cases hr : Region.ready .any R listed with
      | nil => rfl
      | cons i l =>
        exfalso
        have hi : i ∈ Region.ready .any R listed := by rw [hr]; simp
        obtain ⟨hun, o, ho, _⟩ := mem_ready.1 hi
        have hlt := (Array.getElem?_eq_some_iff.1 ho).1
        have hs : i < listed.size := by rw [hM.size]; exact hlt
        have hz : (List.range R.size).countP (fun i => !listed.getD i false) = 0 := by omega
        rw [List.countP_eq_zero] at hz
        have := hz i (List.mem_range.2 hlt)
        simp [hs] at hun this
        rw [hun] at this; cases this
    exact ⟨hnone, hend listed a w hM hnone⟩
  | succ fuel ih =>
    intro listed a w hc hM
    refine ⟨hend listed a w hM, fun i hi => ?_⟩
    refine wpOp_mono (fun a' w' hM' => ih _ a' w' ?_ hM') (mid_step hok hT hM hi)
    obtain ⟨hun, o, ho, _⟩ := mem_ready.1 hi
    have hlt := (Array.getElem?_eq_some_iff.1 ho).1
    have hs : i < listed.size := by rw [hM.size]; exact hlt
    have := cnt_lt (fun j => !listed.getD j false) (fun j => !(listed.setIfInBounds i true).getD j false) (List.range R.size) i (fun x hx => by
      by_cases e : x = i
      · subst e; simp [hs] at hx
      · rw [getD_set_ne false (Ne.symm e)] at hx; exact hx) (List.mem_range.2 hlt) (by simp [hs] at hun ⊢; exact hun) (by simp [hs])
    omega
theorem aw_draw0 {id : Nat} {Q : Exit → St → Prop} {s : St} (hmix : P.follows .mixedOrders = true) {st : Nat → St} {vs : Nat → V} (h0 : st 0 = s) (hK : Q .normal (st R.size))
    (hT' : ∀ i, i < R.size → ∃ o, R[i]? = some o ∧ TStep P E R o (st i) (vs i) (st (i + 1))) {p : Nat} (hok : DOk E R N st p) : AW P N (.region id R true) Q s := by
  intro a w σ β hR
  refine wp_region_any hmix ?_
  have hgd : Grow w σ { w with drawn := w.drawn + 1 } σ := ⟨Nat.le_refl _, rfl, rfl, fun _ _ => ⟨rfl, rfl⟩, hR.S.live⟩
  refine mid_all (N := N) (β0 := β) (σ0 := σ) (w0 := w) hok hT' (fun listed a' w' hM hall => ?_) R.size _ a _ ?_ ?_
  · obtain ⟨m, hm, hmD, σ', β', hsz, hdf, hS, hT2, hst, hkp, _⟩ := hM.rep
    have hnP : ¬ Pend E R p listed := by
      rintro ⟨_, _, j, x, hj, hx, _, hl⟩
      rw [hall j (Array.getElem?_eq_some_iff.1 hx).1] at hl; cases hl
    have hsm : (st R.size).st = (st m).st := by
      have := st_same hT' (i := m) (R.size - m) (by omega) (fun j x h1 h2 h3 => by
        cases hDx : isDx E x.op with
        | false => rfl
        | true => have := (hmD j x h3 hDx (fun _ => hnP)).1 (hall j (Array.getElem?_eq_some_iff.1 h3).1); omega)
      rwa [show m + (R.size - m) = R.size from by omega] at this
    rw [h0] at hst hkp
    refine ⟨st R.size, σ', β', ⟨hsz, hdf, by rw [hsm]; exact hS, fun t => ?_⟩, by rw [hsm]; exact hst, by rw [hsm]; exact hkp.tail, hK⟩
    rw [text_look hT' t R.size (Nat.le_refl _), hsm]
    have := hT2 t
    unfold lookP at this
    rw [if_neg (fun h => hnP h.1)] at this
    rw [lookE_congr (E' := fun _ => true) R.size (fun j hj _ => hall j hj)] at this
    exact this
  · calc (List.range R.size).countP _ ≤ (List.range R.size).length := List.countP_le_length
      _ = R.size := List.length_range
  · refine ⟨by simp, fun i o e ho hE _ _ => ?_, 0, Nat.zero_le _, fun i o ho _ => ?_, σ, β, hR.size, hR.defers, by rw [h0]; exact hR.S.grow hgd, fun t => ?_, by rw [h0]; exact Step.of_grow hgd, Keep.refl _ _, fun h => by have h1 := h.1; rw [getD_replicate_false] at h1; cases h1⟩
    · rw [getD_replicate_false] at hE; cases hE
    · rw [getD_replicate_false]; simp
    · have : lookE R vs (fun i => (Array.replicate R.size false).getD i false) (st 0).tm R.size t = look (st 0).tm t := by
        have := lookE_agree (R := R) (vs := vs) (E := fun i => (Array.replicate R.size false).getD i false) (base := (st 0).tm) (t := t) (i := 0) R.size (fun j _ _ => by rw [getD_replicate_false]; simp)
        rw [this, Nat.min_zero]; rfl
      unfold lookP
      rw [if_neg (fun h => by have h1 := h.1.1; rw [getD_replicate_false] at h1; cases h1), this, h0]
      exact (hR.T t).mono hgd.near (Keep.refl _ _)
theorem aw_draw {id : Nat} {Q : Exit → St → Prop} {s : St} (hmix : P.follows .mixedOrders = true) (hok : drawOk E R N = true) (h : dops P E R R.toList s (Q .normal)) : AW P N (.region id R true) Q s := by
  obtain ⟨st, vs, h0, hK, hT⟩ := dops_run R.size 0 (by omega) s h
  exact aw_draw0 hmix h0 hK (fun i hi => hT i (Nat.zero_le i) hi) (dok_of hok)
theorem aw_drawP {id p : Nat} {Q : Exit → St → Prop} {s : St} (hmix : P.follows .mixedOrders = true) (hok : drawOkP E R N p = true) (h : dops P E R R.toList s (Q .normal)) : AW P N (.region id R true) Q s := by
  obtain ⟨st, vs, h0, hK, hT⟩ := dops_run R.size 0 (by omega) s h
  exact aw_draw0 hmix h0 hK (fun i hi => hT i (Nat.zero_le i) hi) (dok_ofP hok)
theorem aw_drawAny {id : Nat} {Q : Exit → St → Prop} {s : St} (hmix : P.follows .mixedOrders = true) (hok : drawAny R N = true) (h : dops P (autoE R N) R R.toList s (Q .normal)) : AW P N (.region id R true) Q s := by
  unfold drawAny at hok
  rw [Bool.or_eq_true] at hok
  rcases hok with hok | hok
  · exact aw_draw hmix hok h
  · split at hok
    · exact aw_drawP hmix hok h
    · cases hok
theorem awayB_spec {v w : V} (h : awayB v w = true) {k k' : Key} (hv : (∃ off, v = .c (.ptr k' off)) ∨ (∃ i off, v = .c (.eptr k' i off)) ∨ ∃ r p z i off, v = .c (.xq k' r p z i off))
    (hw : RefTo w k) : k' ≠ k := by
  rintro rfl
  rcases hv with ⟨_, rfl⟩ | ⟨_, _, rfl⟩ | ⟨_, _, _, _, _, rfl⟩ <;> rcases hw with ⟨_, rfl⟩ | ⟨_, _, rfl⟩ | rfl | rfl | ⟨_, _, rfl⟩ | ⟨_, _, _, _, _, rfl⟩ <;> simp [awayB] at h
theorem tstep_store {o : Oper} {t : TypeId} {a y : Operand} {s s' : St} {v : V} (hop : o.op = .store t a y) (h : TStep P E R o s v s') {k : Key}
    (hk : ∀ k', ((∃ off, ev s.tm a = .c (.ptr k' off)) ∨ (∃ i off, ev s.tm a = .c (.eptr k' i off)) ∨ ∃ r p z i off, ev s.tm a = .c (.xq k' r p z i off)) → k' ≠ k) : getO s'.st k = getO s.st k := by
  rcases h with ⟨_, _, h⟩ | ⟨_, _, _, h⟩ | ⟨_, _, h, _, _⟩
  · rw [h]; cases o.dst <;> rfl
  · rw [h]; cases o.dst <;> rfl
  · obtain ⟨dst, op, ty, pos, after, guard⟩ := o
    subst hop
    simp only [execW, storeW] at h
    split at h
    · rename_i k' off he
      split at h
      · obtain ⟨_, _, _, h4⟩ := h
        rw [← h4, put_st]
        exact getO_setO_ne _ _ _ _ (hk k' (.inl ⟨_, he⟩))
      · exact h.elim
    · rename_i k' i off he
      split at h
      · obtain ⟨_, _, _, _, h5⟩ := h
        rw [← h5, put_st]
        exact getO_setO_ne _ _ _ _ (hk k' (.inr (.inl ⟨_, _, he⟩)))
      · exact h.elim
    · rename_i k' r p z i off he
      split at h
      · split at h
        · split at h
          · obtain ⟨_, _, _, _, _, h6⟩ := h
            rw [← h6, put_st]
            exact getO_setO_ne _ _ _ _ (hk k' (.inr (.inr ⟨_, _, _, _, _, he⟩)))
          · exact h.elim
        · exact h.elim
      · exact h.elim
    · exact h.elim
theorem settled_ev {st : Nat → St} {vs : Nat → V} (hT : ∀ i, i < R.size → ∃ o, R[i]? = some o ∧ TStep P E R o (st i) (vs i) (st (i + 1))) {i : Nat} (hi : i ≤ R.size) {a : Operand} (h : settled R i a = true) :
    ev (st R.size).tm a = ev (st i).tm a := by
  cases a with
  | tmp t =>
    show look _ t = look _ t
    have key : ∀ n, i + n ≤ R.size → look (st (i + n)).tm t = look (st i).tm t := by
      intro n
      induction n with
      | zero => intro _; rfl
      | succ n ih =>
        intro hn
        rw [text_look hT t (i + (n + 1)) hn, show i + (n + 1) = i + n + 1 from rfl, lookE, if_neg, ← text_look hT t (i + n) (by omega), ih (by omega)]
        rintro ⟨_, hd⟩
        have := List.all_eq_true.1 h (i + n) (List.mem_range.2 (by omega))
        rw [hd] at this
        simp at this
        omega
    have := key (R.size - i) (by omega)
    rwa [show i + (R.size - i) = R.size from by omega] at this
  | _ => rfl
theorem dok_lone0 {st : Nat → St} {vs : Nat → V} {p : Nat} (hed : ∀ (i : Nat) (o : Oper), R[i]? = some o → (o.after.toList.all (fun e => !Region.binds .any e || decide (e.on < i)) && (match o.dst with | some d => decide (d < N) | none => true)) = true)
    (hpd : ∀ o, R[p]? = some o → isAlloc o.op = true ∧ o.guard = none ∧ (∃ d, o.dst = some d) ∧ ∀ j y, j ≠ p → R[j]? = some y → y.apart R o = false → ∀ i x, i < p → R[i]? = some x → isDx E x.op = true → i < j ∧ ((masks R.toList []).getD j 0).testBit i = true)
    (hp : ∀ (i j : Nat) (x y : Oper), i < j → R[i]? = some x → R[j]? = some y → ((masks R.toList []).getD j 0).testBit i = true ∨ (x.apart R y = true ∧ (j = p ∨ ((isDx E x.op && isDx E y.op) = false ∧ (isSx E x.op = true → loneOk R i x j y = true) ∧ (isSx E y.op = true → loneOk R j y i x = true)))))
    (hT : ∀ i, i < R.size → ∃ o, R[i]? = some o ∧ TStep P E R o (st i) (vs i) (st (i + 1))) (hl : loneB E R (st R.size).tm = true) : DOk E R N st p := by
  refine ⟨?_, ?_, ?_, ?_, hpd⟩
  · intro i o e ho he hb
    have h2 := hed i o ho
    simp only [Bool.and_eq_true] at h2
    have h3 := List.all_eq_true.1 h2.1 e (by simpa using he)
    simpa [hb] using h3
  · intro i o ho d hd
    have h2 := hed i o ho
    simp only [Bool.and_eq_true, hd] at h2
    simpa using h2.2
  · intro i j x y hij hx hy hc
    rcases hp i j x y hij hx hy with h | ⟨h1, h⟩
    · exact .inl h
    · unfold clash0 at hc
      rw [h1] at hc
      simp only [Bool.not_true, Bool.false_or] at hc
      rcases h with h | ⟨h, _⟩
      · rw [Bool.and_eq_true] at hc
        exact .inr ⟨h, hc.1, h1⟩
      · rw [hc] at h; cases h
  · intro i j x o hij hx ho hs hD hc
    have hjp : j ≠ p := fun e => by
      subst e
      have := (alloc_dx (E := E) (hpd o ho).1).1
      rw [hD] at this; cases this
    have hip : i ≠ p := fun e => by
      subst e
      have := (alloc_dx (E := E) (hpd x hx).1).2.1
      rw [hs] at this; cases this
    cases hb : bitIn R i j with
    | true => exact .inl rfl
    | false =>
      refine .inr ?_
      rintro k ⟨_, z, hz, hk⟩
      have hi : i < R.size := (Array.getElem?_eq_some_iff.1 hx).1
      have hj : j < R.size := (Array.getElem?_eq_some_iff.1 ho).1
      have hlo : loneOk R i x j o = true := by
        unfold bitIn at hb
        by_cases e : i < j
        · rw [if_pos e] at hb
          rcases hp i j x o e hx ho with h | ⟨_, h | ⟨_, h, _⟩⟩
          · rw [hb] at h; cases h
          · exact absurd h hjp
          · exact h hs
        · rw [if_neg e] at hb
          rcases hp j i o x (by omega) ho hx with h | ⟨_, h | ⟨_, _, h⟩⟩
          · rw [hb] at h; cases h
          · exact absurd h hip
          · exact h hs
      unfold loneOk at hlo
      rw [hc, Bool.false_or] at hlo
      split at hlo
      · rename_i t a y hop
        rw [Bool.and_eq_true] at hlo
        have hz' : z ∈ o.op.operands.toList := by simpa using hz
        have hsz := List.all_eq_true.1 hlo.2 z hz'
        have h1 := List.all_eq_true.1 hl i (List.mem_range.2 hi)
        rw [hx] at h1
        simp only [hs, Bool.not_true, Bool.false_or, hop] at h1
        have h2 := List.all_eq_true.1 h1 j (List.mem_range.2 hj)
        rw [ho] at h2
        simp only [hb, hD, hc, Bool.false_or] at h2
        have h3 := List.all_eq_true.1 h2 z hz'
        obtain ⟨x', hx', ht⟩ := hT i hi
        rw [hx] at hx'; cases hx'
        refine tstep_store hop ht fun k' hk' => ?_
        rw [settled_ev hT (by omega) hlo.1, settled_ev hT (by omega) hsz] at h3
        exact awayB_spec h3 hk' hk
      · cases hlo
theorem draw_parts {f : Nat → Nat → Oper → Oper → Bool} (h : ((List.range R.size).all fun j =>
    (match R[j]? with
     | some o => o.after.toList.all (fun e => !Region.binds .any e || decide (e.on < j)) && (match o.dst with | some d => decide (d < N) | none => true)
     | none => true) &&
    (List.range j).all fun i =>
      match R[i]?, R[j]? with
      | some x, some y => ((masks R.toList []).getD j 0).testBit i || !(f i j x y)
      | _, _ => true) = true) :
    (∀ (i : Nat) (o : Oper), R[i]? = some o → (o.after.toList.all (fun e => !Region.binds .any e || decide (e.on < i)) && (match o.dst with | some d => decide (d < N) | none => true)) = true) ∧
    ∀ (i j : Nat) (x y : Oper), i < j → R[i]? = some x → R[j]? = some y → ((masks R.toList []).getD j 0).testBit i = true ∨ f i j x y = false := by
  refine ⟨fun i o ho => ?_, fun i j x y hij hx hy => ?_⟩
  · have hj : i < R.size := (Array.getElem?_eq_some_iff.1 ho).1
    have h1 := List.all_eq_true.1 h i (List.mem_range.2 hj)
    rw [Bool.and_eq_true, ho] at h1
    exact h1.1
  · have hj : j < R.size := (Array.getElem?_eq_some_iff.1 hy).1
    have h1 := List.all_eq_true.1 h j (List.mem_range.2 hj)
    rw [Bool.and_eq_true] at h1
    have h2 := List.all_eq_true.1 h1.2 i (List.mem_range.2 hij)
    rw [hx, hy] at h2
    simp only [Bool.or_eq_true, Bool.not_eq_true'] at h2
    exact h2
theorem dok_lone {st : Nat → St} {vs : Nat → V} (hok : drawOkL E R N = true) (hT : ∀ i, i < R.size → ∃ o, R[i]? = some o ∧ TStep P E R o (st i) (vs i) (st (i + 1))) (hl : loneB E R (st R.size).tm = true) : DOk E R N st R.size := by
  obtain ⟨h1, h2⟩ := draw_parts (f := fun i j x y => clash0 E R x y || (isSx E x.op && !(loneOk R i x j y)) || (isSx E y.op && !(loneOk R j y i x))) hok
  refine dok_lone0 h1 (fun o ho => by rw [Array.getElem?_eq_none (Nat.le_refl _)] at ho; cases ho) (fun i j x y hij hx hy => (h2 i j x y hij hx hy).imp id fun h => ?_) hT hl
  simp only [clash0, Bool.or_eq_false_iff, Bool.not_eq_false', Bool.and_eq_false_imp] at h
  obtain ⟨⟨⟨q1, q2⟩, q3⟩, q4⟩ := h
  refine ⟨q1, .inr ⟨?_, q3, q4⟩⟩
  cases hx : isDx E x.op with
  | false => rfl
  | true => rw [q2 hx]; rfl
theorem aw_draw_lone {id : Nat} {Q : Exit → St → Prop} {s : St} (hmix : P.follows .mixedOrders = true) (hok : drawOkL E R N = true) (h : dops P E R R.toList s (fun s' => loneB E R s'.tm = true ∧ Q .normal s')) : AW P N (.region id R true) Q s := by
  obtain ⟨st, vs, h0, hK, hT⟩ := dops_run R.size 0 (by omega) s h
  have hT' := fun i hi => hT i (Nat.zero_le i) hi
  exact aw_draw0 hmix h0 hK.2 hT' (dok_lone hok hT' hK.1)
end
end Go.Ab

namespace Go.Ab
section
variable {P : Program} {w w' : World} {σ σ' : Nat → Nat} {S S' : Store} {β β' : Hs} {N : Nat} {s : St} {a : Act}
theorem aw_ghost {c : Code} {Q : Exit → St → Prop} {s s' : St} (h : AW P N c Q s')
    (hg : ∀ (a : Act) (w : World) (σ : Nat → Nat) (β : Hs), Rep N s a w σ β → ∃ σ' β', Rep N s' a w σ' β' ∧ Step s.st β σ w s'.st β' σ' w ∧ Keep (tail1 s.st) (tail1 β) (tail1 s'.st) (tail1 β')) : AW P N c Q s := by
  intro a w σ β hR
  obtain ⟨σ', β', hR', hst, hk⟩ := hg a w σ β hR
  refine wp_mono (h a w σ' β' hR') ?_
  rintro e a' w' ⟨s'', σ'', β'', k1, k2, k3, k4⟩
  exact ⟨s'', σ'', β'', k1, hst.trans k2, hk.trans k3, k4⟩
def Ghost (N : Nat) (s s' : St) : Prop := ∀ (a : Act) (w : World) (σ : Nat → Nat) (β : Hs), Rep N s a w σ β → ∃ σ' β', Rep N s' a w σ' β' ∧ Step s.st β σ w s'.st β' σ' w ∧ Keep (tail1 s.st) (tail1 β) (tail1 s'.st) (tail1 β')
theorem Ghost.refl (N : Nat) (s : St) : Ghost N s s := fun a w σ β hR => ⟨σ, β, hR, Step.of_grow (Grow.refl hR.S.live), Keep.refl _ _⟩
theorem Ghost.trans {s s' s'' : St} (h : Ghost N s s') (k : Ghost N s' s'') : Ghost N s s'' := fun a w σ β hR => by
  obtain ⟨σ1, β1, r1, st1, k1⟩ := h a w σ β hR
  obtain ⟨σ2, β2, r2, st2, k2⟩ := k a w σ1 β1 r1
  exact ⟨σ2, β2, r2, st1.trans st2, k1.trans k2⟩
theorem tm_ghost {tm tm' : List (Nat × V)} (hl : ∀ t, look tm' t = look tm t ∨ look tm' t = .any) : Ghost N ⟨tm, S⟩ ⟨tm', S⟩ :=
  fun a w σ β hR => ⟨σ, β, ⟨hR.size, hR.defers, hR.S, fun t => by
    rcases hl t with e | e
    · show RepV w σ S β (look tm' t) _; rw [e]; exact hR.T t
    · show RepV w σ S β (look tm' t) _; rw [e]; trivial⟩, Step.of_grow (Grow.refl hR.S.live), Keep.refl _ _⟩
theorem aw_tm {c : Code} {Q : Exit → St → Prop} {tm tm' : List (Nat × V)} (h : AW P N c Q ⟨tm', S⟩) (hl : ∀ t, look tm' t = look tm t ∨ look tm' t = .any) : AW P N c Q ⟨tm, S⟩ :=
  aw_ghost h fun a w σ β hR => ⟨σ, β, ⟨hR.size, hR.defers, hR.S, fun t => by
    rcases hl t with e | e
    · show RepV w σ S β (look tm' t) _; rw [e]; exact hR.T t
    · show RepV w σ S β (look tm' t) _; rw [e]; trivial⟩, Step.of_grow (Grow.refl hR.S.live), Keep.refl _ _⟩
def C.bor : C → C
  | .tsl _ es => .d (.sl es)
  | .fsl es => .d (.sl es)
  | c => c
def V.bor : V → V
  | .c x => .c x.bor
  | .agg cs => .agg (cs.map C.bor)
  | v => v
theorem rep_borC {c : C} {v : Value} (h : RepC w σ S β c v) : RepC w σ S β c.bor v := by
  cases c with
  | tsl k es => exact h.1
  | fsl es => exact h.1
  | _ => exact h
theorem rep_borV {x : V} {v : Value} (h : RepV w σ S β x v) : RepV w σ S β x.bor v := by
  cases x with
  | c x => exact ⟨rep_borC h.1, h.2⟩
  | agg cs =>
    obtain ⟨ar, ha, hl, hc⟩ := h
    refine ⟨ar, ha, by simpa using hl, fun j x hx => ?_⟩
    rw [List.getElem?_map] at hx
    cases hcj : cs[j]? with
    | none => rw [hcj] at hx; cases hx
    | some y =>
      rw [hcj] at hx; cases hx
      obtain ⟨v, hv, hr, ho⟩ := hc j y hcj
      exact ⟨v, hv, rep_borC hr, ho⟩
  | _ => exact h
theorem ACall.weaken {f : FuncId} {args args' : List V} {post : V → Store → Prop} (h : ACall P f args' S post) (hl : args.length = args'.length)
    (hw : ∀ (j : Nat) (x y : V), args[j]? = some x → args'[j]? = some y → ∀ w σ β v, RepV w σ S β x v → RepV w σ S β y v) : ACall P f args S post := by
  refine ⟨h.1, fun w σ β vs hS hv => h.2 w σ β vs hS ⟨by rw [← hl]; exact hv.1, fun j y hy => ?_⟩⟩
  have hj := (List.getElem?_eq_some_iff.1 hy).1
  have hx : args[j]? = some (args[j]'(by omega)) := List.getElem?_eq_getElem (by omega)
  obtain ⟨v, h1, h2⟩ := hv.2 j _ hx
  exact ⟨v, h1, hw j _ y hx hy w σ β v h2⟩
theorem ACall.bor {f : FuncId} {args : List V} {post : V → Store → Prop} (h : ACall P f (args.map V.bor) S post) : ACall P f args S post :=
  h.weaken (by simp) fun j x y hx hy w σ β v hr => by
    rw [List.getElem?_map, hx] at hy
    cases hy
    exact rep_borV hr
theorem ACall.mono {f : FuncId} {args : List V} {post post' : V → Store → Prop} (h : ACall P f args S post) (hp : ∀ r S', post r S' → post' r S') : ACall P f args S post' :=
  ⟨h.1, fun w σ β vs hS hv => (h.2 w σ β vs hS hv).mono fun e w' ⟨v, r, S', σ', β', h1, h2, h3, h4, h5, h6⟩ => ⟨v, r, S', σ', β', h1, h2, h3, h4, h5, hp _ _ h6⟩⟩
theorem callW_pure {f : FuncId} {args : List V} {s : St} {dst : Option Nat} {K : St → Prop} {r : V} (h : PCall P f (args.map V.bor) r) (hK : K (St.put s dst r)) : CallW P f args s dst K :=
  .inl ⟨_, (h s.st).bor, fun r' S' hp => by rw [hp.1, hp.2]; exact hK⟩
theorem aw_tok {c : Code} {Q : Exit → St → Prop} {tm : List (Nat × V)} {own : List Obj} {Ω : Store} (t esz : Nat) (es : List (List D)) (hv : look tm t = .c (.fsl es)) (hes : ∀ e ∈ es, e.length = esz)
    (h : AW P N c Q ⟨(t, .c (.tsl (0, own.length) es)) :: tm, (own ++ [.tok esz es]) :: Ω⟩) : AW P N c Q ⟨tm, own :: Ω⟩ := by
  refine aw_ghost h fun a w σ β hR => ?_
  obtain ⟨bo, bΩ, rfl, hlen⟩ := frames hR
  have ht := hR.T t
  rw [hv] at ht
  obtain ⟨⟨hd, ad, n, hval⟩, hone⟩ := ht
  have hn : n = es.length := by rw [hval] at hd; cases hd <;> rfl
  have hg : Grow w σ w σ := Grow.refl hR.S.live
  obtain ⟨hS', hk, hst⟩ := hR.S.push (o := .tok esz es) (h := a.tmps.getD t undef) hg hlen ⟨hd, hes, ad, n, by rw [hval, hn], by omega, .inl hn⟩ (fun b hb => by
    rw [hval, hn] at hb
    cases ad <;> simp [owns, blk] at hb)
  refine ⟨σ, _, ⟨hR.size, hR.defers, hS', fun u => ?_⟩, hst, Keep.refl _ _⟩
  show RepV w σ _ _ (if t = u then _ else look tm u) _
  by_cases e : t = u
  · subst e
    rw [if_pos rfl]
    refine ⟨⟨hd, _, getO_push_new _ _ _, fun a b e => ?_⟩, hone⟩
    obtain ⟨_, rfl⟩ := istok_of (lab := none) e
    exact ⟨Nat.le_refl _, fun _ => by rw [← hlen, getO_push_new]⟩
  · rw [if_neg e]
    exact (hR.T u).mono (Near.refl _ _) hk
theorem aw_ltok {c : Code} {Q : Exit → St → Prop} {tm : List (Nat × V)} {own : List Obj} {Ω : Store} (n t esz : Nat) (es : List (List D)) (hv : look tm t = .c (.lfl n es) ∨ (look tm t = .c (.fsl es) ∧ es = [])) (hes : ∀ e ∈ es, e.length = esz)
    (h : AW P N c Q ⟨(t, .c (.tsl (0, own.length) es)) :: tm, (own ++ [.ltok n esz es]) :: Ω⟩) : AW P N c Q ⟨tm, own :: Ω⟩ := by
  refine aw_ghost h fun a w σ β hR => ?_
  obtain ⟨bo, bΩ, rfl, hlen⟩ := frames hR
  have ht := hR.T t
  have hl : ∃ ad, a.tmps.getD t undef = .slice ad es.length es.length ∧ RepD w σ (.ol n es) (a.tmps.getD t undef) := by
    rcases hv with hv | ⟨hv, rfl⟩
    · rw [hv] at ht
      obtain ⟨⟨hd, ad, m, hval⟩, _⟩ := ht
      have hn : m = es.length := by
        have := rep_ol hd
        rw [hval] at this
        cases this <;> rfl
      exact ⟨ad, by rw [hval, hn], hd⟩
    · rw [hv] at ht
      obtain ⟨⟨hd, ad, m, hval⟩, _⟩ := ht
      have hn : m = 0 := by rw [hval] at hd; cases hd <;> rfl
      subst hn
      exact ⟨ad, hval, by rw [hval]; exact .onil _ _ _⟩
  obtain ⟨ad, hval, hol⟩ := hl
  have hd := rep_ol hol
  have hg : Grow w σ w σ := Grow.refl hR.S.live
  obtain ⟨hS', hk, hst⟩ := hR.S.push (o := .ltok n esz es) (h := a.tmps.getD t undef) hg hlen ⟨hd, hes, ad, es.length, hval, Nat.le_refl _, .inl ⟨rfl, hol⟩⟩ (fun b hb => by
    rw [hval] at hb
    cases ad <;> simp [owns, blk] at hb)
  refine ⟨σ, _, ⟨hR.size, hR.defers, hS', fun u => ?_⟩, hst, Keep.refl _ _⟩
  show RepV w σ _ _ (if t = u then _ else look tm u) _
  by_cases e : t = u
  · subst e
    rw [if_pos rfl]
    refine ⟨⟨hd, _, getO_push_new _ _ _, fun a b e => ?_⟩, by rw [hval]; rfl⟩
    obtain ⟨_, rfl⟩ := istok_of (lab := some n) e
    exact ⟨Nat.le_refl _, fun _ => by rw [← hlen, getO_push_new]⟩
  · rw [if_neg e]
    exact (hR.T u).mono (Near.refl _ _) hk
theorem aw_seed {c : Code} {Q : Exit → St → Prop} {tm : List (Nat × V)} {Ω : Store} (n : Nat) (h : AW P N c Q ⟨tm, [.seed n] :: Ω⟩) : AW P N c Q ⟨tm, [] :: Ω⟩ := by
  refine aw_ghost h fun a w σ β hR => ?_
  obtain ⟨bo, bΩ, rfl, hlen⟩ := frames hR
  obtain ⟨hS', hk, hst⟩ := hR.S.push (o := .seed n) (h := undef) (Grow.refl hR.S.live) hlen trivial (fun b hb => by cases hb)
  exact ⟨σ, _, ⟨hR.size, hR.defers, hS', fun u => (hR.T u).mono (Near.refl _ _) hk⟩, hst, Keep.refl _ _⟩
theorem reseed_ghost {tm : List (Nat × V)} {own : List Obj} {Ω : Store} {m : Nat} (n : Nat) : Ghost N ⟨tm, (.seed m :: own) :: Ω⟩ ⟨tm, (.seed n :: own) :: Ω⟩ := by
  intro a w σ β hR
  obtain ⟨bo, bΩ, rfl, hlen⟩ := frames hR
  have h0 : getO ((Obj.seed m :: own) :: Ω) (0, 0) = some (.seed m) := rfl
  obtain ⟨h, hh, _⟩ := hR.S.obj (0, 0) _ h0
  obtain ⟨hS', hk, hst⟩ := hR.S.set (o' := .seed n) (h' := h) h0 hh (Nat.le_refl _) rfl rfl (Near.refl _ _) hR.S.live (fun _ _ _ => ⟨rfl, rfl⟩) (.inr ⟨n, rfl⟩) trivial (fun b hb => by cases hb)
  have e : setO (bo :: bΩ) (0, 0) h = bo :: bΩ := setO_setO h _ _ _ hh
  rw [e] at hS' hk hst
  exact ⟨σ, _, ⟨hR.size, hR.defers, hS', fun u => (hR.T u).mono (Near.refl _ _) hk⟩, hst, Keep.refl _ _⟩
theorem aw_reseed {c : Code} {Q : Exit → St → Prop} {tm : List (Nat × V)} {own : List Obj} {Ω : Store} {m : Nat} (n : Nat) (h : AW P N c Q ⟨tm, (.seed n :: own) :: Ω⟩) : AW P N c Q ⟨tm, (.seed m :: own) :: Ω⟩ := aw_ghost h (reseed_ghost n)
def refK (n : Nat) (k : Key) : Bool := decide (0 < k.1) || decide (k.2 < n)
def C.refs (n : Nat) : C → Bool
  | .tsl k _ => refK n k
  | .ptr k _ => refK n k
  | .eptr k _ _ => refK n k
  | .msl k => refK n k
  | .mp k => refK n k
  | .fn _ caps => caps.all fun x => refK n x.1
  | .xp k _ _ => refK n k
  | .xq k _ _ _ _ _ => refK n k
  | _ => true
def V.refs (n : Nat) : V → Bool
  | .c x => x.refs n
  | .agg cs => cs.all (C.refs n)
  | .tup xs => xs.all fun y => y.2.all (C.refs n)
  | .any => true
def Obj.refs (n : Nat) : Obj → Bool
  | .box cs => cs.all (C.refs n)
  | _ => true
theorem getO_take {α : Type} {own : List α} {Ω : List (List α)} {n : Nat} {k : Key} (h : refK n k = true) : getO (own.take n :: Ω) k = getO (own :: Ω) k := by
  obtain ⟨l, j⟩ := k
  cases l with
  | zero =>
    simp [refK] at h
    rw [getO_zero, getO_zero, List.getElem?_take_of_lt h]
  | succ l => rw [getO_succ, getO_succ]
theorem getO_take_some {α : Type} {own : List α} {Ω : List (List α)} {n : Nat} {k : Key} {o : α} (h : getO (own.take n :: Ω) k = some o) : getO (own :: Ω) k = some o ∧ refK n k = true := by
  obtain ⟨l, j⟩ := k
  cases l with
  | zero =>
    rw [getO_zero] at h ⊢
    have hj := (List.getElem?_eq_some_iff.1 h).1
    simp at hj
    rw [List.getElem?_take_of_lt (by omega)] at h
    exact ⟨h, by simp [refK]; omega⟩
  | succ l => rw [getO_succ] at h ⊢; exact ⟨h, by simp [refK]⟩
theorem rep_takeC {own : List Obj} {Ω : Store} {bo : List Value} {bΩ : Hs} {n : Nat} {c : C} {v : Value} (hr : c.refs n = true) (h : RepC w σ (own :: Ω) (bo :: bΩ) c v) : RepC w σ (own.take n :: Ω) (bo.take n :: bΩ) c v := by
  cases c with
  | d x => exact h
  | any => exact h
  | fsl es => exact h
  | rptr cs => exact h
  | tsl k es =>
    obtain ⟨h1, o, ho, h2⟩ := h
    exact ⟨h1, o, (getO_take hr).trans ho, fun a b e => by rw [getO_take hr]; exact h2 a b e⟩
  | ptr k off =>
    obtain ⟨o, ho, h2⟩ := h
    exact ⟨o, (getO_take hr).trans ho, fun a e => by rw [getO_take hr]; exact h2 a e⟩
  | eptr k i off =>
    obtain ⟨o, ho, h2⟩ := h
    exact ⟨o, (getO_take hr).trans ho, fun a b e => by rw [getO_take hr]; exact h2 a b e⟩
  | msl k =>
    obtain ⟨o, ho, h2⟩ := h
    exact ⟨o, (getO_take hr).trans ho, fun a b e => by rw [getO_take hr]; exact h2 a b e⟩
  | mp k =>
    obtain ⟨o, ho, h2⟩ := h
    exact ⟨o, (getO_take hr).trans ho, fun a e => by rw [getO_take hr]; exact h2 a e⟩
  | fn f caps =>
    obtain ⟨vs, hv, hl, h2⟩ := h
    refine ⟨vs, hv, hl, fun j k off e => ?_⟩
    obtain ⟨u, hu, h1c, o, ho, h3⟩ := h2 j k off e
    have hk : refK n k = true := List.all_eq_true.1 hr (k, off) (List.mem_of_getElem? e)
    exact ⟨u, hu, h1c, o, (getO_take hk).trans ho, fun cs e => by rw [getO_take hk]; exact h3 cs e⟩
  | lfl m es => exact h
  | xp k r p =>
    obtain ⟨o, ho, h2⟩ := h
    exact ⟨o, (getO_take hr).trans ho, fun a e => by rw [getO_take hr]; exact h2 a e⟩
  | xq k r p z i off =>
    obtain ⟨o, ho, h2⟩ := h
    exact ⟨o, (getO_take hr).trans ho, fun a e => by rw [getO_take hr]; exact h2 a e⟩
theorem rep_takeCs {own : List Obj} {Ω : Store} {bo : List Value} {bΩ : Hs} {n : Nat} {cs : List C} {vs : List Value} (hr : cs.all (C.refs n) = true) (h : RepCs w σ (own :: Ω) (bo :: bΩ) cs vs) : RepCs w σ (own.take n :: Ω) (bo.take n :: bΩ) cs vs :=
  ⟨h.1, fun j x hx => let ⟨v, hv, hc, ho⟩ := h.2 j x hx; ⟨v, hv, rep_takeC (List.all_eq_true.1 hr x (List.mem_of_getElem? hx)) hc, ho⟩⟩
theorem rep_takeV {own : List Obj} {Ω : Store} {bo : List Value} {bΩ : Hs} {n : Nat} {x : V} {v : Value} (hr : x.refs n = true) (h : RepV w σ (own :: Ω) (bo :: bΩ) x v) : RepV w σ (own.take n :: Ω) (bo.take n :: bΩ) x v := by
  cases x with
  | c x => exact ⟨rep_takeC hr h.1, h.2⟩
  | agg cs => obtain ⟨ar, ha, hc⟩ := h; exact ⟨ar, ha, rep_takeCs hr hc⟩
  | tup xs =>
    obtain ⟨ar, ha, hl, h2⟩ := h
    refine ⟨ar, ha, hl, fun j y hy => ?_⟩
    obtain ⟨u, hu, h3⟩ := h2 j y hy
    have hy' : y.2.all (C.refs n) = true := List.all_eq_true.1 hr y (List.mem_of_getElem? hy)
    refine ⟨u, hu, ?_⟩
    obtain ⟨b, cs⟩ := y
    cases b with
    | true => obtain ⟨a', e, hcs⟩ := h3; exact ⟨a', e, rep_takeCs hy' hcs⟩
    | false =>
      obtain ⟨x, e, hx, ho⟩ := h3
      subst e
      simp at hy'
      exact ⟨x, rfl, rep_takeC hy' hx, ho⟩
  | any => trivial
def tmRefs (n : Nat) (tm : List (Nat × V)) : Bool := tm.all fun x => x.2.refs n
theorem look_refs {n : Nat} : ∀ (tm : List (Nat × V)) (t : Nat), tmRefs n tm = true → (look tm t).refs n = true
  | [], _, _ => rfl
  | (x, v) :: tm, t, h => by
    simp only [tmRefs, List.all_cons, Bool.and_eq_true] at h
    rw [look]
    split
    · exact h.1
    · exact look_refs tm t h.2
theorem drop_ghost {tm : List (Nat × V)} {own : List Obj} {Ω : Store} (n : Nat) (h1 : tmRefs n tm = true) (h2 : (own.take n).all (Obj.refs n) = true) : Ghost N ⟨tm, own :: Ω⟩ ⟨tm, own.take n :: Ω⟩ := by
  intro a w σ β hR
  obtain ⟨bo, bΩ, rfl, hlen⟩ := frames hR
  have hown : ∀ b, Own (own.take n :: Ω) (bo.take n :: bΩ) b → Own (own :: Ω) (bo :: bΩ) b := by
    rintro b ⟨k, o, hv, e1, e2, e3⟩
    exact ⟨k, o, hv, (getO_take_some e1).1, (getO_take_some e2).1, e3⟩
  refine ⟨σ, bo.take n :: bΩ, ⟨hR.size, hR.defers, ⟨fun k o ho => ?_, fun k k' o o' h1 h2 b e1 e2 e3 e4 e5 e6 => ?_, ⟨by have := hR.S.shape.1; simpa using this, fun l fr hl => ?_⟩, hR.S.live, hR.S.glob⟩, fun t => rep_takeV (look_refs tm t h1) (hR.T t)⟩,
    ⟨Nat.le_refl _, rfl, rfl, fun _ _ _ => ⟨rfl, rfl⟩, Near.refl _ _, fun b hb => .inl (hown b hb)⟩, Keep.refl _ _⟩
  · obtain ⟨ho', hk⟩ := getO_take_some ho
    obtain ⟨hv, hh, hr⟩ := hR.S.obj k o ho'
    refine ⟨hv, (getO_take hk).trans hh, ?_⟩
    obtain ⟨l, j⟩ := k
    cases l with
    | zero =>
      cases o with
      | dead => trivial
      | box cs =>
        obtain ⟨b, cc, t, e, hb, hs, hc⟩ := hr
        rw [getO_zero] at ho
        have hcs : cs.all (C.refs n) = true := List.all_eq_true.1 h2 (.box cs) (List.mem_of_getElem? ho)
        exact ⟨b, cc, t, e, hb, hs, rep_takeCs hcs hc⟩
      | tok => exact hr
      | mrow => exact hr
      | mp => exact hr
      | ltok => exact hr
      | seed => exact hr
      | xf => exact hr
    | succ l => exact hr
  · exact hR.S.apart k k' o o' h1 h2 b (getO_take_some e1).1 (getO_take_some e2).1 e3 (getO_take_some e4).1 (getO_take_some e5).1 e6
  · cases l with
    | zero =>
      simp at hl; subst hl
      exact ⟨_, rfl, by simp [hlen]⟩
    | succ l => exact hR.S.shape.2 (l + 1) fr hl
def C.frz (j : Nat) (es : List (List D)) : C → C
  | .msl (0, i) => if i = j then .d (.sl es) else .msl (0, i)
  | c => c
def V.frz (j : Nat) (es : List (List D)) : V → V
  | .c x => .c (x.frz j es)
  | .agg cs => .agg (cs.map (C.frz j es))
  | .tup xs => .tup (xs.map fun y => (y.1, y.2.map (C.frz j es)))
  | .any => .any
def Obj.frz (j : Nat) (es : List (List D)) : Obj → Obj
  | .box cs => .box (cs.map (C.frz j es))
  | o => o
theorem look_map {f : V → V} (hf : f .any = .any) : ∀ (tm : List (Nat × V)) (t : Nat), look (tm.map fun x => (x.1, f x.2)) t = f (look tm t)
  | [], _ => hf.symm
  | (x, v) :: tm, t => by
    show (if x = t then f v else look (tm.map fun x => (x.1, f x.2)) t) = f (if x = t then v else look tm t)
    split
    · rfl
    · exact look_map hf tm t
def V.mapC (f : C → C) : V → V
  | .c x => .c (f x)
  | .agg cs => .agg (cs.map f)
  | .tup xs => .tup (xs.map fun y => (y.1, y.2.map f))
  | .any => .any
def Obj.mapC (f : C → C) : Obj → Obj
  | .box cs => .box (cs.map f)
  | o => o
theorem getElem?_frz {f : C → C} {own : List Obj} {j i : Nat} : ((own.map (Obj.mapC f)).set j .dead)[i]? = if i = j then (if j < own.length then some .dead else none) else (own[i]?).map (Obj.mapC f) := by
  rw [List.getElem?_set]
  by_cases e : j = i
  · subst e; simp
  · rw [if_neg e, if_neg (Ne.symm e), List.getElem?_map]
theorem seal_at {f : C → C} {own : List Obj} {Ω : Store} {j : Nat} {oj : Obj} (hj : own[j]? = some oj) {k : Key} {o : Obj} (hk : getO (own :: Ω) k = some o) :
    ∃ o', getO ((own.map (Obj.mapC f)).set j .dead :: Ω) k = some o' ∧ ((k = (0, j) ∧ o' = .dead) ∨ (k ≠ (0, j) ∧ (o' = o ∨ o' = o.mapC f))) := by
  obtain ⟨l, i⟩ := k
  cases l with
  | zero =>
    rw [getO_zero] at hk
    by_cases e : i = j
    · subst e
      refine ⟨.dead, ?_, .inl ⟨rfl, rfl⟩⟩
      rw [getO_zero, getElem?_frz, if_pos rfl, if_pos (List.getElem?_eq_some_iff.1 hj).1]
    · refine ⟨o.mapC f, ?_, .inr ⟨fun x => e (by cases x; rfl), .inr rfl⟩⟩
      rw [getO_zero, getElem?_frz, if_neg e, hk]; rfl
  | succ l => exact ⟨o, by rw [getO_succ] at hk ⊢; exact hk, .inr ⟨by simp, .inl rfl⟩⟩
theorem mapC_kind {f : C → C} {o o' : Obj} (h : o' = o ∨ o' = o.mapC f) : (∀ z es, IsTok o' z es → IsTok o z es) ∧ (∀ z es, o' = .mrow z es → o = .mrow z es) ∧ (∀ m, o' = .mp m → o = .mp m) ∧ (∀ cs, o' = .box cs → ∃ cs', o = .box cs') ∧ (∀ rs, o' = .xf rs → o = .xf rs) := by
  rcases h with rfl | rfl
  · exact ⟨fun _ _ h => h, fun _ _ h => h, fun _ h => h, fun cs h => ⟨cs, h⟩, fun _ h => h⟩
  · cases o <;> simp [Obj.mapC, IsTok]
theorem seal_other {f : C → C} {own : List Obj} {Ω : Store} {bo : List Value} {bΩ : Hs} {j : Nat} {oj : Obj} (hj : own[j]? = some oj) (hn : Near w σ w σ') {c : C} {v : Value} (hc : RepC w σ (own :: Ω) (bo :: bΩ) c v) :
    RepC w σ' ((own.map (Obj.mapC f)).set j .dead :: Ω) (bo :: bΩ) c v := by
  cases c with
  | d x => exact RepD.mono hn hc
  | any => trivial
  | fsl es' => exact ⟨RepD.mono hn hc.1, hc.2⟩
  | lfl n es' => exact ⟨RepD.mono hn hc.1, hc.2⟩
  | rptr cs => obtain ⟨ad, h1, h2⟩ := hc; exact ⟨ad, h1, h2.mono hn⟩
  | tsl k es' =>
    obtain ⟨h1, o, ho, h2⟩ := hc
    obtain ⟨o', ho', hcase⟩ := seal_at hj ho
    refine ⟨RepD.mono hn h1, o', ho', fun z e4 e => ?_⟩
    rcases hcase with ⟨_, e'⟩ | ⟨_, e'⟩
    · rw [e'] at e; rcases e with e | ⟨_, e⟩ <;> cases e
    · exact h2 _ _ ((mapC_kind e').1 _ _ e)
  | ptr k off =>
    obtain ⟨o, ho, h2⟩ := hc
    obtain ⟨o', ho', hcase⟩ := seal_at hj ho
    refine ⟨o', ho', fun cs e => ?_⟩
    rcases hcase with ⟨_, e'⟩ | ⟨_, e'⟩
    · rw [e'] at e; cases e
    · obtain ⟨cs', e''⟩ := (mapC_kind e').2.2.2.1 _ e
      exact h2 _ e''
  | eptr k i off =>
    obtain ⟨o, ho, h2⟩ := hc
    obtain ⟨o', ho', hcase⟩ := seal_at hj ho
    refine ⟨o', ho', fun z e4 e => ?_⟩
    rcases hcase with ⟨_, e'⟩ | ⟨_, e'⟩
    · rw [e'] at e; cases e
    · exact h2 _ _ ((mapC_kind e').2.1 _ _ e)
  | msl k =>
    obtain ⟨o, ho, h2⟩ := hc
    obtain ⟨o', ho', hcase⟩ := seal_at hj ho
    refine ⟨o', ho', fun z e4 e => ?_⟩
    rcases hcase with ⟨_, e'⟩ | ⟨_, e'⟩
    · rw [e'] at e; cases e
    · exact h2 _ _ ((mapC_kind e').2.1 _ _ e)
  | mp k =>
    obtain ⟨o, ho, h2⟩ := hc
    obtain ⟨o', ho', hcase⟩ := seal_at hj ho
    refine ⟨o', ho', fun m e => ?_⟩
    rcases hcase with ⟨_, e'⟩ | ⟨_, e'⟩
    · rw [e'] at e; cases e
    · exact h2 _ ((mapC_kind e').2.2.1 _ e)
  | fn f caps =>
    obtain ⟨vs, hv, hl, h2⟩ := hc
    refine ⟨vs, hv, hl, fun i k off e => ?_⟩
    obtain ⟨u, hu, h1c, o, ho, h3⟩ := h2 i k off e
    obtain ⟨o', ho', hcase⟩ := seal_at hj ho
    refine ⟨u, hu, h1c, o', ho', fun cs e => ?_⟩
    rcases hcase with ⟨_, e'⟩ | ⟨_, e'⟩
    · rw [e'] at e; cases e
    · obtain ⟨cs', e''⟩ := (mapC_kind e').2.2.2.1 _ e
      exact h3 _ e''
  | xp k r p =>
    obtain ⟨o, ho, h2⟩ := hc
    obtain ⟨o', ho', hcase⟩ := seal_at hj ho
    refine ⟨o', ho', fun rs e => ?_⟩
    rcases hcase with ⟨_, e'⟩ | ⟨_, e'⟩
    · rw [e'] at e; cases e
    · exact h2 _ ((mapC_kind e').2.2.2.2 _ e)
  | xq k r p z i off =>
    obtain ⟨o, ho, h2⟩ := hc
    obtain ⟨o', ho', hcase⟩ := seal_at hj ho
    refine ⟨o', ho', fun rs e => ?_⟩
    rcases hcase with ⟨_, e'⟩ | ⟨_, e'⟩
    · rw [e'] at e; cases e
    · exact h2 _ ((mapC_kind e').2.2.2.2 _ e)
theorem seal_rep {f : C → C} {tm : List (Nat × V)} {own : List Obj} {Ω : Store} {bo : List Value} {bΩ : Hs} (j : Nat) {oj : Obj} {hj : Value} (hoj : own[j]? = some oj) (hbj : bo[j]? = some hj) (hR : Rep N ⟨tm, own :: Ω⟩ a w σ (bo :: bΩ)) (hlen : bo.length = own.length)
    (hn : Near w σ w σ') (hch : ∀ x, ¬ owns oj hj x → σ' x = σ x) (hlive : ∀ x, x < w.heap.size ∨ σ' x = 0)
    (hC : ∀ (c : C) (v : Value), RepC w σ (own :: Ω) (bo :: bΩ) c v → RepC w σ' ((own.map (Obj.mapC f)).set j .dead :: Ω) (bo :: bΩ) (f c) v) :
    Rep N ⟨tm.map fun x => (x.1, x.2.mapC f), (own.map (Obj.mapC f)).set j .dead :: Ω⟩ a w σ' (bo :: bΩ) ∧ Step (own :: Ω) (bo :: bΩ) σ w ((own.map (Obj.mapC f)).set j .dead :: Ω) (bo :: bΩ) σ' w := by
  have hget2 : ∀ k o, getO ((own.map (Obj.mapC f)).set j .dead :: Ω) k = some o → (k = (0, j) ∧ o = .dead) ∨ (k ≠ (0, j) ∧ ∃ o0, getO (own :: Ω) k = some o0 ∧ (o = o0 ∨ o = o0.mapC f) ∧ (0 < k.1 → o = o0) ∧ ∀ h b, owns o h b ↔ owns o0 h b) := by
    intro k o hk
    obtain ⟨l, i⟩ := k
    cases l with
    | zero =>
      rw [getO_zero, getElem?_frz] at hk
      by_cases e : i = j
      · subst e
        rw [if_pos rfl, if_pos (List.getElem?_eq_some_iff.1 hoj).1] at hk
        cases hk; exact .inl ⟨rfl, rfl⟩
      · rw [if_neg e] at hk
        cases ho : own[i]? with
        | none => rw [ho] at hk; cases hk
        | some o0 =>
          rw [ho] at hk; cases hk
          refine .inr ⟨fun x => e (by cases x; rfl), o0, by rw [getO_zero]; exact ho, .inr rfl, fun h => absurd h (by simp), fun h b => ?_⟩
          cases o0 with
          | box cs => cases h <;> first | exact Iff.rfl | (rename_i x; cases x <;> exact Iff.rfl)
          | _ => exact Iff.rfl
    | succ l => rw [getO_succ] at hk; exact .inr ⟨by simp, o, by rw [getO_succ]; exact hk, .inl rfl, fun _ => rfl, fun _ _ => Iff.rfl⟩
  have hCs : ∀ (cs : List C) (vs : List Value), RepCs w σ (own :: Ω) (bo :: bΩ) cs vs → RepCs w σ' ((own.map (Obj.mapC f)).set j .dead :: Ω) (bo :: bΩ) (cs.map f) vs := by
    intro cs vs hc
    refine ⟨by simpa using hc.1, fun i x hx => ?_⟩
    rw [List.getElem?_map] at hx
    cases hci : cs[i]? with
    | none => rw [hci] at hx; cases hx
    | some y =>
      rw [hci] at hx; cases hx
      obtain ⟨v, hv, hr, ho⟩ := hc.2 i y hci
      exact ⟨v, hv, hC y v hr, ho⟩
  have hother : ∀ k o h x, k ≠ (0, j) → getO (own :: Ω) k = some o → getO (bo :: bΩ) k = some h → owns o h x → σ' x = σ x := by
    intro k o h x hk e1 e2 e3
    refine hch x fun e4 => hk ?_
    exact hR.S.apart k (0, j) o _ h _ x e1 e2 e3 (by rw [getO_zero]; exact hoj) (by rw [getO_zero]; exact hbj) e4
  refine ⟨⟨hR.size, hR.defers, ⟨fun k o ho => ?_, fun k k' o o' h1 h2 b' e1 e2 e3 e4 e5 e6 => ?_, ⟨by have := hR.S.shape.1; simpa using this, fun l fr hl => ?_⟩, hlive, hR.S.glob.near hn⟩, fun t => ?_⟩, ⟨Nat.le_refl _, rfl, rfl, fun x hx hno => ⟨rfl, ?_⟩, hn, fun x hx => ?_⟩⟩
  · rcases hget2 k o ho with ⟨rfl, rfl⟩ | ⟨hk, o0, h0, hcase, hl0, how⟩
    · exact ⟨_, by rw [getO_zero]; exact hbj, trivial⟩
    · obtain ⟨hv, hhv, hr⟩ := hR.S.obj k o0 h0
      refine ⟨hv, hhv, ?_⟩
      have hbk : ∀ x, owns o0 hv x → w.heap[x]? = w.heap[x]? ∧ σ' x = σ x := fun x e => ⟨rfl, hother k o0 hv x hk h0 hhv e⟩
      obtain ⟨l, i⟩ := k
      cases l with
      | succ l =>
        rw [hl0 (by simp)]
        exact RepObj.mono hn (Keep.refl _ _) hbk hr
      | zero =>
        cases o0 with
        | box cs =>
          obtain ⟨b', cc', t', e', hb', hs', hc'⟩ := hr
          subst e'
          have he : o = .box (cs.map f) := by
            rw [getO_zero, getElem?_frz] at ho
            rw [getO_zero] at h0
            split at ho
            · rename_i e; exact absurd (by rw [e]) hk
            · rw [h0] at ho; cases ho; rfl
          rw [he]
          exact ⟨b', cc', t', rfl, hb', (hbk b' rfl).2.trans hs', hCs _ _ hc'⟩
        | dead => rcases hcase with rfl | rfl <;> trivial
        | tok z es' =>
          have : o = .tok z es' := by rcases hcase with rfl | rfl <;> rfl
          rw [this]
          exact RepObj.mono (S := []) (β := []) (o := (.tok z es')) hn (Keep.refl [] []) hbk hr
        | mrow z es' =>
          have : o = .mrow z es' := by rcases hcase with rfl | rfl <;> rfl
          rw [this]
          exact RepObj.mono (S := []) (β := []) (o := (.mrow z es')) hn (Keep.refl [] []) hbk hr
        | mp m =>
          have : o = .mp m := by rcases hcase with rfl | rfl <;> rfl
          rw [this]
          exact RepObj.mono (S := []) (β := []) (o := (.mp m)) hn (Keep.refl [] []) hbk hr
        | ltok n z es' =>
          have : o = .ltok n z es' := by rcases hcase with rfl | rfl <;> rfl
          rw [this]
          exact RepObj.mono (S := []) (β := []) (o := (.ltok n z es')) hn (Keep.refl [] []) hbk hr
        | seed n => rcases hcase with rfl | rfl <;> trivial
        | xf rs =>
          have : o = .xf rs := by rcases hcase with rfl | rfl <;> rfl
          rw [this]
          exact RepObj.mono (S := []) (β := []) (o := (.xf rs)) hn (Keep.refl [] []) hbk hr
  · rcases hget2 k o e1 with ⟨rfl, rfl⟩ | ⟨hk, o0, f1, _, _, f2⟩
    · cases e3
    · rcases hget2 k' o' e4 with ⟨rfl, rfl⟩ | ⟨hk', o0', g1, _, _, g2⟩
      · cases e6
      · exact hR.S.apart k k' o0 o0' h1 h2 b' f1 e2 ((f2 _ _).1 e3) g1 e5 ((g2 _ _).1 e6)
  · cases l with
    | zero =>
      simp at hl; subst hl
      exact ⟨_, rfl, by simp [hlen]⟩
    | succ l => exact hR.S.shape.2 (l + 1) fr hl
  · show RepV w σ' ((own.map (Obj.mapC f)).set j .dead :: Ω) (bo :: bΩ) (look (tm.map fun x => (x.1, x.2.mapC f)) t) _
    rw [look_map (f := V.mapC f) rfl]
    have ht := hR.T t
    cases hx : look tm t with
    | c x => rw [hx] at ht; exact ⟨hC x _ ht.1, ht.2⟩
    | agg cs => rw [hx] at ht; obtain ⟨ar, e, hc⟩ := ht; exact ⟨ar, e, hCs _ _ hc⟩
    | tup xs =>
      rw [hx] at ht
      obtain ⟨ar, e, hl, h2⟩ := ht
      refine ⟨ar, e, by simpa using hl, fun i y hy => ?_⟩
      rw [List.getElem?_map] at hy
      cases hxi : xs[i]? with
      | none => rw [hxi] at hy; cases hy
      | some z =>
        rw [hxi] at hy; cases hy
        obtain ⟨u, hu, h3⟩ := h2 i z hxi
        refine ⟨u, hu, ?_⟩
        obtain ⟨bb, cs⟩ := z
        cases bb with
        | true => obtain ⟨a', e', hcs⟩ := h3; exact ⟨a', e', hCs _ _ hcs⟩
        | false =>
          obtain ⟨x, e', hxr, ho⟩ := h3
          subst e'
          exact ⟨_, rfl, hC x _ hxr, ho⟩
    | any => trivial
  · exact hch x fun e => hno ⟨(0, j), _, _, by rw [getO_zero]; exact hoj, by rw [getO_zero]; exact hbj, e⟩
  · left
    obtain ⟨k, o, h1, e1, e2, e3⟩ := hx
    rcases hget2 k o e1 with ⟨rfl, rfl⟩ | ⟨hk, o0, f1, _, _, f2⟩
    · cases e3
    · exact ⟨k, o0, h1, f1, e2, (f2 _ _).1 e3⟩
theorem frz_mapC {j : Nat} {es : List (List D)} : Obj.frz j es = Obj.mapC (C.frz j es) := by funext o; cases o <;> rfl
theorem frz_mapV {j : Nat} {es : List (List D)} : V.frz j es = V.mapC (C.frz j es) := by funext v; cases v <;> rfl
theorem frz_rep {tm : List (Nat × V)} {own : List Obj} {Ω : Store} (j : Nat) (esz : Nat) (es : List (List D)) (hj : own[j]? = some (.mrow esz es)) (hR : Rep N ⟨tm, own :: Ω⟩ a w σ β) :
    ∃ σ' β', Rep N ⟨tm.map fun x => (x.1, x.2.frz j es), (own.map (Obj.frz j es)).set j .dead :: Ω⟩ a w σ' β' ∧ Step (own :: Ω) β σ w ((own.map (Obj.frz j es)).set j .dead :: Ω) β' σ' w ∧
      Keep (tail1 (own :: Ω)) (tail1 β) (tail1 ((own.map (Obj.frz j es)).set j .dead :: Ω)) (tail1 β') := by
  obtain ⟨bo, bΩ, rfl, hlen⟩ := frames hR
  obtain ⟨hh, hb, hr⟩ := hR.S.obj (0, j) _ (by rw [getO_zero]; exact hj)
  rw [getO_zero] at hb
  obtain ⟨σ', hn, hch, hlive, hdata⟩ : ∃ σ', Near w σ w σ' ∧ (∀ x, ¬ owns (.mrow esz es) hh x → σ' x = σ x) ∧ (∀ x, x < w.heap.size ∨ σ' x = 0) ∧ RepD w σ' (.sl es) hh := by
    obtain ⟨hle, ad, cap, rfl, hcap, h4⟩ := hr
    by_cases h0 : cap = 0
    · obtain rfl : es = [] := List.eq_nil_of_length_eq_zero (by omega)
      exact ⟨σ, Near.refl _ _, fun _ _ => rfl, hR.S.live, .nil _ _⟩
    rcases h4 with h4 | ⟨b, cc, ty, rfl, hbc, hσ, hcz, hcells⟩
    · exact absurd h4 h0
    have hsz : es.length * esz ≤ cc.size := Nat.le_trans (Nat.mul_le_mul_right _ hcap) hcz
    let σ' : Nat → Nat := fun x => if x = b then es.length * esz else σ x
    have hn : Near w σ w σ' := by
      intro b1 c1 t1 fz1 e1
      by_cases e : b1 = b
      · subst e
        rw [hbc] at e1; cases e1
        exact ⟨by simp only [σ', if_true]; omega, fun h => by omega, cc, hbc, rfl, fun _ _ => rfl⟩
      · exact ⟨by simp only [σ', if_neg e]; exact Nat.le_refl _, fun _ => if_neg e, c1, e1, rfl, fun _ _ => rfl⟩
    refine ⟨σ', hn, fun x hx => if_neg fun e => hx (by subst e; simp [owns, blk, h0]), fun x => ?_, ?_⟩
    · by_cases e : x = b
      · left; subst e; exact lt_of_some hbc
      · simp only [σ', if_neg e]; exact hR.S.live x
    · have hfl := flat_len es esz hle
      refine .sl b 0 cap esz es (fun i => (cc[i]?).getD undef) cc ty (0, 0) hcap hle hbc (by simp [σ']) (fun i hi => ?_) (fun i d hd => ?_)
      · obtain ⟨v, hv, _⟩ := hcells i _ (List.getElem?_eq_getElem (by omega))
        simp [hv]
      · obtain ⟨v, hv, hr⟩ := hcells i d hd
        simp only [hv, Option.getD_some]
        exact hr.mono hn
  rw [frz_mapC, frz_mapV]
  have := seal_rep (f := C.frz j es) j hj hb hR hlen hn hch hlive (fun c v hc => by
    by_cases hm : c = .msl (0, j)
    · subst hm
      obtain ⟨o, ho, h2⟩ := hc
      rw [getO_zero, hj] at ho; cases ho
      have hv := h2 _ _ rfl
      rw [getO_zero, hb] at hv
      cases hv
      simp only [C.frz, if_true]
      exact hdata
    · have hfr : C.frz j es c = c := by
        cases c with
        | msl k =>
          obtain ⟨l, i⟩ := k
          cases l with
          | zero => simp only [C.frz]; rw [if_neg (fun e => hm (by rw [e]))]
          | succ l => rfl
        | _ => rfl
      rw [hfr]
      exact seal_other hj hn hc)
  exact ⟨σ', _, this.1, this.2, Keep.refl _ _⟩
def C.lab (row : Bool) (j n : Nat) (es : List (List D)) : C → C
  | .msl (0, i) => if i = j ∧ row = true then .d (.ol n es) else .msl (0, i)
  | .tsl (0, i) es' => if i = j ∧ row = false ∧ es'.length = es.length then .d (.ol n es) else .tsl (0, i) es'
  | c => c
def labObj (row : Bool) (n esz : Nat) (es : List (List D)) : Obj := match row with | true => .mrow esz es | false => .ltok n esz es
theorem lab_rep {tm : List (Nat × V)} {own : List Obj} {Ω : Store} (j n : Nat) (esz : Nat) (es : List (List D)) (row : Bool) (hj : own[j]? = some (labObj row n esz es)) (hR : Rep N ⟨tm, own :: Ω⟩ a w σ β) :
    ∃ σ' β', Rep N ⟨tm.map fun x => (x.1, x.2.mapC (C.lab row j n es)), (own.map (Obj.mapC (C.lab row j n es))).set j .dead :: Ω⟩ a w σ' β' ∧ Step (own :: Ω) β σ w ((own.map (Obj.mapC (C.lab row j n es))).set j .dead :: Ω) β' σ' w ∧
      Keep (tail1 (own :: Ω)) (tail1 β) (tail1 ((own.map (Obj.mapC (C.lab row j n es))).set j .dead :: Ω)) (tail1 β') := by
  obtain ⟨bo, bΩ, rfl, hlen⟩ := frames hR
  -- the world with the block sealed
  have key : ∃ hh σ', bo[j]? = some hh ∧ Near w σ w σ' ∧ (∀ x, ¬ owns (labObj row n esz es) hh x → σ' x = σ x) ∧ (∀ x, x < w.heap.size ∨ σ' x = 0) ∧ RepD w σ' (.ol n es) hh := by
    have mkfast : ∀ (b off cap : Nat) (c : Array Value) (t : TypeId), w.heap[b]? = some (.cells c t (0, 0)) → σ b ≤ c.size → (∀ e ∈ es, e.length = esz) → off + es.length * esz ≤ c.size → es.length ≤ cap → off = 0 ∧ cap * esz ≤ c.size →
        (∀ (i : Nat) (d : D), es.flatten[i]? = some d → ∃ v, c[off + i]? = some v ∧ RepD w σ d v) →
        Near w σ w (fun x => if x = b then c.size + 1 + n else σ x) ∧ (∀ x, x < w.heap.size ∨ (fun x => if x = b then c.size + 1 + n else σ x) x = 0) ∧ RepD w (fun x => if x = b then c.size + 1 + n else σ x) (.ol n es) (.slice (some ⟨b, off, none⟩) es.length cap) := by
      intro b off cap c t hb hσ hle hsz hcap hx hcells
      have hn : Near w σ w (fun x => if x = b then c.size + 1 + n else σ x) := by
        intro b1 c1 t1 fz1 e1
        by_cases e : b1 = b
        · subst e
          rw [hb] at e1; cases e1
          exact ⟨by simp only [if_true]; omega, fun h => by omega, c, hb, rfl, fun _ _ => rfl⟩
        · exact ⟨by simp only [if_neg e]; exact Nat.le_refl _, fun _ => if_neg e, c1, e1, rfl, fun _ _ => rfl⟩
      refine ⟨hn, fun x => ?_, ?_⟩
      · by_cases e : x = b
        · left; subst e; exact lt_of_some hb
        · simp only [if_neg e]; exact hR.S.live x
      · have hfl := flat_len es esz hle
        refine .ol n b off cap esz es (fun i => (c[off + i]?).getD undef) c t hcap hle hb (by simp) hsz (fun i hi => ?_) (fun i d hd => ?_) hx
        · obtain ⟨v, hv, _⟩ := hcells i _ (List.getElem?_eq_getElem (by omega))
          simp [hv]
        · obtain ⟨v, hv, hr⟩ := hcells i d hd
          simp only [hv, Option.getD_some]
          exact hr.mono hn
    cases row with
    | true =>
      obtain ⟨hh, hb, hr⟩ := hR.S.obj (0, j) _ (by rw [getO_zero]; exact hj)
      obtain ⟨hle, ad, cap, rfl, hcap, h4⟩ := hr
      rw [getO_zero] at hb
      by_cases h0 : cap = 0
      · obtain rfl : es = [] := List.eq_nil_of_length_eq_zero (by omega)
        exact ⟨_, σ, hb, Near.refl _ _, fun _ _ => rfl, hR.S.live, .onil _ _ _⟩
      rcases h4 with h4 | ⟨b, cc, ty, rfl, hbc, hσ, hcz, hcells⟩
      · exact absurd h4 h0
      have hsz : es.length * esz ≤ cc.size := Nat.le_trans (Nat.mul_le_mul_right _ hcap) hcz
      obtain ⟨k1, k2, k3⟩ := mkfast b 0 cap cc ty hbc (by omega) hle (by omega) hcap ⟨rfl, hcz⟩ (fun i d hd => by rw [Nat.zero_add]; exact hcells i d hd)
      exact ⟨_, _, hb, k1, fun x hx => if_neg fun e => hx (by subst e; simp [labObj, owns, blk, h0]), k2, k3⟩
    | false =>
      obtain ⟨hh, hb, hr⟩ := hR.S.obj (0, j) _ (by rw [getO_zero]; exact hj)
      obtain ⟨h1, hle, ad, cap, rfl, hcap, hcase⟩ := hr
      rw [getO_zero] at hb
      rcases hcase with ⟨h4, h5⟩ | ⟨h4, b, off, c, t, rfl, hbc, hσ, hfit⟩
      · exact ⟨_, σ, hb, Near.refl _ _, fun _ _ => rfl, hR.S.live, h5⟩
      · have hm : es.length * esz ≤ cap * esz := Nat.mul_le_mul_right _ hcap
        obtain ⟨k1, k2, k3⟩ := mkfast b off cap c t hbc (by omega) hle (by omega) hcap ⟨by omega, by omega⟩ (fun i d hd => by
          cases h1 with
          | nil => simp at hd
          | sl b' off' cap' esz' es vals c' t' fz' q1 q2 q3 q4 q5 q6 =>
            rw [hbc] at q3; cases q3
            have hil := (List.getElem?_eq_some_iff.1 hd).1
            rw [flat_len es esz hle] at hil
            have he : esz' = esz := by
              cases es with
              | nil => simp at hil
              | cons y ys => rw [← q2 y (by simp), hle y (by simp)]
            subst he
            exact ⟨_, q5 i hil, q6 i d hd⟩)
        exact ⟨_, _, hb, k1, fun x hx => if_neg fun e => hx (by subst e; simp [labObj, owns, blk, h4]), k2, k3⟩
  obtain ⟨hh, σ', hb, hn, hch, hlive, hdata⟩ := key
  have := seal_rep (f := C.lab row j n es) j hj hb hR hlen hn hch hlive (fun c v hc => by
    by_cases hm : c = .msl (0, j) ∧ row = true
    · obtain ⟨rfl, rfl⟩ := hm
      simp only [C.lab, and_self, if_true]
      obtain ⟨o, ho, h2⟩ := hc
      rw [getO_zero, hj] at ho; cases ho
      have hv := h2 _ _ rfl
      rw [getO_zero, hb] at hv
      cases hv
      exact hdata
    · by_cases ht : ∃ es', c = .tsl (0, j) es' ∧ row = false ∧ es'.length = es.length
      · obtain ⟨es', rfl, rfl, hl⟩ := ht
        simp only [C.lab, hl, and_self, if_true]
        obtain ⟨h1, o, ho, h2⟩ := hc
        rw [getO_zero, hj] at ho; cases ho
        have hv := (h2 _ _ (.inr ⟨n, rfl⟩)).2 hl
        rw [getO_zero, hb] at hv
        cases hv
        exact hdata
      · have hfr : C.lab row j n es c = c := by
          cases c with
          | msl k =>
            obtain ⟨l, i⟩ := k
            cases l with
            | zero => simp only [C.lab]; rw [if_neg (fun e => hm ⟨by rw [e.1], e.2⟩)]
            | succ l => rfl
          | tsl k es' =>
            obtain ⟨l, i⟩ := k
            cases l with
            | zero => simp only [C.lab]; rw [if_neg (fun e => ht ⟨es', by rw [e.1], e.2⟩)]
            | succ l => rfl
          | _ => rfl
        rw [hfr]
        exact seal_other hj hn hc)
  exact ⟨σ', _, this.1, this.2, Keep.refl _ _⟩
def frzAt (j : Nat) (s : St) : St :=
  match s.st with
  | own :: Ω => match own[j]? with
    | some (.mrow _ es) => ⟨s.tm.map fun x => (x.1, x.2.frz j es), (own.map (Obj.frz j es)).set j .dead :: Ω⟩
    | _ => s
  | [] => s
def frzUp : Nat → St → St
  | 0, s => s
  | n + 1, s => frzUp n (frzAt n s)
def frzAll (s : St) : St :=
  match s.st with
  | own :: _ => frzUp own.length s
  | [] => s
theorem frzAt_ghost (j : Nat) (s : St) : Ghost N s (frzAt j s) := by
  obtain ⟨tm, st⟩ := s
  cases st with
  | nil => exact Ghost.refl _ _
  | cons own Ω =>
    unfold frzAt
    simp only
    split
    · rename_i z es hj
      exact fun a w σ β hR => frz_rep j z es hj hR
    · exact Ghost.refl _ _
theorem frzUp_ghost : ∀ (n : Nat) (s : St), Ghost N s (frzUp n s)
  | 0, s => Ghost.refl _ _
  | n + 1, s => (frzAt_ghost n s).trans (frzUp_ghost n _)
theorem frzAll_ghost (s : St) : Ghost N s (frzAll s) := by
  unfold frzAll
  split
  · exact frzUp_ghost _ _
  · exact Ghost.refl _ _
theorem aw_end {c : Code} {Q : Exit → St → Prop} {g : St → St} (hg : ∀ s, Ghost N s (g s)) (h : AW P N c (fun e s' => Q e (g s')) s) : AW P N c Q s := by
  intro a w σ β hR
  refine wp_mono (h a w σ β hR) ?_
  rintro e a' w' ⟨s', σ', β', k1, k2, k3, k4⟩
  obtain ⟨σ2, β2, r2, st2, kk2⟩ := hg s' a' w' σ' β' k1
  exact ⟨_, σ2, β2, r2, k2.trans st2, k3.trans kk2, k4⟩
end
end Go.Ab

namespace Go.Ab
section
variable {P : Program} {E : Md} {S S' : Store} {N : Nat} {s : St}
def lookO (tm : List (Nat × V)) (t : Option Nat) : Option V := t.map (look tm)
theorem lookO_eq {tm : List (Nat × V)} {t : Option Nat} : lookO tm t = t.map (look tm) := rfl
theorem lookO_some {tm : List (Nat × V)} {t : Nat} : lookO tm (some t) = some (look tm t) := rfl
theorem lookO_none {tm : List (Nat × V)} : lookO tm none = none := rfl
def evL (tm : List (Nat × V)) (l : List Operand) : List V := l.map (ev tm)
theorem evL_nil {tm : List (Nat × V)} : evL tm [] = [] := rfl
theorem evL_cons {tm : List (Nat × V)} {x : Operand} {l : List Operand} : evL tm (x :: l) = ev tm x :: evL tm l := rfl
def evO (tm : List (Nat × V)) (x : Option Operand) : Option V := x.map (ev tm)
theorem evO_some {tm : List (Nat × V)} {x : Operand} : evO tm (some x) = some (ev tm x) := rfl
theorem evO_none {tm : List (Nat × V)} : evO tm none = none := rfl
def evP (tm : List (Nat × V)) (l : List (Nat × Operand)) : List (Nat × V) := l.map fun x => (x.1, ev tm x.2)
theorem evP_nil {tm : List (Nat × V)} : evP tm [] = [] := rfl
theorem evP_cons {tm : List (Nat × V)} {i : Nat} {x : Operand} {l : List (Nat × Operand)} : evP tm ((i, x) :: l) = (i, ev tm x) :: evP tm l := rfl
def Split (x : Bool) (A B : St → Prop) (s : St) : Prop := (x = true → A s) ∧ (x = false → B s)
theorem split2 {x : Bool} {A B : St → Prop} (h1 : x = true → A s) (h2 : x = false → B s) : Split x A B s := ⟨h1, h2⟩
theorem split_true {A B : St → Prop} : Split true A B s = A s := by simp [Split]
theorem split_false {A B : St → Prop} : Split false A B s = B s := by simp [Split]
def putK (dst : Option Nat) (v : V) (K : St → Prop) (s : St) : Prop := K (s.put dst v)
theorem putK_eq {dst : Option Nat} {v : V} {K : St → Prop} : putK dst v K s = K (s.put dst v) := rfl
def execK (P : Program) (o : Oper) (K : St → Prop) (s : St) : Prop := execR P o s K
def dexecK (P : Program) (E : Md) (o : Oper) (K : St → Prop) (s : St) : Prop := dexecW P E o s K
theorem execK_eq {o : Oper} {K : St → Prop} : execK P o K s = execR P o s K := rfl
theorem dexecK_eq {o : Oper} {K : St → Prop} : dexecK P E o K s = dexecW P E o s K := rfl
def guardV (dst : Option Nat) (want : Bool) (A K : St → Prop) (s : St) : Option V → Prop
  | some (.c (.d (.b x))) => match want with
    | true => Split x A (putK dst (.tup []) K) s
    | false => Split x (putK dst (.tup []) K) A s
  | some (.tup []) => K (s.put dst (.tup []))
  | _ => False
theorem guardW_none {R : Array Oper} {dst op ty pos after} {K : St → Prop} : guardW P R ⟨dst, op, ty, pos, after, none⟩ s K = execR P ⟨dst, op, ty, pos, after, none⟩ s K := rfl
theorem guardW_some {R : Array Oper} {dst op ty pos after j want} {K : St → Prop} : guardW P R ⟨dst, op, ty, pos, after, some (j, want)⟩ s K =
    guardV dst want (execK P ⟨dst, op, ty, pos, after, some (j, want)⟩ K) K s (lookO s.tm (dstOf R j)) := by
  show guardW P R _ s K = _
  simp only [guardW, ← lookO_eq]
  generalize lookO s.tm (dstOf R j) = v
  cases v with
  | none => rfl
  | some v =>
    cases v with
    | c x => cases x with
      | d x => cases x with
        | b x => cases want <;> simp [guardV, Split, putK, execK, and_comm]
        | _ => rfl
      | _ => rfl
    | tup l => cases l <;> rfl
    | _ => rfl
theorem dguardW_none {R : Array Oper} {dst op ty pos after} {K : St → Prop} : dguardW P E R ⟨dst, op, ty, pos, after, none⟩ s K = dexecW P E ⟨dst, op, ty, pos, after, none⟩ s K := rfl
theorem dguardW_some {R : Array Oper} {dst op ty pos after j want} {K : St → Prop} : dguardW P E R ⟨dst, op, ty, pos, after, some (j, want)⟩ s K =
    guardV dst want (dexecK P E ⟨dst, op, ty, pos, after, some (j, want)⟩ K) K s (lookO s.tm (dstOf R j)) := by
  simp only [dguardW, ← lookO_eq]
  generalize lookO s.tm (dstOf R j) = v
  cases v with
  | none => rfl
  | some v =>
    cases v with
    | c x => cases x with
      | d x => cases x with
        | b x => cases want <;> simp [guardV, Split, putK, dexecK, and_comm]
        | _ => rfl
      | _ => rfl
    | tup l => cases l <;> rfl
    | _ => rfl
@[congr] theorem rops_congr {R : Array Oper} {os : List Oper} {s s' : St} {K : St → Prop} (h2 : s = s') : rops P R os s K = rops P R os s' K := by rw [h2]
@[congr] theorem dops_congr {R : Array Oper} {os : List Oper} {s s' : St} {K : St → Prop} (h2 : s = s') : dops P E R os s K = dops P E R os s' K := by rw [h2]
@[congr] theorem guardW_congr {R : Array Oper} {o : Oper} {s s' : St} {K : St → Prop} (h2 : s = s') : guardW P R o s K = guardW P R o s' K := by rw [h2]
@[congr] theorem dguardW_congr {R : Array Oper} {o : Oper} {s s' : St} {K : St → Prop} (h2 : s = s') : dguardW P E R o s K = dguardW P E R o s' K := by rw [h2]
@[congr] theorem guardV_congr {dst : Option Nat} {want : Bool} {A K : St → Prop} {s s' : St} {v v' : Option V} (h2 : s = s') (h3 : v = v') : guardV dst want A K s v = guardV dst want A K s' v' := by rw [h2, h3]
@[congr] theorem Split_congr {x x' : Bool} {A B : St → Prop} {s s' : St} (h : x = x') (h2 : s = s') : Split x A B s = Split x' A B s' := by rw [h, h2]
@[congr] theorem execW_congr {o : Oper} {s s' : St} {K : St → Prop} (h2 : s = s') : execW P o s K = execW P o s' K := by rw [h2]
@[congr] theorem execR_congr {o : Oper} {s s' : St} {K : St → Prop} (h2 : s = s') : execR P o s K = execR P o s' K := by rw [h2]
@[congr] theorem litW_congr {t : TypeId} {s s' : St} {dst : Option Nat} {K : St → Prop} {b b' : Bool} {r r' : R} (h1 : s = s') (h2 : b = b') (h3 : r = r') : litW P t s dst K b r = litW P t s' dst K b' r' := by rw [h1, h2, h3]
@[congr] theorem appendR_congr {t u : TypeId} {a a' x x' : V} {s s' : St} {dst : Option Nat} {K : St → Prop} (h1 : a = a') (h3 : x = x') (h2 : s = s') : appendR P t u a x s dst K = appendR P t u a' x' s' dst K := by rw [h1, h2, h3]
@[congr] theorem rowApp_congr {t u : TypeId} {k : Key} {x x' : V} {s s' : St} {dst : Option Nat} {K : St → Prop} (h3 : x = x') (h2 : s = s') : rowApp P t u k x s dst K = rowApp P t u k x' s' dst K := by rw [h2, h3]
@[congr] theorem dexecW_congr {o : Oper} {s s' : St} {K : St → Prop} (h2 : s = s') : dexecW P E o s K = dexecW P E o s' K := by rw [h2]
@[congr] theorem appF_congr {l l' : Option Nat} {es es' x : List (List D)} {z : Nat} {s s' : St} {dst : Option Nat} {K : St → Prop} (h1 : l = l') (h2 : es = es') (h3 : s = s') : appF l es s dst z x K = appF l' es' s' dst z x K := by rw [h1, h2, h3]
@[congr] theorem appA_congr {b b' : Bool} {es es' x : List (List D)} {z : Nat} {s s' : St} {dst : Option Nat} {K : St → Prop} (h1 : b = b') (h2 : es = es') (h3 : s = s') : appA b es s dst z x K = appA b' es' s' dst z x K := by rw [h1, h2, h3]
@[congr] theorem appL_congr {b b' : Bool} {n : Nat} {x : List (List D)} {z : Nat} {s s' : St} {dst : Option Nat} {K : St → Prop} (h1 : b = b') (h3 : s = s') : appL b n s dst z x K = appL b' n s' dst z x K := by rw [h1, h3]
@[congr] theorem newObj_congr {s s' : St} {dst : Option Nat} {o o' : Obj} {mk : Key → V} {K : St → Prop} (h1 : s = s') (h2 : o = o') : newObj s dst o mk K = newObj s' dst o' mk K := by rw [h1, h2]
@[congr] theorem allocW_congr {t : TypeId} {s s' : St} {dst : Option Nat} {K : St → Prop} (h1 : s = s') : allocW P t s dst K = allocW P t s' dst K := by rw [h1]
@[congr] theorem boxW_congr {v v' : V} {s s' : St} {dst : Option Nat} {K : St → Prop} (h1 : v = v') (h2 : s = s') : boxW v s dst K = boxW v' s' dst K := by rw [h1, h2]
@[congr] theorem storeW_congr {t : TypeId} {a a' x x' : V} {s s' : St} {dst : Option Nat} {K : St → Prop} (h1 : a = a') (h3 : x = x') (h2 : s = s') : storeW P t a x s dst K = storeW P t a' x' s' dst K := by rw [h1, h2, h3]
@[congr] theorem makeW_congr {t : TypeId} {a a' x x' : V} {s s' : St} {dst : Option Nat} {K : St → Prop} (h1 : a = a') (h3 : x = x') (h2 : s = s') : makeW P t a x s dst K = makeW P t a' x' s' dst K := by rw [h1, h2, h3]
@[congr] theorem appendW_congr {t u : TypeId} {a a' x x' : V} {s s' : St} {dst : Option Nat} {K : St → Prop} (h1 : a = a') (h3 : x = x') (h2 : s = s') : appendW P t u a x s dst K = appendW P t u a' x' s' dst K := by rw [h1, h2, h3]
@[congr] theorem mapNewW_congr {s s' : St} {dst : Option Nat} {K : St → Prop} (h2 : s = s') : mapNewW s dst K = mapNewW s' dst K := by rw [h2]
@[congr] theorem mapPutW_congr {t : TypeId} {a a' x x' y y' : V} {s s' : St} {dst : Option Nat} {K : St → Prop} (h1 : a = a') (h3 : x = x') (h4 : y = y') (h2 : s = s') : mapPutW P t a x y s dst K = mapPutW P t a' x' y' s' dst K := by rw [h1, h2, h3, h4]
@[congr] theorem CallW_congr {f : FuncId} {args args' : List V} {s s' : St} {dst : Option Nat} {K : St → Prop} (h1 : args = args') (h2 : s = s') : CallW P f args s dst K = CallW P f args' s' dst K := by rw [h1, h2]
@[congr] theorem callW_congr {c : Call} {s s' : St} {dst : Option Nat} {K : St → Prop} (h2 : s = s') : callW P c s dst K = callW P c s' dst K := by rw [h2]
@[congr] theorem thenK_congr {K : St → Prop} {Q : Exit → St → Prop} {e : Exit} {s s' : St} (h2 : s = s') : thenK K Q e s = thenK K Q e s' := by rw [h2]
def nextW (s : St) (dst : Option Nat) (K : St → Prop) (r : R) : Prop := r.1 ∧ K (s.put dst r.2)
@[congr] theorem nextW_congr {s s' : St} {dst : Option Nat} {K : St → Prop} {r r' : R} (h1 : s = s') (h2 : r = r') : nextW s dst K r = nextW s' dst K r' := by rw [h1, h2]
theorem nextW_mk {dst : Option Nat} {K : St → Prop} {p : Prop} {v : V} : nextW s dst K (p, v) = (p ∧ K (s.put dst v)) := rfl
def capV (caps : List (Key × Nat)) : List V := caps.map fun y => .c (.ptr y.1 y.2)
def CallV (P : Program) (fv : V) (args : List V) (s : St) (dst : Option Nat) (K : St → Prop) : Prop :=
  match fv with
  | .c (.fn f caps) => CallW P f (args ++ capV caps) s dst K
  | _ => False
def CallN (P : Program) (m : Nat) (f : FuncId) (args : List V) (s : St) (dst : Option Nat) (K : St → Prop) : Prop :=
  match m with
  | 0 => ∃ r, PCall P f args r ∧ K (s.put dst r)
  | 1 => ∃ S' v, DS s.st S' ∧ CallW P f args s dst (fun t => t = St.put ⟨s.tm, S'⟩ dst v) ∧ K (St.put ⟨s.tm, S'⟩ dst v)
  | _ => ∃ S' v, CallW P f args s dst (fun t => t = St.put ⟨s.tm, S'⟩ dst v) ∧ K (St.put ⟨s.tm, S'⟩ dst v)
def CallM (P : Program) (m : Nat) (fv : V) (args : List V) (s : St) (dst : Option Nat) (K : St → Prop) : Prop :=
  match fv with
  | .c (.fn f caps) => CallN P m f (args ++ capV caps) s dst K
  | _ => False
@[congr] theorem CallV_congr {fv fv' : V} {args args' : List V} {s s' : St} {dst : Option Nat} {K : St → Prop} (h1 : fv = fv') (h3 : args = args') (h2 : s = s') : CallV P fv args s dst K = CallV P fv' args' s' dst K := by rw [h1, h2, h3]
@[congr] theorem CallM_congr {m : Nat} {fv fv' : V} {args args' : List V} {s s' : St} {dst : Option Nat} {K : St → Prop} (h1 : fv = fv') (h3 : args = args') (h2 : s = s') : CallM P m fv args s dst K = CallM P m fv' args' s' dst K := by rw [h1, h2, h3]
@[congr] theorem CallN_congr {m : Nat} {f : FuncId} {args args' : List V} {s s' : St} {dst : Option Nat} {K : St → Prop} (h1 : args = args') (h2 : s = s') : CallN P m f args s dst K = CallN P m f args' s' dst K := by rw [h1, h2]
theorem callW_value {x : Operand} {args : Array Operand} {ts : Array TypeId} {dst : Option Nat} {K : St → Prop} : callW P ⟨.value x, args, ts⟩ s dst K = CallV P (ev s.tm x) (evL s.tm args.toList) s dst K := rfl
theorem callW_append {x y : Operand} {t u : TypeId} {dst : Option Nat} {K : St → Prop} : callW P ⟨.builtin .append, #[x, y], #[t, u]⟩ s dst K = appendW P t u (ev s.tm x) (ev s.tm y) s dst K := rfl
theorem callW_len {x : Operand} {t : TypeId} {dst : Option Nat} {K : St → Prop} : callW P ⟨.builtin .len, #[x], #[t]⟩ s dst K = nextW s dst K (lenV P s.st t (ev s.tm x)) := rfl
theorem callW_max {x y : Operand} {ts : Array TypeId} {dst : Option Nat} {K : St → Prop} : callW P ⟨.builtin .max, #[x, y], ts⟩ s dst K = nextW s dst K (maxV true (ev s.tm x) (ev s.tm y)) := rfl
theorem callW_min {x y : Operand} {ts : Array TypeId} {dst : Option Nat} {K : St → Prop} : callW P ⟨.builtin .min, #[x, y], ts⟩ s dst K = nextW s dst K (maxV false (ev s.tm x) (ev s.tm y)) := rfl
theorem nval_len {x : Operand} {t : TypeId} {tm : List (Nat × V)} : nval P S tm (.call ⟨.builtin .len, #[x], #[t]⟩) = lenV P S t (ev tm x) := rfl
def CallG (P : Program) (mode : Option Nat) (f : FuncId) (args : List V) (s : St) (dst : Option Nat) (K : St → Prop) : Prop :=
  match mode with
  | some m => CallN P m f args s dst K
  | none => CallW P f args s dst K
@[congr] theorem CallG_congr {dr : Option Nat} {f : FuncId} {args args' : List V} {s s' : St} {dst : Option Nat} {K : St → Prop} (h1 : args = args') (h2 : s = s') : CallG P dr f args s dst K = CallG P dr f args' s' dst K := by rw [h1, h2]
theorem callV_fn {f : Nat} {caps : List (Key × Nat)} {args : List V} {dst : Option Nat} {K : St → Prop} : CallV P (.c (.fn f caps)) args s dst K = CallG P none f (args ++ capV caps) s dst K := rfl
theorem callM_fn {m : Nat} {f : Nat} {caps : List (Key × Nat)} {args : List V} {dst : Option Nat} {K : St → Prop} : CallM P m (.c (.fn f caps)) args s dst K = CallG P (some m) f (args ++ capV caps) s dst K := rfl
theorem call_w {dr : Option Nat} {f : FuncId} {args : List V} {dst : Option Nat} {K : St → Prop} {r : V} (h : PCall P f (args.map V.bor) r) (hK : K (s.put dst r)) : CallG P dr f args s dst K := by
  cases dr with
  | none => exact callW_pure h hK
  | some m =>
    match m with
    | 0 => exact ⟨r, fun S => (h S).bor, hK⟩
    | 1 => exact ⟨s.st, r, DS.refl _, callW_pure h rfl, hK⟩
    | m + 2 => exact ⟨s.st, r, callW_pure h rfl, hK⟩
def effOk : Option Nat → Bool
  | none => true
  | some m => decide (2 ≤ m)
theorem call_d {dr : Option Nat} {f : FuncId} {args : List V} {dst : Option Nat} {K : St → Prop} {r : V} {S1 : Store} (hm : effOk dr = true) (h : ACall P f args s.st (fun r' S' => r' = r ∧ S' = S1)) (hK : K (St.put ⟨s.tm, S1⟩ dst r)) : CallG P dr f args s dst K := by
  cases dr with
  | none => exact .inl ⟨_, h, fun r' S' e => by rw [e.1, e.2]; exact hK⟩
  | some m =>
    match m, hm with
    | 0, hm => cases hm
    | 1, hm => cases hm
    | m + 2, _ => exact ⟨S1, r, .inl ⟨_, h, fun r' S' e => by rw [e.1, e.2]⟩, hK⟩
theorem call_x {f : FuncId} {args : List V} {dst : Option Nat} {K : St → Prop} {r : V} (h : XCall P f args r) (hK : K (St.put s dst r)) : CallG P none f args s dst K := .inr ⟨r, h, hK⟩
def ropsK (P : Program) (R : Array Oper) (os : List Oper) (K : St → Prop) (s : St) : Prop := rops P R os s K
def dopsK (P : Program) (E : Md) (R : Array Oper) (os : List Oper) (K : St → Prop) (s : St) : Prop := dops P E R os s K
@[congr] theorem ropsK_congr {R : Array Oper} {os : List Oper} {s s' : St} {K : St → Prop} (h2 : s = s') : ropsK P R os K s = ropsK P R os K s' := by rw [h2]
@[congr] theorem dopsK_congr {R : Array Oper} {os : List Oper} {s s' : St} {K : St → Prop} (h2 : s = s') : dopsK P E R os K s = dopsK P E R os K s' := by rw [h2]
-- the state is a pair here, so that it is computed before an operation is looked at
section
variable {tm : List (Nat × V)} {R : Array Oper} {o : Oper} {os : List Oper} {K : St → Prop}
theorem rops_nil : rops P R [] ⟨tm, S⟩ K = K ⟨tm, S⟩ := rfl
theorem rops_cons : rops P R (o :: os) ⟨tm, S⟩ K = guardW P R o ⟨tm, S⟩ (ropsK P R os K) := rfl
theorem ropsK_nil : ropsK P R [] K ⟨tm, S⟩ = K ⟨tm, S⟩ := rfl
theorem ropsK_cons : ropsK P R (o :: os) K ⟨tm, S⟩ = guardW P R o ⟨tm, S⟩ (ropsK P R os K) := rfl
theorem dops_nil : dops P E R [] ⟨tm, S⟩ K = K ⟨tm, S⟩ := rfl
theorem dops_cons : dops P E R (o :: os) ⟨tm, S⟩ K = dguardW P E R o ⟨tm, S⟩ (dopsK P E R os K) := rfl
theorem dopsK_nil : dopsK P E R [] K ⟨tm, S⟩ = K ⟨tm, S⟩ := rfl
theorem dopsK_cons : dopsK P E R (o :: os) K ⟨tm, S⟩ = dguardW P E R o ⟨tm, S⟩ (dopsK P E R os K) := rfl
end
section
variable {dst : Option Nat} {ty : TypeId} {pos : String} {after : Array Edge} {g : Option (Nat × Bool)} {K : St → Prop}
theorem execR_alloc {t : TypeId} : execR P ⟨dst, .alloc t, ty, pos, after, g⟩ s K = execW P ⟨dst, .alloc t, ty, pos, after, g⟩ s K := rfl
theorem execR_box {t : TypeId} {x : Operand} : execR P ⟨dst, .box t x, ty, pos, after, g⟩ s K = execW P ⟨dst, .box t x, ty, pos, after, g⟩ s K := rfl
theorem execR_store {t : TypeId} {a x : Operand} : execR P ⟨dst, .store t a x, ty, pos, after, g⟩ s K = execW P ⟨dst, .store t a x, ty, pos, after, g⟩ s K := rfl
theorem execR_make {t : TypeId} {a x : Operand} : execR P ⟨dst, .makeSlice t a x, ty, pos, after, g⟩ s K = execW P ⟨dst, .makeSlice t a x, ty, pos, after, g⟩ s K := rfl
theorem execR_makeMap {t : TypeId} {r : Option Operand} : execR P ⟨dst, .makeMap t r, ty, pos, after, g⟩ s K = execW P ⟨dst, .makeMap t r, ty, pos, after, g⟩ s K := rfl
theorem execR_mapUpdate {t : TypeId} {x k v : Operand} : execR P ⟨dst, .mapUpdate t x k v, ty, pos, after, g⟩ s K = execW P ⟨dst, .mapUpdate t x k v, ty, pos, after, g⟩ s K := rfl
theorem execR_lookup {t : TypeId} {x i : Operand} {b : Bool} : execR P ⟨dst, .lookup t x i b, ty, pos, after, g⟩ s K = execW P ⟨dst, .lookup t x i b, ty, pos, after, g⟩ s K := rfl
theorem execR_call {x : Operand} {as : Array Operand} {ts : Array TypeId} : execR P ⟨dst, .call ⟨.value x, as, ts⟩, ty, pos, after, g⟩ s K = execW P ⟨dst, .call ⟨.value x, as, ts⟩, ty, pos, after, g⟩ s K := rfl
theorem execR_len {as : Array Operand} {ts : Array TypeId} : execR P ⟨dst, .call ⟨.builtin .len, as, ts⟩, ty, pos, after, g⟩ s K = execW P ⟨dst, .call ⟨.builtin .len, as, ts⟩, ty, pos, after, g⟩ s K := rfl
theorem execR_max {as : Array Operand} {ts : Array TypeId} : execR P ⟨dst, .call ⟨.builtin .max, as, ts⟩, ty, pos, after, g⟩ s K = execW P ⟨dst, .call ⟨.builtin .max, as, ts⟩, ty, pos, after, g⟩ s K := rfl
theorem execR_min {as : Array Operand} {ts : Array TypeId} : execR P ⟨dst, .call ⟨.builtin .min, as, ts⟩, ty, pos, after, g⟩ s K = execW P ⟨dst, .call ⟨.builtin .min, as, ts⟩, ty, pos, after, g⟩ s K := rfl
theorem execR_move {x : Operand} : execR P ⟨dst, .move x, ty, pos, after, g⟩ s K = execW P ⟨dst, .move x, ty, pos, after, g⟩ s K := rfl
theorem execR_assign {x : Operand} : execR P ⟨dst, .assign x, ty, pos, after, g⟩ s K = execW P ⟨dst, .assign x, ty, pos, after, g⟩ s K := rfl
theorem execR_pick {c a b : Operand} : execR P ⟨dst, .pick c a b, ty, pos, after, g⟩ s K = execW P ⟨dst, .pick c a b, ty, pos, after, g⟩ s K := rfl
theorem execR_load {t : TypeId} {a : Operand} : execR P ⟨dst, .load t a, ty, pos, after, g⟩ s K = execW P ⟨dst, .load t a, ty, pos, after, g⟩ s K := rfl
theorem execR_fieldAddr {t : TypeId} {x : Operand} {f : Nat} : execR P ⟨dst, .fieldAddr t x f, ty, pos, after, g⟩ s K = execW P ⟨dst, .fieldAddr t x f, ty, pos, after, g⟩ s K := rfl
theorem execR_field {t : TypeId} {x : Operand} {f : Nat} : execR P ⟨dst, .field t x f, ty, pos, after, g⟩ s K = execW P ⟨dst, .field t x f, ty, pos, after, g⟩ s K := rfl
theorem execR_indexAddr {t : TypeId} {x i : Operand} : execR P ⟨dst, .indexAddr t x i, ty, pos, after, g⟩ s K = execW P ⟨dst, .indexAddr t x i, ty, pos, after, g⟩ s K := rfl
theorem execR_index {t : TypeId} {x i : Operand} : execR P ⟨dst, .index t x i, ty, pos, after, g⟩ s K = execW P ⟨dst, .index t x i, ty, pos, after, g⟩ s K := rfl
theorem execR_binOp {op : BinOp} {t u : TypeId} {x y : Operand} : execR P ⟨dst, .binOp op t x y u, ty, pos, after, g⟩ s K = execW P ⟨dst, .binOp op t x y u, ty, pos, after, g⟩ s K := rfl
theorem execR_unOp {op : UnOp} {t : TypeId} {x : Operand} : execR P ⟨dst, .unOp op t x, ty, pos, after, g⟩ s K = execW P ⟨dst, .unOp op t x, ty, pos, after, g⟩ s K := rfl
theorem execR_convert {a b : TypeId} {x : Operand} : execR P ⟨dst, .convert a b x, ty, pos, after, g⟩ s K = execW P ⟨dst, .convert a b x, ty, pos, after, g⟩ s K := rfl
theorem execR_extract {x : Operand} {i : Nat} : execR P ⟨dst, .extract x i, ty, pos, after, g⟩ s K = execW P ⟨dst, .extract x i, ty, pos, after, g⟩ s K := rfl
theorem execR_makeFunc {fn : Fn} {a b : Array Operand} : execR P ⟨dst, .makeFunc fn a b, ty, pos, after, g⟩ s K = execW P ⟨dst, .makeFunc fn a b, ty, pos, after, g⟩ s K := rfl
theorem execR_nilCheck {x : Operand} : execR P ⟨dst, .nilCheck x, ty, pos, after, g⟩ s K = execW P ⟨dst, .nilCheck x, ty, pos, after, g⟩ s K := rfl
theorem execR_slice {t : TypeId} {x : Operand} {lo hi mx : Option Operand} : execR P ⟨dst, .slice t x lo hi mx, ty, pos, after, g⟩ s K = execW P ⟨dst, .slice t x lo hi mx, ty, pos, after, g⟩ s K := rfl
theorem execR_build {t : TypeId} {parts : Array (Nat × Operand)} : execR P ⟨dst, .build t parts, ty, pos, after, g⟩ s K = execW P ⟨dst, .build t parts, ty, pos, after, g⟩ s K := rfl
theorem execR_append {x y : Operand} {t u : TypeId} : execR P ⟨dst, .call ⟨.builtin .append, #[x, y], #[t, u]⟩, ty, pos, after, g⟩ s K = appendR P t u (ev s.tm x) (ev s.tm y) s dst K := rfl
theorem execR_buildSlice {t : TypeId} {n : Nat} {parts : Array (Nat × Operand)} : execR P ⟨dst, .buildSlice t n parts, ty, pos, after, g⟩ s K = litW P t s dst K (rowT s.st t) (buildSliceL P (labS s.st) t n (evP s.tm parts.toList)) := rfl
theorem exec_alloc {t : TypeId} : execW P ⟨dst, .alloc t, ty, pos, after, g⟩ s K = allocW P t s dst K := rfl
theorem exec_box {t : TypeId} {x : Operand} : execW P ⟨dst, .box t x, ty, pos, after, g⟩ s K = boxW (ev s.tm x) s dst K := rfl
theorem exec_store {t : TypeId} {a x : Operand} : execW P ⟨dst, .store t a x, ty, pos, after, g⟩ s K = storeW P t (ev s.tm a) (ev s.tm x) s dst K := rfl
theorem exec_make {t : TypeId} {a x : Operand} : execW P ⟨dst, .makeSlice t a x, ty, pos, after, g⟩ s K = makeW P t (ev s.tm a) (ev s.tm x) s dst K := rfl
theorem exec_makeMap {t : TypeId} : execW P ⟨dst, .makeMap t none, ty, pos, after, g⟩ s K = mapNewW s dst K := rfl
theorem exec_mapUpdate {t : TypeId} {x k v : Operand} : execW P ⟨dst, .mapUpdate t x k v, ty, pos, after, g⟩ s K = mapPutW P t (ev s.tm x) (ev s.tm k) (ev s.tm v) s dst K := rfl
theorem exec_lookup {t : TypeId} {x i : Operand} : execW P ⟨dst, .lookup t x i false, ty, pos, after, g⟩ s K = nextW s dst K (lookupV P s.st t (ev s.tm x) (ev s.tm i)) := rfl
theorem dexec_makeMap {t : TypeId} : dexecW P E ⟨dst, .makeMap t none, ty, pos, after, g⟩ s K = mapNewW s dst K := rfl
theorem dexec_mapUpdate {t : TypeId} {x k v : Operand} : dexecW P E ⟨dst, .mapUpdate t x k v, ty, pos, after, g⟩ s K = mapPutW P t (ev s.tm x) (ev s.tm k) (ev s.tm v) s dst K := rfl
theorem dexec_lookup {t : TypeId} {x i : Operand} : dexecW P E ⟨dst, .lookup t x i false, ty, pos, after, g⟩ s K = nextW s dst K (lookupV P s.st t (ev s.tm x) (ev s.tm i)) := rfl
theorem exec_call {c : Call} : execW P ⟨dst, .call c, ty, pos, after, g⟩ s K = callW P c s dst K := rfl
theorem exec_move {x : Operand} : execW P ⟨dst, .move x, ty, pos, after, g⟩ s K = K (s.put dst (ev s.tm x)) := by simp [execW, nval, nvalL]
theorem exec_assign {x : Operand} : execW P ⟨dst, .assign x, ty, pos, after, g⟩ s K = K (s.put dst (ev s.tm x)) := by simp [execW, nval, nvalL]
theorem exec_pick {c a b : Operand} : execW P ⟨dst, .pick c a b, ty, pos, after, g⟩ s K = nextW s dst K (pickV (ev s.tm c) (ev s.tm a) (ev s.tm b)) := rfl
theorem exec_load {t : TypeId} {a : Operand} : execW P ⟨dst, .load t a, ty, pos, after, g⟩ s K = nextW s dst K (loadV P s.st t (ev s.tm a)) := rfl
theorem exec_fieldAddr {t : TypeId} {x : Operand} {f : Nat} : execW P ⟨dst, .fieldAddr t x f, ty, pos, after, g⟩ s K = nextW s dst K (fieldAddrV P s.st t (ev s.tm x) f) := rfl
theorem exec_field {t : TypeId} {x : Operand} {f : Nat} : execW P ⟨dst, .field t x f, ty, pos, after, g⟩ s K = nextW s dst K (fieldV P t (ev s.tm x) f) := rfl
theorem exec_indexAddr {t : TypeId} {x i : Operand} : execW P ⟨dst, .indexAddr t x i, ty, pos, after, g⟩ s K = nextW s dst K (indexAddrV P s.st t (ev s.tm x) (ev s.tm i)) := rfl
theorem exec_index {t : TypeId} {x i : Operand} : execW P ⟨dst, .index t x i, ty, pos, after, g⟩ s K = nextW s dst K (indexV P t (ev s.tm x) (ev s.tm i)) := rfl
theorem exec_binOp {op : BinOp} {t u : TypeId} {x y : Operand} : execW P ⟨dst, .binOp op t x y u, ty, pos, after, g⟩ s K = nextW s dst K (binV P op t (ev s.tm x) (ev s.tm y)) := rfl
theorem exec_unOp {op : UnOp} {t : TypeId} {x : Operand} : execW P ⟨dst, .unOp op t x, ty, pos, after, g⟩ s K = nextW s dst K (unV op (ev s.tm x)) := rfl
theorem exec_convert {a b : TypeId} {x : Operand} : execW P ⟨dst, .convert a b x, ty, pos, after, g⟩ s K = nextW s dst K (convV P a b (ev s.tm x)) := rfl
theorem exec_extract {x : Operand} {i : Nat} : execW P ⟨dst, .extract x i, ty, pos, after, g⟩ s K = nextW s dst K (extractV (ev s.tm x) i) := rfl
theorem exec_makeFunc {fn : Fn} {a b : Array Operand} : execW P ⟨dst, .makeFunc fn a b, ty, pos, after, g⟩ s K = nextW s dst K (makeFuncV fn (evL s.tm a.toList) (evL s.tm b.toList)) := rfl
theorem exec_nilCheck {x : Operand} : execW P ⟨dst, .nilCheck x, ty, pos, after, g⟩ s K = nextW s dst K (nilCheckV s.st (ev s.tm x)) := rfl
theorem exec_slice {t : TypeId} {x : Operand} {lo hi mx : Option Operand} : execW P ⟨dst, .slice t x lo hi mx, ty, pos, after, g⟩ s K = nextW s dst K (sliceV P t (ev s.tm x) (evO s.tm lo) (evO s.tm hi) (evO s.tm mx)) := rfl
theorem exec_build {t : TypeId} {parts : Array (Nat × Operand)} : execW P ⟨dst, .build t parts, ty, pos, after, g⟩ s K = nextW s dst K (buildV P t (evP s.tm parts.toList)) := rfl
theorem exec_buildSlice {t : TypeId} {n : Nat} {parts : Array (Nat × Operand)} : execW P ⟨dst, .buildSlice t n parts, ty, pos, after, g⟩ s K = nextW s dst K (buildSliceL P (labS s.st) t n (evP s.tm parts.toList)) := rfl
theorem dexec_alloc {t : TypeId} : dexecW P E ⟨dst, .alloc t, ty, pos, after, g⟩ s K = allocW P t s dst K := rfl
theorem dexec_box {t : TypeId} {x : Operand} : dexecW P E ⟨dst, .box t x, ty, pos, after, g⟩ s K = boxW (ev s.tm x) s dst K := rfl
theorem dexec_store {t : TypeId} {a x : Operand} : dexecW P E ⟨dst, .store t a x, ty, pos, after, g⟩ s K = storeW P t (ev s.tm a) (ev s.tm x) s dst K := rfl
theorem dexec_make {t : TypeId} {a x : Operand} : dexecW P E ⟨dst, .makeSlice t a x, ty, pos, after, g⟩ s K = makeW P t (ev s.tm a) (ev s.tm x) s dst K := rfl
theorem dexec_append {args : Array Operand} {ts : Array TypeId} : dexecW P E ⟨dst, .call ⟨.builtin .append, args, ts⟩, ty, pos, after, g⟩ s K = callW P ⟨.builtin .append, args, ts⟩ s dst K := rfl
theorem dexec_move {x : Operand} : dexecW P E ⟨dst, .move x, ty, pos, after, g⟩ s K = K (s.put dst (ev s.tm x)) := by simp [dexecW, isD, nval, nvalL]
theorem dexec_assign {x : Operand} : dexecW P E ⟨dst, .assign x, ty, pos, after, g⟩ s K = K (s.put dst (ev s.tm x)) := by simp [dexecW, isD, nval, nvalL]
theorem dexec_pick {c a b : Operand} : dexecW P E ⟨dst, .pick c a b, ty, pos, after, g⟩ s K = nextW s dst K (pickV (ev s.tm c) (ev s.tm a) (ev s.tm b)) := rfl
theorem dexec_load {t : TypeId} {a : Operand} : dexecW P E ⟨dst, .load t a, ty, pos, after, g⟩ s K = nextW s dst K (loadV P s.st t (ev s.tm a)) := rfl
theorem dexec_fieldAddr {t : TypeId} {x : Operand} {f : Nat} : dexecW P E ⟨dst, .fieldAddr t x f, ty, pos, after, g⟩ s K = nextW s dst K (fieldAddrV P s.st t (ev s.tm x) f) := rfl
theorem dexec_field {t : TypeId} {x : Operand} {f : Nat} : dexecW P E ⟨dst, .field t x f, ty, pos, after, g⟩ s K = nextW s dst K (fieldV P t (ev s.tm x) f) := rfl
theorem dexec_indexAddr {t : TypeId} {x i : Operand} : dexecW P E ⟨dst, .indexAddr t x i, ty, pos, after, g⟩ s K = nextW s dst K (indexAddrV P s.st t (ev s.tm x) (ev s.tm i)) := rfl
theorem dexec_index {t : TypeId} {x i : Operand} : dexecW P E ⟨dst, .index t x i, ty, pos, after, g⟩ s K = nextW s dst K (indexV P t (ev s.tm x) (ev s.tm i)) := rfl
theorem dexec_binOp {op : BinOp} {t u : TypeId} {x y : Operand} : dexecW P E ⟨dst, .binOp op t x y u, ty, pos, after, g⟩ s K = nextW s dst K (binV P op t (ev s.tm x) (ev s.tm y)) := rfl
theorem dexec_unOp {op : UnOp} {t : TypeId} {x : Operand} : dexecW P E ⟨dst, .unOp op t x, ty, pos, after, g⟩ s K = nextW s dst K (unV op (ev s.tm x)) := rfl
theorem dexec_convert {a b : TypeId} {x : Operand} : dexecW P E ⟨dst, .convert a b x, ty, pos, after, g⟩ s K = nextW s dst K (convV P a b (ev s.tm x)) := rfl
theorem dexec_extract {x : Operand} {i : Nat} : dexecW P E ⟨dst, .extract x i, ty, pos, after, g⟩ s K = nextW s dst K (extractV (ev s.tm x) i) := rfl
theorem dexec_makeFunc {fn : Fn} {a b : Array Operand} : dexecW P E ⟨dst, .makeFunc fn a b, ty, pos, after, g⟩ s K = nextW s dst K (makeFuncV fn (evL s.tm a.toList) (evL s.tm b.toList)) := rfl
theorem dexec_nilCheck {x : Operand} : dexecW P E ⟨dst, .nilCheck x, ty, pos, after, g⟩ s K = nextW s dst K (nilCheckV s.st (ev s.tm x)) := rfl
theorem dexec_slice {t : TypeId} {x : Operand} {lo hi mx : Option Operand} : dexecW P E ⟨dst, .slice t x lo hi mx, ty, pos, after, g⟩ s K = nextW s dst K (sliceV P t (ev s.tm x) (evO s.tm lo) (evO s.tm hi) (evO s.tm mx)) := rfl
theorem dexec_build {t : TypeId} {parts : Array (Nat × Operand)} : dexecW P E ⟨dst, .build t parts, ty, pos, after, g⟩ s K = nextW s dst K (buildV P t (evP s.tm parts.toList)) := rfl
theorem dexec_buildSlice {t : TypeId} {n : Nat} {parts : Array (Nat × Operand)} : dexecW P E ⟨dst, .buildSlice t n parts, ty, pos, after, g⟩ s K = nextW s dst K (buildSliceL P (labS s.st) t n (evP s.tm parts.toList)) := rfl
theorem dexec_len {args : Array Operand} {ts : Array TypeId} : dexecW P E ⟨dst, .call ⟨.builtin .len, args, ts⟩, ty, pos, after, g⟩ s K = nextW s dst K (nval P s.st s.tm (.call ⟨.builtin .len, args, ts⟩)) := rfl
theorem dexec_max {x y : Operand} {ts : Array TypeId} : dexecW P E ⟨dst, .call ⟨.builtin .max, #[x, y], ts⟩, ty, pos, after, g⟩ s K = nextW s dst K (maxV true (ev s.tm x) (ev s.tm y)) := rfl
theorem dexec_min {x y : Operand} {ts : Array TypeId} : dexecW P E ⟨dst, .call ⟨.builtin .min, #[x, y], ts⟩, ty, pos, after, g⟩ s K = nextW s dst K (maxV false (ev s.tm x) (ev s.tm y)) := rfl
theorem dexec_call {x : Operand} {args : Array Operand} {ts : Array TypeId} : dexecW P E ⟨dst, .call ⟨.value x, args, ts⟩, ty, pos, after, g⟩ s K = CallM P (E (.call ⟨.value x, args, ts⟩)) (ev s.tm x) (evL s.tm args.toList) s dst K := by
  simp only [dexecW, isD]
  generalize E (.call ⟨.value x, args, ts⟩) = m
  match m with
  | 0 =>
    simp only [callN]
    generalize ev s.tm x = fv
    cases fv with
    | c x => cases x <;> simp [CallM, CallN, capV, evL]
    | _ => simp [CallM]
  | 1 =>
    simp only [execW, callW]
    generalize ev s.tm x = fv
    cases fv with
    | c x => cases x <;> simp [CallM, CallN, capV, evL]
    | _ => simp [CallM]
  | m + 2 =>
    simp only [execW, callW]
    generalize ev s.tm x = fv
    cases fv with
    | c x => cases x <;> simp [CallM, CallN, capV, evL]
    | _ => simp [CallM]
end
def condW (v : V) (A B : St → Prop) (s : St) : Prop :=
  match v with
  | .c (.d (.b x)) => Split x A B s
  | _ => False
def CW (P : Program) (N : Nat) : Code → (Exit → St → Prop) → St → Prop
  | .seq x y, Q, s => CW P N x (thenK (CW P N y Q) Q) s
  | .region _ R false, Q, s => rops P R R.toList s (Q .normal)
  | .region _ R true, Q, s => dops P (autoE R N) R R.toList s (Q .normal)
  | .cond c x y, Q, s => condW (ev s.tm c) (CW P N x Q) (CW P N y Q) s
  | .block id c, Q, s => CW P N c (inBlk id Q) s
  | .exit id, Q, s => Q (.exit id) s
  | .ret, Q, s => Q .ret s
  | .skip, Q, s => Q .normal s
  | .loop c, Q, s => AW P N (.loop c) Q s
  | _, _, _ => False
def okDst (N : Nat) (R : Array Oper) : Bool := R.toList.all (fun o => match o.dst with | some d => decide (d < N) | none => true)
def codeOk (N : Nat) : Code → Bool
  | .seq x y => codeOk N x && codeOk N y
  | .region _ R false => okDst N R
  | .region _ R true => drawAny R N
  | .cond _ x y => codeOk N x && codeOk N y
  | .block _ c => codeOk N c
  | .loop c => codeOk N c
  | _ => true
theorem cw_sound (hmix : P.follows .mixedOrders = true) : ∀ (c : Code) (Q : Exit → St → Prop) (s : St), codeOk N c = true → CW P N c Q s → AW P N c Q s
  | .seq x y, Q, s, ok, h => by
    simp only [codeOk, Bool.and_eq_true] at ok
    refine aw_seq (AW.mono (cw_sound hmix x _ s ok.1 h) fun e s' h' => ?_)
    cases e with
    | normal => exact cw_sound hmix y Q s' ok.2 h'
    | _ => exact h'
  | .region _ R false, Q, s, ok, h => aw_region ok h
  | .region _ R true, Q, s, ok, h => aw_drawAny hmix ok h
  | .cond c x y, Q, s, ok, h => by
    simp only [codeOk, Bool.and_eq_true] at ok
    simp only [CW, condW] at h
    split at h
    · rename_i b hb
      exact aw_cond hb (fun e => cw_sound hmix x Q s ok.1 (h.1 e)) (fun e => cw_sound hmix y Q s ok.2 (h.2 e))
    · exact h.elim
  | .block id c, Q, s, ok, h => aw_block (cw_sound hmix c _ s ok h)
  | .exit id, Q, s, ok, h => aw_exit h
  | .ret, Q, s, ok, h => aw_ret h
  | .skip, Q, s, ok, h => aw_skip h
  | .loop c, Q, s, ok, h => h
  | .rangeFunc _ _ _ _, Q, s, ok, h => h.elim
  | .scope _, Q, s, ok, h => h.elim
  | .label _, Q, s, ok, h => h.elim
  | .goto _, Q, s, ok, h => h.elim
  | .refuse _, Q, s, ok, h => h.elim
theorem cw_seq {x y : Code} {Q : Exit → St → Prop} : CW P N (.seq x y) Q s = CW P N x (thenK (CW P N y Q) Q) s := by rw [CW]
theorem cw_region {id : Nat} {l : List Oper} {Q : Exit → St → Prop} : CW P N (.region id ⟨l⟩ false) Q s = rops P ⟨l⟩ l s (Q .normal) := by rw [CW]
theorem cw_draw {id : Nat} {l : List Oper} {Q : Exit → St → Prop} : CW P N (.region id ⟨l⟩ true) Q s = dops P (autoE ⟨l⟩ N) ⟨l⟩ l s (Q .normal) := by rw [CW]
theorem cw_cond {c : Operand} {x y : Code} {Q : Exit → St → Prop} : CW P N (.cond c x y) Q s = condW (ev s.tm c) (CW P N x Q) (CW P N y Q) s := by rw [CW]
theorem cw_block {id : Nat} {c : Code} {Q : Exit → St → Prop} : CW P N (.block id c) Q s = CW P N c (inBlk id Q) s := by rw [CW]
theorem cw_exit {id : Nat} {Q : Exit → St → Prop} : CW P N (.exit id) Q s = Q (.exit id) s := by rw [CW]
theorem cw_ret {Q : Exit → St → Prop} : CW P N .ret Q s = Q .ret s := by rw [CW]
theorem cw_skip {Q : Exit → St → Prop} : CW P N .skip Q s = Q .normal s := by rw [CW]
theorem cw_loop {c : Code} {Q : Exit → St → Prop} : CW P N (.loop c) Q s = AW P N (.loop c) Q s := by rw [CW]
theorem thenK_normal {K : St → Prop} {Q : Exit → St → Prop} : thenK K Q .normal s = K s := rfl
theorem thenK_ret {K : St → Prop} {Q : Exit → St → Prop} : thenK K Q .ret s = Q .ret s := rfl
theorem thenK_exit {K : St → Prop} {Q : Exit → St → Prop} {i : Nat} : thenK K Q (.exit i) s = Q (.exit i) s := rfl
theorem inBlk_normal {id : Nat} {Q : Exit → St → Prop} : inBlk id Q .normal s = Q .normal s := rfl
theorem inBlk_ret {id : Nat} {Q : Exit → St → Prop} : inBlk id Q .ret s = Q .ret s := rfl
theorem inBlk_exit {id i : Nat} {Q : Exit → St → Prop} : inBlk id Q (.exit i) s = if i = id then Q .normal s else Q (.exit i) s := rfl
def retW (post : V → Store → Prop) (s : St) (r : R) : Prop := r.1 ∧ match r.2.ret with
  | some v => post v (tail1 s.st)
  | none => False
theorem retW_mk {post : V → Store → Prop} {p : Prop} {v : V} : retW post s (p, v) = (p ∧ match v.ret with
  | some v => post v (tail1 s.st)
  | none => False) := rfl
def retF (P : Program) (rs : List ResultVar) (post : V → Store → Prop) (e : Exit) (s : St) : Prop := retQ P rs post e (frzAll s)
def retS (P : Program) (rs : List ResultVar) (post : V → Store → Prop) (s : St) : Prop := retW post s (resV P rs s)
theorem retF_ret {rs : List ResultVar} {post : V → Store → Prop} : retF P rs post .ret s = retS P rs post (frzAll s) := rfl
theorem retF_normal {rs : List ResultVar} {post : V → Store → Prop} : retF P rs post .normal s = retS P rs post (frzAll s) := rfl
theorem retS_mk {rs : List ResultVar} {post : V → Store → Prop} {tm : List (Nat × V)} : retS P rs post ⟨tm, S⟩ = retW post ⟨tm, S⟩ (resV P rs ⟨tm, S⟩) := rfl
def mapF (j : Nat) (es : List (List D)) (tm : List (Nat × V)) : List (Nat × V) := tm.map fun x => (x.1, x.2.frz j es)
theorem look_mapF {j : Nat} {es : List (List D)} {tm : List (Nat × V)} {t : Nat} : look (mapF j es tm) t = (look tm t).frz j es := look_map (f := V.frz j es) rfl tm t
def frzC (j : Nat) (tm : List (Nat × V)) (own : List Obj) (Ω : Store) : Option Obj → St
  | some (.mrow _ es) => ⟨mapF j es tm, (own.map (Obj.frz j es)).set j .dead :: Ω⟩
  | _ => ⟨tm, own :: Ω⟩
theorem frzAt_mk {j : Nat} {tm : List (Nat × V)} {own : List Obj} {Ω : Store} : frzAt j ⟨tm, own :: Ω⟩ = frzC j tm own Ω (own[j]?) := by
  unfold frzAt
  simp only
  generalize own[j]? = o
  cases o with
  | none => rfl
  | some o => cases o <;> rfl
theorem frzAll_mk {tm : List (Nat × V)} {own : List Obj} {Ω : Store} : frzAll ⟨tm, own :: Ω⟩ = frzUp own.length ⟨tm, own :: Ω⟩ := rfl
theorem acall_cw {f : FuncId} {fn : Func} {c : Code} {args : List V} {post : V → Store → Prop} {rs : List ResultVar} (hmix : P.follows .mixedOrders = true) (hf : P.funcs[f]? = some fn) (hN : fn.ntmps = N)
    (hb : fn.body = some c) (hn : (fn.name == "runtime.NumGoroutine") = false) (hr : fn.results.toList = rs) (hl : Nat.ble args.length N = true) (hok : codeOk N c = true)
    (h : CW P N c (retF P rs post) ⟨argTm (args.map (V.up 1)) 0, [] :: S⟩) : ACall P f args S post := by
  subst hN
  subst hr
  exact acall_enter hf hb hn (Nat.le_of_ble_eq_true hl) (aw_end frzAll_ghost (cw_sound hmix c _ _ hok h))
end
end Go.Ab

namespace Go.Ab
theorem wrap_in (n : Int) (h : -9223372036854775808 ≤ n ∧ n ≤ 9223372036854775807) : IntKind.i64.wrap n = n := IntWalk.i64_in n h
theorem getD_map {α β : Type} (f : α → β) (l : List α) (i : Nat) (d : β) (h : i < l.length) : (l.map f).getD i d = f l[i] := by
  simp [List.getD, h]
theorem constV_int {k : IntKind} {n : Int} : constV (.int k n) = .c (.d (.i k n)) := rfl
theorem constV_bool {b : Bool} : constV (.bool b) = .c (.d (.b b)) := rfl
theorem constV_str {l : List UInt8} : constV (.string ⟨⟨l⟩⟩) = .c (.d (.s l)) := rfl
theorem constV_nils : constV (.slice none 0 0) = .c (.fsl []) := rfl
theorem put_some {tm : List (Nat × V)} {S : Store} {d : Nat} {v : V} : St.put ⟨tm, S⟩ (some d) v = ⟨(d, v) :: tm, S⟩ := rfl
theorem put_none {tm : List (Nat × V)} {S : Store} {v : V} : St.put ⟨tm, S⟩ none v = ⟨tm, S⟩ := rfl
theorem pick_t {a b : V} : pickV (.c (.d (.b true))) a b = (True, a) := rfl
theorem pick_f {a b : V} : pickV (.c (.d (.b false))) a b = (True, b) := rfl
theorem newObj_cons {tm : List (Nat × V)} {own : List Obj} {Ω : Store} {dst : Option Nat} {o : Obj} {mk : Key → V} {K : St → Prop} :
    newObj ⟨tm, own :: Ω⟩ dst o mk K = K (St.put ⟨tm, (own ++ [o]) :: Ω⟩ dst (mk (0, own.length))) := rfl
theorem boxW_c {x : C} {s : St} {dst : Option Nat} {K : St → Prop} : boxW (.c x) s dst K = newObj s dst (.box [x]) (fun k => .c (.ptr k 0)) K := rfl
theorem boxW_agg {x : List C} {s : St} {dst : Option Nat} {K : St → Prop} : boxW (.agg x) s dst K = newObj s dst (.box x) (fun k => .c (.ptr k 0)) K := rfl
theorem optM_nil {α β : Type} {f : α → Option β} : ([] : List α).mapM f = some [] := by simp
theorem optM_cons {α β : Type} {f : α → Option β} {x : α} {xs : List α} : (x :: xs).mapM f = (f x).bind fun y => (xs.mapM f).bind fun ys => some (y :: ys) := by
  rw [List.mapM_cons]; rfl
theorem down0 {c : C} : C.down 0 c = some c := by cases c <;> simp [C.down]
theorem down_tsl {n m j : Nat} {es : List (List D)} : C.down n (.tsl (n + m, j) es) = some (.tsl (m, j) es) := by simp [C.down]
theorem down_tsl0 {n j : Nat} {es : List (List D)} : C.down n (.tsl (n, j) es) = some (.tsl (0, j) es) := by simp [C.down]
theorem down_d {n : Nat} {x : D} : C.down n (.d x) = some (.d x) := rfl
theorem down_any {n : Nat} : C.down n .any = some .any := rfl
theorem down_fsl {n : Nat} {es : List (List D)} : C.down n (.fsl es) = some (.fsl es) := rfl
theorem down_ptr {n m j off : Nat} : C.down n (.ptr (n + m, j) off) = some (.ptr (m, j) off) := by simp [C.down]
theorem down_ptr0 {n j off : Nat} : C.down n (.ptr (n, j) off) = some (.ptr (0, j) off) := by simp [C.down]
theorem down_lfl {n m : Nat} {es : List (List D)} : C.down n (.lfl m es) = some (.lfl m es) := rfl
theorem labS_nil {Ω : Store} : labS ([] :: Ω) = none := rfl
theorem labS_box {cs : List C} {own : List Obj} {Ω : Store} : labS ((.box cs :: own) :: Ω) = none := rfl
theorem labS_tok {z : Nat} {es : List (List D)} {own : List Obj} {Ω : Store} : labS ((.tok z es :: own) :: Ω) = none := rfl
theorem labS_mrow {z : Nat} {es : List (List D)} {own : List Obj} {Ω : Store} : labS ((.mrow z es :: own) :: Ω) = none := rfl
theorem labS_mp {m : List (List UInt8)} {own : List Obj} {Ω : Store} : labS ((.mp m :: own) :: Ω) = none := rfl
theorem labS_dead {own : List Obj} {Ω : Store} : labS ((.dead :: own) :: Ω) = none := rfl
theorem labS_ltok {n z : Nat} {es : List (List D)} {own : List Obj} {Ω : Store} : labS ((.ltok n z es :: own) :: Ω) = none := rfl
theorem labS_seed {n : Nat} {own : List Obj} {Ω : Store} : labS ((.seed n :: own) :: Ω) = some n := rfl
theorem appF_none {es x : List (List D)} {z : Nat} {s : St} {dst : Option Nat} {K : St → Prop} : appF none es s dst z x K = appA (rowA s.st) es s dst z x K := rfl
theorem appA_false {es x : List (List D)} {z : Nat} {s : St} {dst : Option Nat} {K : St → Prop} : appA false es s dst z x K = newObj s dst (.tok z x) (fun k => .c (.tsl k x)) K := rfl
theorem appA_true {es x : List (List D)} {z : Nat} {s : St} {dst : Option Nat} {K : St → Prop} : appA true es s dst z x K = (es.length < x.length ∧ newObj s dst (.mrow z x) (fun k => .c (.msl k)) K) := rfl
theorem rowA_nil {Ω : Store} : rowA ([] :: Ω) = false := rfl
theorem rowA_box {cs : List C} {own : List Obj} {Ω : Store} : rowA ((.box cs :: own) :: Ω) = false := rfl
theorem rowA_tok {z : Nat} {es : List (List D)} {own : List Obj} {Ω : Store} : rowA ((.tok z es :: own) :: Ω) = false := rfl
theorem rowA_mrow {z : Nat} {es : List (List D)} {own : List Obj} {Ω : Store} : rowA ((.mrow z es :: own) :: Ω) = false := rfl
theorem rowA_mp {m : List (List UInt8)} {own : List Obj} {Ω : Store} : rowA ((.mp m :: own) :: Ω) = false := rfl
theorem rowA_dead {own : List Obj} {Ω : Store} : rowA ((.dead :: own) :: Ω) = false := rfl
theorem rowA_ltok {n z : Nat} {es : List (List D)} {own : List Obj} {Ω : Store} : rowA ((.ltok n z es :: own) :: Ω) = false := rfl
theorem rowA_seed {n : Nat} {own : List Obj} {Ω : Store} : rowA ((.seed n :: own) :: Ω) = false := rfl
theorem rowA_xf {own : List Obj} {Ω : Store} : rowA ((.xf [] :: own) :: Ω) = false := rfl
theorem rowA_xfc {own : List Obj} {Ω : Store} {r : List (List D)} {rs : List (List (List D))} : rowA ((.xf (r :: rs) :: own) :: Ω) = true := rfl
theorem appF_nil {n : Nat} {x : List (List D)} {z : Nat} {s : St} {dst : Option Nat} {K : St → Prop} : appF (some n) [] s dst z x K = K (St.put ⟨s.tm, s.st⟩ dst (.c (.d (.ol n x)))) := rfl
theorem appF_cons {n : Nat} {y : List D} {es x : List (List D)} {z : Nat} {s : St} {dst : Option Nat} {K : St → Prop} : appF (some n) (y :: es) s dst z x K = newObj s dst (.tok z x) (fun k => .c (.tsl k x)) K := rfl
theorem appL_false {n : Nat} {x : List (List D)} {z : Nat} {s : St} {dst : Option Nat} {K : St → Prop} : appL false n s dst z x K = newObj s dst (.ltok n z x) (fun k => .c (.tsl k x)) K := rfl
theorem appL_true {n : Nat} {x : List (List D)} {z : Nat} {s : St} {dst : Option Nat} {K : St → Prop} : appL true n s dst z x K = K (St.put ⟨s.tm, s.st⟩ dst (.c (.d (.ol n x)))) := rfl
theorem sealS_mk {own : List Obj} {Ω : Store} : sealS (own :: Ω) = sealO own[1]? := rfl
theorem sealO_none : sealO none = false := rfl
theorem sealO_box {cs : List C} : sealO (some (.box cs)) = false := rfl
theorem sealO_tok {z : Nat} {es : List (List D)} : sealO (some (.tok z es)) = false := rfl
theorem sealO_ltok {n z : Nat} {es : List (List D)} : sealO (some (.ltok n z es)) = false := rfl
theorem sealO_mrow {z : Nat} {es : List (List D)} : sealO (some (.mrow z es)) = false := rfl
theorem sealO_dead : sealO (some .dead) = false := rfl
theorem sealO_mp {m : List (List UInt8)} : sealO (some (.mp m)) = false := rfl
theorem rowT_mk {own : List Obj} {Ω : Store} {t : TypeId} : rowT (own :: Ω) t = rowO own[0]? t := rfl
theorem rowO_none {t : TypeId} : rowO none t = false := rfl
theorem rowO_box {t : TypeId} {cs : List C} : rowO (some (.box cs)) t = false := rfl
theorem rowO_tok {t : TypeId} {z : Nat} {es : List (List D)} : rowO (some (.tok z es)) t = false := rfl
theorem rowO_ltok {t : TypeId} {n z : Nat} {es : List (List D)} : rowO (some (.ltok n z es)) t = false := rfl
theorem rowO_mrow {t : TypeId} {z : Nat} {es : List (List D)} : rowO (some (.mrow z es)) t = false := rfl
theorem rowO_dead {t : TypeId} : rowO (some .dead) t = false := rfl
theorem rowO_mp {t : TypeId} {m : List (List UInt8)} : rowO (some (.mp m)) t = false := rfl
theorem rowO_seed {t : TypeId} {n : Nat} : rowO (some (.seed n)) t = false := rfl
theorem rowO_xf {t : TypeId} : rowO (some (.xf [])) t = rowIs t := rfl
theorem rowO_xfc {t : TypeId} {r : List (List D)} {rs : List (List (List D))} : rowO (some (.xf (r :: rs))) t = false := rfl
theorem litW_false {P : Program} {t : TypeId} {s : St} {dst : Option Nat} {K : St → Prop} {r : R} : litW P t s dst K false r = nextW s dst K r := rfl
theorem litW_true {P : Program} {t : TypeId} {s : St} {dst : Option Nat} {K : St → Prop} {p : Prop} {es : List (List D)} : litW P t s dst K true (p, .c (.fsl es)) = (match P.underlying t with
    | some (.slice e) => p ∧ newObj s dst (.mrow (P.cellsOf e) es) (fun k => .c (.msl k)) K
    | _ => False) := rfl
theorem labS_xf {own : List Obj} {Ω : Store} {rs : List (List (List D))} : labS ((.xf rs :: own) :: Ω) = none := rfl
theorem sealO_seed0 : sealO (some (.seed 0)) = false := rfl
theorem sealO_seed1 : sealO (some (.seed 1)) = true := rfl
attribute [go_sem ↓] execR_alloc execR_box execR_store execR_make execR_makeMap execR_mapUpdate execR_lookup execR_call execR_len execR_max execR_min execR_move execR_assign execR_pick execR_load execR_fieldAddr execR_field execR_indexAddr execR_index execR_binOp execR_unOp execR_convert execR_extract execR_makeFunc execR_nilCheck execR_slice execR_build execR_append execR_buildSlice
attribute [go_sem] rowT_mk rowO_none rowO_box rowO_tok rowO_ltok rowO_mrow rowO_dead rowO_mp rowO_seed rowO_xf rowO_xfc rowIs litW_false litW_true labS_xf appendR rowApp List.getElem?_nil
attribute [go_sem] appA_false appA_true rowA_nil rowA_box rowA_tok rowA_mrow rowA_mp rowA_dead rowA_ltok rowA_seed rowA_xf rowA_xfc appF_none appF_nil appF_cons appL_false appL_true sealS_mk sealO_none sealO_box sealO_tok sealO_ltok sealO_mrow sealO_dead sealO_mp sealO_seed0 sealO_seed1
theorem bsL_none {P : Program} {t : TypeId} {n : Nat} {parts : List (Nat × V)} : buildSliceL P none t n parts = buildSliceV P t n parts := rfl
def bsLab (m : Nat) : R → R
  | (p, .c (.fsl es)) => (p, .c (.lfl m es))
  | _ => no
theorem bsLab_mk {m : Nat} {p : Prop} {es : List (List D)} : bsLab m (p, .c (.fsl es)) = (p, .c (.lfl m es)) := rfl
theorem bsL_some {P : Program} {m : Nat} {t : TypeId} {n : Nat} {parts : List (Nat × V)} : buildSliceL P (some m) t n parts = bsLab m (buildSliceV P t n parts) := rfl
attribute [go_sem_proc] Nat.reduceEqDiff Nat.reduceAdd Nat.reduceLeDiff Nat.reduceSub Nat.reduceMul Nat.reduceBEq Int.reduceEq Int.reduceLT Int.reduceLE Int.reduceGT Int.reduceGE Int.reduceNeg Int.reduceToNat
attribute [go_sem_proc ↓] reduceIte
attribute [wf_preprocess] decide_eq_true_eq decide_eq_false_iff_not Bool.not_eq_true Bool.not_eq_false Bool.not_eq_eq_eq_not Bool.not_true Bool.not_false Classical.not_not
attribute [go_sem ↓] rops_nil rops_cons ropsK_nil ropsK_cons dops_nil dops_cons dopsK_nil dopsK_cons guardW_none guardW_some dguardW_none dguardW_some putK_eq execK_eq dexecK_eq cw_seq cw_region cw_draw cw_cond cw_block cw_exit cw_ret cw_skip cw_loop thenK_normal thenK_ret thenK_exit inBlk_normal inBlk_ret inBlk_exit retF_ret retF_normal frzAll_mk callW_value callW_append callW_len callW_max callW_min dexec_max dexec_min exec_alloc exec_box exec_store exec_make exec_makeMap exec_mapUpdate exec_lookup dexec_makeMap dexec_mapUpdate dexec_lookup exec_call exec_move exec_assign exec_pick exec_load exec_fieldAddr exec_field exec_indexAddr exec_index exec_binOp exec_unOp exec_convert exec_extract exec_makeFunc exec_nilCheck exec_slice exec_build exec_buildSlice dexec_alloc dexec_box dexec_store dexec_make dexec_append dexec_move dexec_assign dexec_pick dexec_load dexec_fieldAddr dexec_field dexec_indexAddr dexec_index dexec_binOp dexec_unOp dexec_convert dexec_extract dexec_makeFunc dexec_nilCheck dexec_slice dexec_build dexec_buildSlice dexec_len dexec_call
attribute [go_sem] guardV split_true split_false nextW_mk retS_mk retW_mk condW frzUp frzAt_mk frzC look_mapF V.frz C.frz Obj.frz nval_len callV_fn callM_fn capV
  lookO_some lookO_none evL_nil evL_cons evO_some evO_none evP_nil evP_cons ev constV_int constV_bool constV_str constV_nils constC put_some put_none look pick_t pick_f newObj_cons boxW_c boxW_agg allocW storeW makeW appendW srcV
  loadV loadD aggT headD headC fieldAddrV fieldV partV sliceC indexAddrV indexV intOp strOp binV unV convV extractV lenV sliceV intOr makeFuncV capOf nilCheckV
  shOp maxV lookupV mapNewW mapPutW cellsV getO setO C.up V.up upK dstOf argTm V.bor C.bor down0 down_tsl down_tsl0 down_d down_any down_fsl down_ptr down_ptr0
  List.map_cons List.map_nil List.append_nil List.nil_append List.length_nil List.length_cons List.cons_append Option.map_some Option.map_none Option.bind_some Option.bind_none
  List.getElem?_cons_zero List.getElem?_cons_succ List.set_cons_zero List.set_cons_succ List.drop_zero List.drop_succ_cons List.drop_nil List.take_zero List.take_succ_cons List.take_nil
  if_true if_false true_and and_true Int.toNat_natCast List.getElem?_toArray List.size_toArray Nat.zero_add Nat.add_zero Bool.false_eq_true Bool.true_eq_false Bool.not_true Bool.not_false reduceCtorEq
  decide_true decide_false List.all_cons List.all_nil Bool.and_true Bool.true_and Option.isSome_some Option.isSome_none wrap_in getD_map optM_nil optM_cons toD splice List.length_map fillC buildV elemsOf buildSliceV List.size_toArray labS_nil labS_box labS_tok labS_mrow labS_mp labS_dead labS_ltok labS_seed bsL_none bsL_some bsLab_mk down_lfl
section
variable {P : Program} {S S' : Store} {N : Nat} {s : St}
def zipTm : List Nat → List V → List (Nat × V)
  | t :: ts, v :: vs => (t, v) :: zipTm ts vs
  | _, _ => []
theorem look_zip (f : Nat → V) : ∀ (ts : List Nat) (t : Nat), look (zipTm ts (ts.map f)) t = f t ∨ look (zipTm ts (ts.map f)) t = .any
  | [], t => .inr rfl
  | u :: us, t => by
    show (if u = t then f u else look (zipTm us (us.map f)) t) = f t ∨ (if u = t then f u else look (zipTm us (us.map f)) t) = .any
    by_cases e : u = t
    · left; rw [if_pos e, e]
    · rw [if_neg e]; exact look_zip f us t
def Inv {ι : Type} (N : Nat) (ts : List Nat) (f : ι → List V) (g : ι → Store) (p : ι → Prop) (μ : ι → Nat) (i : ι) (s' : St) : Prop := ∃ j s0, μ j < μ i ∧ Ghost N s' s0 ∧ ts.map (look s0.tm) = f j ∧ s0.st = g j ∧ p j
theorem inv_at {ι : Type} {ts : List Nat} {f : ι → List V} {g : ι → Store} {p : ι → Prop} {μ : ι → Nat} {i : ι} (j : ι) (h1 : μ j < μ i) (h2 : ts.map (look s.tm) = f j) (h3 : s.st = g j) (h4 : p j) : Inv N ts f g p μ i s :=
  ⟨j, s, h1, Ghost.refl _ _, h2, h3, h4⟩
theorem map_look_zip : ∀ (ts : List Nat) (vs : List V), ts.Nodup → ts.length = vs.length → ts.map (look (zipTm ts vs)) = vs
  | [], [], _, _ => rfl
  | t :: ts, v :: vs, hn, hl => by
    have hn' := List.nodup_cons.1 hn
    have ih := map_look_zip ts vs hn'.2 (by simpa using hl)
    simp only [zipTm, List.map_cons, look, if_true, List.cons.injEq, true_and]
    rw [← ih]
    refine List.map_congr_left fun u hu => ?_
    have hne : t ≠ u := fun e => hn'.1 (e ▸ hu)
    rw [if_neg hne, ih]
theorem inv_drop {ι : Type} {ts : List Nat} {f : ι → List V} {g : ι → Store} {p : ι → Prop} {μ : ι → Nat} {i : ι} {tm : List (Nat × V)} {own : List Obj} {Ω : Store} (n : Nat) (hnd : ts.Nodup) (j : ι) (h1 : μ j < μ i) (h2 : ts.map (look tm) = f j) (h3 : own.take n :: Ω = g j)
    (hr : tmRefs n (zipTm ts (f j)) = true) (ho : (own.take n).all (Obj.refs n) = true) (h4 : p j) : Inv N ts f g p μ i ⟨tm, own :: Ω⟩ := by
  refine ⟨j, ⟨zipTm ts (f j), own.take n :: Ω⟩, h1, ?_, ?_, h3, h4⟩
  · have hg : Ghost N ⟨tm, own :: Ω⟩ ⟨zipTm ts (f j), own :: Ω⟩ := by
      rw [← h2]
      exact tm_ghost fun t => look_zip _ ts t
    exact hg.trans (drop_ghost n hr ho)
  · exact map_look_zip ts (f j) hnd (by rw [← h2]; simp)
theorem loop_at {ι : Type} {c : Code} {Q : Exit → St → Prop} (hmix : P.follows .mixedOrders = true) (hok : codeOk N c = true) (ts : List Nat) (f : ι → List V) (g : ι → Store) (p : ι → Prop) (μ : ι → Nat) (i0 : ι)
    (h1 : ts.map (look s.tm) = f i0) (h2 : s.st = g i0) (h3 : p i0)
    (round : ∀ i, p i → CW P N c (thenK (Inv N ts f g p μ i) Q) ⟨zipTm ts (f i), g i⟩) : AW P N (.loop c) Q s := by
  refine aw_loop (ι := ι) (fun i s => ∃ s0, Ghost N s s0 ∧ ts.map (look s0.tm) = f i ∧ s0.st = g i ∧ p i) μ i0 ⟨s, Ghost.refl _ _, h1, h2, h3⟩ fun i s hI => ?_
  obtain ⟨s0, hg, h1, h2, h3⟩ := hI
  refine aw_ghost ?_ hg
  have hr := (cw_sound hmix c _ _ hok (round i h3)).mono (Q' := thenK (fun s' => ∃ j, μ j < μ i ∧ ∃ s0, Ghost N s' s0 ∧ ts.map (look s0.tm) = f j ∧ s0.st = g j ∧ p j) Q) fun e s' h => by
    cases e with
    | normal =>
      obtain ⟨j, s0, a1, a2, a3, a4, a5⟩ := h
      exact ⟨j, a1, s0, a2, a3, a4, a5⟩
    | _ => exact h
  obtain ⟨tm, st⟩ := s0
  simp only at h1 h2
  subst h2
  rw [← h1] at hr
  exact aw_tm hr fun t => look_zip _ ts t
theorem resV_nil : resV P [] s = (True, .tup []) := rfl
theorem resV_one {x : ResultVar} : resV P [x] s = oneRes P s x := rfl
theorem resV_two {x y : ResultVar} {z : List ResultVar} : resV P (x :: y :: z) s = (match (allRes P s (x :: y :: z)).2 with
    | some ys => ((allRes P s (x :: y :: z)).1, .tup ys)
    | none => no) := rfl
end
attribute [go_sem] numD byteD
attribute [go_sem] zipTm resV_nil resV_one resV_two oneRes allRes compV tail1 V.ret retComp
end Go.Ab

