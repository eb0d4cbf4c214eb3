/-
  SEVERAL TEXTS IN ONE (merged by program): contracts and models, each with its own heading.
-/
import Derived.Test.YtceaigchkgifgaaPartQpD
set_option linter.unusedSimpArgs false
set_option linter.unusedVariables false
set_option maxRecDepth 4000
namespace Go.Ab
section
variable {P : Program} {w w' : World} {σ σ' : Nat → Nat} {S : Store} {β : Hs}
def rootD : D → List (List D)
  | .sl es => es
  | _ => []
def cellX (k : Key) (j : Nat) : D → C
  | .sl _ => .xp k j []
  | d => .d d
def rowX (k : Key) : Nat → List D → List C
  | _, [] => []
  | j, d :: ds => cellX k j d :: rowX k (j + 1) ds
theorem rowX_length {k : Key} : ∀ (j : Nat) (r : List D), (rowX k j r).length = r.length
  | _, [] => rfl
  | j, d :: ds => by rw [rowX, List.length_cons, rowX_length, List.length_cons]
theorem rowX_at {k : Key} : ∀ (r : List D) (j i : Nat), (rowX k j r)[i]? = (r[i]?).map (cellX k (j + i))
  | [], j, i => by simp [rowX]
  | d :: ds, j, 0 => rfl
  | d :: ds, j, i + 1 => by
    rw [rowX, List.getElem?_cons_succ, List.getElem?_cons_succ, rowX_at ds (j + 1) i, show j + 1 + i = j + (i + 1) by omega]
def pureC : C → C
  | .d x => .d x
  | .fsl es => .d (.sl es)
  | .tsl _ es => .d (.sl es)
  | .lfl n es => .d (.ol n es)
  | .rptr cs => .rptr cs
  | _ => .any
def pureV : V → V
  | .c x => .c (pureC x)
  | .agg cs => .agg (cs.map pureC)
  | _ => .any
theorem pure_repC {c : C} {v : Value} (h : RepC w σ S β c v) (S' : Store) (β' : Hs) : RepC w σ S' β' (pureC c) v := by
  cases c with
  | d x => exact h
  | fsl es => exact h.1
  | tsl k es => exact h.1
  | lfl n es => exact h.1
  | rptr cs => exact h
  | _ => trivial
theorem pure_rep {x : V} {v : Value} (h : RepV w σ S β x v) (S' : Store) (β' : Hs) : RepV w σ S' β' (pureV x) v := by
  cases x with
  | c x => exact ⟨pure_repC h.1 _ _, h.2⟩
  | agg cs =>
    obtain ⟨a, ha, hl, hc⟩ := h
    refine ⟨a, ha, by rw [List.length_map]; exact hl, fun i x hx => ?_⟩
    rw [List.getElem?_map] at hx
    cases hi : cs[i]? with
    | none => rw [hi] at hx; cases hx
    | some y =>
      rw [hi] at hx; cases hx
      obtain ⟨u, q1, q2, q3⟩ := hc i y hi
      exact ⟨u, q1, pure_repC q2 _ _, q3⟩
  | _ => trivial
theorem repS_empty (hl : ∀ b, b < w.heap.size ∨ σ b = 0) (hg : Glob w σ) : RepS w σ [] [] where
  glob := hg
  obj := fun k o h => by rw [getO_nil] at h; cases h
  apart := fun k k' o o' h h' b h1 => by rw [getO_nil] at h1; cases h1
  shape := ⟨rfl, fun l fr h => by simp at h⟩
  live := hl
theorem no_own0 {β : Hs} {b : Nat} : ¬ Own [] β b := fun ⟨k, o, h, h1, _⟩ => by rw [getO_nil] at h1; cases h1
def Holder (mk : List C → V) (m : Nat) : Prop := ∀ w σ S β cs v, cs.length = m → RepV w σ S β (mk cs) v → ∃ vs, RepCs w σ S β cs vs ∧ ∀ w' σ' S' β' cs', cs'.length = m → RepCs w' σ' S' β' cs' vs → RepV w' σ' S' β' (mk cs') v
def emptyT : Value := mkT (.slice none 0 0) []
theorem kid_empty (i o : Nat) : kid emptyT i o = none := by
  unfold emptyT
  rw [kid_mkT (fun i o u h => by simp [kidAt] at h)]; simp [kidAt]
theorem owns_empty {b : Nat} : ¬ Owns emptyT b := fun h => by
  cases h with
  | here h1 h2 => cases h1
  | kid h1 h2 => rw [kid_empty] at h1; cases h1
theorem bound_of (σ : Nat → Nat) : ∀ n : Nat, ∃ m, ∀ b, b < n → σ b ≤ m
  | 0 => ⟨0, fun b h => by omega⟩
  | n + 1 => by
    obtain ⟨m, hm⟩ := bound_of σ n
    refine ⟨max m (σ n), fun b hb => ?_⟩
    by_cases e : b = n
    · subst e; omega
    · have := hm b (by omega); omega
open Classical in
theorem ACall.own {f : FuncId} {args : List V} {own0 : List Obj} {Ω : Store} {mk : List C → V} {r : List D} (hm : Holder mk r.length) (hp : plR r = true)
    (h : ∀ n, PCall P f (args.map pureV) (mk ((labR r n).map .d))) :
    ACall P f args (own0 :: Ω) (fun r' S' => r' = mk (rowX (0, own0.length) 0 r) ∧ S' = (own0 ++ [.xf (r.map rootD)]) :: Ω) := by
  refine ⟨(h 0 []).1, fun w σ β vs hS hargs => ?_⟩
  obtain ⟨n, hn⟩ := bound_of σ w.heap.size
  have hargs0 : RepVs w σ [] [] (args.map pureV) vs := by
    refine ⟨by rw [List.length_map]; exact hargs.1, fun j x hx => ?_⟩
    rw [List.getElem?_map] at hx
    cases ha : args[j]? with
    | none => rw [ha] at hx; cases hx
    | some y =>
      rw [ha] at hx; cases hx
      obtain ⟨v, h1, h2⟩ := hargs.2 j y ha
      exact ⟨v, h1, pure_rep h2 _ _⟩
  refine ((h n []).2 w σ [] vs (repS_empty hS.live hS.glob) hargs0).mono fun e w' ⟨v, r', S', σ', β', he, hS', hk, hst, hv, hr', hS2⟩ => ?_
  subst hr'; subst hS2
  obtain ⟨us0, hcs, hback⟩ := hm w' σ' _ β' _ v (by rw [List.length_map, labR_length]) hv
  have hus0 : us0.length = r.length := by rw [← hcs.1, List.length_map, labR_length]
  obtain ⟨us, hus⟩ := lab_R r n (fun j => us0.getD j undef) hp (fun j d hd => by
    obtain ⟨u, h1, h2, _⟩ := hcs.2 j (.d d) (by rw [List.getElem?_map, hd]; rfl)
    simp only [List.getD_eq_getElem?_getD, h1, Option.getD_some]
    exact h2)
  let h0 : Value := .tuple (us.map fun u => u.getD emptyT).toArray
  have hroot : ∀ j, rootAt h0 j = (us[j]?).map fun u => u.getD emptyT := fun j => by simp [h0, rootAt]
  have hfresh : ∀ b, XOwns h0 b → w.heap.size ≤ b := by
    rintro b ⟨j, T, h1, h2⟩
    rw [hroot] at h1
    cases hu : us[j]? with
    | none => rw [hu] at h1; cases h1
    | some u =>
      rw [hu] at h1
      simp only [Option.map_some, Option.some.injEq] at h1
      cases u with
      | none => subst h1; exact absurd h2 owns_empty
      | some u =>
        simp at h1; subst h1
        obtain ⟨c, t, fz, m, a1, a2, a3, a4⟩ := hus.own j u hu b h2
        refine Nat.le_of_not_lt fun hlt => ?_
        have h1 := (hst.far b hlt no_own0).2
        have h2 := hn b hlt
        omega
  let σ2 : Nat → Nat := fun b => if XOwns h0 b then 0 else σ' b
  have hg : Grow w σ w' σ2 := ⟨hst.size, hst.os, hst.output, fun b hb => by
    obtain ⟨h1, h2⟩ := hst.far b hb no_own0
    exact ⟨h1, (if_neg fun hx => by have := hfresh b hx; omega).trans h2⟩, fun b => by
    rcases hS'.live b with hb | hb
    · exact .inl hb
    · right; show (if XOwns h0 b then 0 else σ' b) = 0; rw [hb]; split <;> rfl⟩
  cases β with
  | nil => have := hS.shape.1; simp at this
  | cons bo bΩ =>
  have hlen : bo.length = own0.length := by
    obtain ⟨gr, g1, g2⟩ := hS.shape.2 0 own0 rfl
    simp at g1; rw [g1]; exact g2
  obtain ⟨hS3, hk3, hst3⟩ := hS.push (o := .xf (r.map rootD)) (h := h0) hg hlen (by
    refine ⟨fun j es hj => ?_, fun j T hT => ?_, fun b hb => if_pos hb, fun j j' T T' x hjj hT hT' hx hx' => ?_⟩
    · rw [List.getElem?_map] at hj
      cases hd : r[j]? with
      | none => rw [hd] at hj; cases hj
      | some d =>
        rw [hd] at hj
        simp only [Option.map_some, Option.some.injEq] at hj
        subst hj
        obtain ⟨u, h1, h2⟩ := hus.cell j d hd
        rw [hroot, h1]
        have hsc : (∀ es, d ≠ .sl es) → ∃ T, Option.map (fun u => Option.getD u emptyT) (some u) = some T ∧ ExT w' (rootD d) T := fun hne => by
          have hu : u = none := by cases d <;> first | exact absurd rfl (hne _) | exact h2.1
          have hr0 : rootD d = [] := by cases d <;> first | exact absurd rfl (hne _) | rfl
          subst hu
          rw [hr0]
          exact ⟨emptyT, rfl, .nil none 0 _ rfl kid_empty⟩
        cases d with
        | sl es => obtain ⟨T, rfl, _, _, h6⟩ := h2; exact ⟨T, rfl, h6⟩
        | _ => exact hsc (fun es e => by cases e)
    · rw [List.length_map]
      rw [hroot] at hT
      cases hu : us[j]? with
      | none => rw [hu] at hT; cases hT
      | some u => rw [← hus.len]; exact (List.getElem?_eq_some_iff.1 hu).1
    · rw [hroot] at hT hT'
      cases hu : us[j]? with
      | none => rw [hu] at hT; cases hT
      | some u =>
        cases hu' : us[j']? with
        | none => rw [hu'] at hT'; cases hT'
        | some u' =>
          rw [hu] at hT; rw [hu'] at hT'
          simp only [Option.map_some, Option.some.injEq] at hT hT'
          cases u with
          | none => subst hT; exact owns_empty hx
          | some u =>
            cases u' with
            | none => subst hT'; exact owns_empty hx'
            | some u' => simp at hT hT'; subst hT; subst hT'; exact hus.apart j j' u u' x hjj hu hu' hx hx') (fun b hb => hfresh b hb)
  refine ⟨v, _, _, σ2, (bo ++ [h0]) :: bΩ, he, hS3, hk3, hst3, ?_, rfl, rfl⟩
  refine hback _ _ _ _ _ (by rw [rowX_length]) ⟨by rw [rowX_length, hus0], fun j x hx => ?_⟩
  rw [rowX_at, Nat.zero_add] at hx
  cases hd : r[j]? with
  | none => rw [hd] at hx; cases hx
  | some d =>
    rw [hd] at hx
    simp only [Option.map_some, Option.some.injEq] at hx
    obtain ⟨u, h1, h2⟩ := hus.cell j d hd
    have hjl : j < (labR r n).length := by rw [labR_length]; exact (List.getElem?_eq_some_iff.1 hd).1
    obtain ⟨v0, h3, _, h4⟩ := hcs.2 j (.d (labR r n)[j]) (by rw [List.getElem?_map, List.getElem?_eq_getElem hjl]; rfl)
    have hv0 : us0.getD j undef = v0 := by rw [List.getD_eq_getElem?_getD, h3]; rfl
    simp only [hv0] at h2
    refine ⟨v0, h3, ?_, h4⟩
    have hsc : (∀ es, d ≠ .sl es) → RepC w' σ2 ((own0 ++ [.xf (r.map rootD)]) :: Ω) ((bo ++ [h0]) :: bΩ) (.d d) v0 := fun hne => by
      have : SD d v0 := by cases d <;> first | exact absurd rfl (hne _) | exact h2.2
      exact rep_SD this
    cases d with
    | sl es =>
      subst hx
      obtain ⟨T, rfl, _, h5, _⟩ := h2
      refine ⟨_, getO_push_new _ _ _, fun rs _ => ⟨h0, by rw [← hlen, getO_push_new], ?_⟩⟩
      unfold hdrAt
      rw [hroot, h1]
      exact h5
    | _ => subst hx; exact hsc (fun es e => by cases e)
end
end Go.Ab

namespace Go.Ab
section
variable {P : Program} {w w' : World} {σ σ' : Nat → Nat} {S : Store} {β : Hs}
mutual
theorem st_D {σ2 : Nat → Nat} (hs : ∀ b c t fz, w.heap[b]? = some (.cells c t fz) → c.size < σ b → σ2 b = σ b) : ∀ (d : D) (n : Nat) (v : Value), plD d = true → RepD w σ (labD d n) v → RepD w σ2 (labD d n) v
  | .sl es, n, v, hp, h => by
    rw [labD] at h ⊢
    have hrec := st_Rs hs es (n + 1)
    generalize labRs es (n + 1) = q at h hrec ⊢
    cases h with
    | onil n a cap => exact .onil n a cap
    | ol n b off cap z q vals c t hcap hlen hb hσ hfit hc hv => exact .ol n b off cap z q vals c t hcap hlen hb ((hs b c t _ hb (by omega)).trans hσ) hfit hc (hrec vals (by simpa [plD] using hp) hv)
  | .ol m es, n, v, hp, h => by simp [plD] at hp
  | .b x, n, v, hp, h => by rw [labD] at h ⊢; cases h; constructor
  | .i k x, n, v, hp, h => by rw [labD] at h ⊢; cases h; constructor
  | .s l, n, v, hp, h => by rw [labD] at h ⊢; cases h; constructor
  | .o u, n, v, hp, h => by simp [plD] at hp
theorem st_R {σ2 : Nat → Nat} (hs : ∀ b c t fz, w.heap[b]? = some (.cells c t fz) → c.size < σ b → σ2 b = σ b) : ∀ (r : List D) (n : Nat) (vals : Nat → Value), plR r = true → (∀ (j : Nat) (d : D), (labR r n)[j]? = some d → RepD w σ d (vals j)) →
    ∀ (j : Nat) (d : D), (labR r n)[j]? = some d → RepD w σ2 d (vals j)
  | [], n, vals, hp, h, j, d, hd => by simp [labR] at hd
  | a :: r, n, vals, hp, h, j, d, hd => by
    rw [plR, Bool.and_eq_true] at hp
    rw [labR] at h hd
    cases j with
    | zero =>
      simp at hd; subst hd
      exact st_D hs a n _ hp.1 (h 0 _ rfl)
    | succ j => exact st_R hs r (n + cntD a) (fun i => vals (i + 1)) hp.2 (fun i d hi => h (i + 1) d hi) j d hd
theorem st_Rs {σ2 : Nat → Nat} (hs : ∀ b c t fz, w.heap[b]? = some (.cells c t fz) → c.size < σ b → σ2 b = σ b) : ∀ (rs : List (List D)) (n : Nat) (vals : Nat → Value), plRs rs = true → (∀ (j : Nat) (d : D), (labRs rs n).flatten[j]? = some d → RepD w σ d (vals j)) →
    ∀ (j : Nat) (d : D), (labRs rs n).flatten[j]? = some d → RepD w σ2 d (vals j)
  | [], n, vals, hp, h, j, d, hd => by simp [labRs] at hd
  | r :: rs, n, vals, hp, h, j, d, hd => by
    rw [plRs, Bool.and_eq_true] at hp
    rw [labRs, List.flatten_cons] at h hd
    by_cases hj : j < (labR r n).length
    · rw [List.getElem?_append_left hj] at hd
      exact st_R hs r n vals hp.1 (fun j d hd => h j d (by rw [List.getElem?_append_left (List.getElem?_eq_some_iff.1 hd).1]; exact hd)) j d hd
    · rw [List.getElem?_append_right (by omega)] at hd
      have := st_Rs hs rs (n + cntR r) (fun i => vals ((labR r n).length + i)) hp.2 (fun j d hd => h _ d (by rw [List.getElem?_append_right (by omega), Nat.add_sub_cancel_left]; exact hd)) (j - (labR r n).length) d hd
      rwa [show (labR r n).length + (j - (labR r n).length) = j by omega] at this
end
theorem ExT.data {es : List (List D)} {T v : Value} (h : ExT w es T) (hv : hdr T = some v) (hσ : ∀ b c t fz, Owns T b → w.heap[b]? = some (.cells c t fz) → c.size ≤ σ b) : RepD w σ (.sl es) v := by
  induction h generalizing v with
  | nil a cap T h hk => rw [h] at hv; cases hv; exact .nil a cap
  | mk b off cap z es T c t vals kids hh hne hcap hlen hb hfit hc hs hk hx hself hap hkid ih =>
    rw [hh] at hv; cases hv
    have hpos : 0 < es.length := List.length_pos_iff.2 hne
    have hfl := flat_len es z hlen
    have hidx : ∀ j, j < es.length * z → ∃ hi : j / z < es.length, j % z < z ∧ j / z * z + j % z = j := fun j hj => by
      have hz : 0 < z := by rcases Nat.eq_zero_or_pos z with h | h; · rw [h] at hj; simp at hj
                            · exact h
      exact ⟨(Nat.div_lt_iff_lt_mul hz).2 hj, Nat.mod_lt _ hz, by rw [Nat.mul_comm]; exact Nat.div_add_mod j z⟩
    have hcell : ∀ j d, es.flatten[j]? = some d → ∃ hi : j / z < es.length, cellAt es (j / z) (j % z) = some d ∧ j / z * z + j % z = j := fun j d hd => by
      have hj : j < es.length * z := by rw [← hfl]; exact (List.getElem?_eq_some_iff.1 hd).1
      obtain ⟨hi, hm, he⟩ := hidx j hj
      refine ⟨hi, ?_, he⟩
      have := flat_get es z hlen (j / z) (j % z) hi hm
      rw [he, hd] at this
      unfold cellAt
      rw [List.getElem?_eq_getElem hi]
      exact this.symm
    refine .sl b off cap z es (fun j => vals (j / z) (j % z)) c t (0, 0) hcap hlen hb (Nat.le_trans hfit (hσ b c t _ (.here hh hpos) hb)) (fun j hj => ?_) (fun j d hd => ?_)
    · obtain ⟨hi, hce, he⟩ := hcell j _ (List.getElem?_eq_getElem (by rw [hfl]; exact hj))
      have := hc _ _ _ hce
      rwa [he] at this
    · obtain ⟨hi, hce, he⟩ := hcell j d hd
      rcases hs _ _ _ hce with ⟨es', rfl⟩ | hsd
      · obtain ⟨k1, k2⟩ := hk _ _ _ hce
        exact ih _ _ _ hce k2 fun b' c' t' fz' ho hb' => hσ b' c' t' fz' (.kid k1 ho) hb'
      · exact rep_SD hsd
end
end Go.Ab

namespace Go.Ab
section
variable {P : Program} {w w' : World} {σ σ' : Nat → Nat} {S : Store} {β : Hs}
end
end Go.Ab

namespace Go.Ab
section
variable {P : Program} {w w' : World} {σ σ' : Nat → Nat} {S : Store} {β : Hs}
end
end Go.Ab

namespace Go.Ab
section
variable {P : Program} {w w' : World} {σ σ' : Nat → Nat} {β : Hs}
theorem box_tok {own : List Obj} {Ω : Store} (lab : Option Nat) (j i esz : Nat) (es : List (List D)) (cs : List C) (hj : own[j]? = some (.box cs)) (hi : cs[i]? = some (match lab with | some n => .lfl n es | none => .fsl es)) (hes : ∀ e ∈ es, e.length = esz) (hS : RepS w σ (own :: Ω) β) :
    ∃ β', RepS w σ ((own.set j (.box (cs.set i (.tsl (0, own.length) es))) ++ [tokO lab esz es]) :: Ω) β' ∧ Step (own :: Ω) β σ w ((own.set j (.box (cs.set i (.tsl (0, own.length) es))) ++ [tokO lab esz es]) :: Ω) β' σ w ∧ Keep (own :: Ω) β ((own.set j (.box (cs.set i (.tsl (0, own.length) es))) ++ [tokO lab esz es]) :: Ω) β' := by
  cases β with
  | nil => have := hS.shape.1; simp at this
  | cons bo bΩ =>
  have hlen : bo.length = own.length := by
    obtain ⟨gr, g1, g2⟩ := hS.shape.2 0 own rfl
    simp at g1; rw [g1]; exact g2
  have hjl := (List.getElem?_eq_some_iff.1 hj).1
  have hg0 : getO (own :: Ω) (0, j) = some (.box cs) := by rw [getO_zero]; exact hj
  obtain ⟨hb, hbo, hr⟩ := hS.obj (0, j) _ hg0
  obtain ⟨b, cv, ty, rfl, hbc, hσ, hcs⟩ := hr
  have hcs : RepCs w σ (own :: Ω) (bo :: bΩ) cs cv.toList := hcs
  obtain ⟨v, hv, hc0, hone⟩ := hcs.2 i _ hi
  have hx : ∃ ad : Option Addr, RepD w σ (.sl es) v ∧ v = .slice ad es.length es.length ∧ ∀ n, lab = some n → RepD w σ (.ol n es) v := by
    cases lab with
    | none =>
      obtain ⟨hd, ad, n, hval⟩ := hc0
      have hn : n = es.length := by rw [hval] at hd; cases hd <;> rfl
      exact ⟨ad, hd, by rw [hval, hn], fun n e => by cases e⟩
    | some n =>
      obtain ⟨hd, ad, m, hval⟩ := hc0
      have hn : m = es.length := by
        have := rep_ol hd
        rw [hval] at this
        cases this <;> rfl
      exact ⟨ad, rep_ol hd, by rw [hval, hn], fun n' e => by cases e; exact hd⟩
  obtain ⟨ad, hd, hval, hol⟩ := hx
  have hg : Grow w σ w σ := Grow.refl hS.live
  obtain ⟨hS', hk, hst⟩ := hS.push (o := tokO lab esz es) (h := v) hg hlen (by
    cases lab with
    | none => exact ⟨hd, hes, ad, es.length, hval, Nat.le_refl _, .inl rfl⟩
    | some n => exact ⟨hd, hes, ad, es.length, hval, Nat.le_refl _, .inl ⟨rfl, hol n rfl⟩⟩) (fun b hb => by
    rw [hval] at hb
    cases lab <;> cases ad <;> simp [tokO, owns, blk] at hb)
  have hk1 : getO ((own ++ [tokO lab esz es]) :: Ω) (0, j) = some (.box cs) := getO_push _ _ _ _ _ hg0
  have hh1 : getO ((bo ++ [v]) :: bΩ) (0, j) = some (.pointer (some ⟨b, 0, none⟩)) := getO_push _ _ _ _ _ hbo
  have hko : KeepO (.box cs) (some (Value.pointer (some ⟨b, 0, none⟩))) (.box (cs.set i (.tsl (0, own.length) es))) (some (Value.pointer (some ⟨b, 0, none⟩))) := .inr ⟨⟨_, rfl⟩, rfl⟩
  have hK : Keep ((own ++ [tokO lab esz es]) :: Ω) ((bo ++ [v]) :: bΩ) (setO ((own ++ [tokO lab esz es]) :: Ω) (0, j) (.box (cs.set i (.tsl (0, own.length) es)))) (setO ((bo ++ [v]) :: bΩ) (0, j) (.pointer (some ⟨b, 0, none⟩))) := by
    intro k1 o1 e1
    by_cases e : k1 = (0, j)
    · subst e
      rw [hk1] at e1; cases e1
      exact ⟨_, getO_setO_eq _ _ _ _ hk1, by rw [hh1, getO_setO_eq _ _ _ _ hh1]; exact hko⟩
    · exact ⟨o1, (getO_setO_ne _ _ _ _ (Ne.symm e)).trans e1, by rw [getO_setO_ne _ _ _ _ (Ne.symm e)]; exact .refl _ _⟩
  have hne : (0, own.length) ≠ (0, j) := fun e => by injection e with _ e; omega
  obtain ⟨hS2, hk2, hst2⟩ := hS'.set (w' := w) (σ' := σ) (o' := .box (cs.set i (.tsl (0, own.length) es))) (h' := .pointer (some ⟨b, 0, none⟩)) hk1 hh1 (Nat.le_refl _) rfl rfl (Near.refl _ _) hS'.live (fun _ _ _ => ⟨rfl, rfl⟩) hko
    ⟨b, cv, ty, rfl, hbc, hσ, by
      refine ⟨by rw [List.length_set]; exact hcs.1, fun m x hm => ?_⟩
      rw [List.getElem?_set] at hm
      by_cases e : i = m
      · subst e
        rw [if_pos rfl] at hm
        split at hm
        · cases hm
          refine ⟨v, hv, ⟨hd, tokO lab esz es, ?_, fun a1 b1 e1 => ?_⟩, hone⟩
          · show getO (setO _ (0, j) _) (0, own.length) = _
            rw [getO_setO_ne _ _ _ _ (Ne.symm hne), getO_push_new]
          · obtain ⟨_, rfl⟩ := istok_of e1
            refine ⟨Nat.le_refl _, fun _ => ?_⟩
            show getO (setO _ (0, j) _) (0, own.length) = _
            rw [getO_setO_ne _ _ _ _ (Ne.symm hne), ← hlen, getO_push_new]
        · cases hm
      · rw [if_neg e] at hm
        obtain ⟨u, hu, hc, ho⟩ := hcs.2 m x hm
        exact ⟨u, hu, (hc.mono (Near.refl _ _) hk).mono (Near.refl _ _) hK, ho⟩⟩ (fun _ e => .inl e)
  have est : setO ((own ++ [tokO lab esz es]) :: Ω) (0, j) (.box (cs.set i (.tsl (0, own.length) es))) = (own.set j (.box (cs.set i (.tsl (0, own.length) es))) ++ [tokO lab esz es]) :: Ω := by
    rw [setO, List.set_append_left _ _ hjl]
  rw [est] at hS2 hk2 hst2
  exact ⟨_, hS2, hst.trans hst2, hk.trans hk2⟩
theorem ACall.boxtok {f : FuncId} {args : List V} {post : V → Store → Prop} {own : List Obj} {Ω : Store} (lab : Option Nat) (j i esz : Nat) (es : List (List D)) (cs : List C) (hj : own[j]? = some (.box cs)) (hi : cs[i]? = some (match lab with | some n => .lfl n es | none => .fsl es)) (hes : ∀ e ∈ es, e.length = esz)
    (h : ACall P f args ((own.set j (.box (cs.set i (.tsl (0, own.length) es))) ++ [tokO lab esz es]) :: Ω) post) : ACall P f args (own :: Ω) post := by
  refine ⟨h.1, fun w σ β vs hS hargs => ?_⟩
  obtain ⟨β1, hS1, hst1, hk1⟩ := box_tok lab j i esz es cs hj hi hes hS
  have hargs1 : RepVs w σ _ β1 args vs := ⟨hargs.1, fun m x hx => by
    obtain ⟨v, h1, h2⟩ := hargs.2 m x hx
    exact ⟨v, h1, h2.mono (Near.refl _ _) hk1⟩⟩
  refine (h.2 w σ β1 vs hS1 hargs1).mono fun e w' ⟨v', r, S1, σ', β', he, hS', hk', hst', hr', hp⟩ => ?_
  exact ⟨v', r, S1, σ', β', he, hS', hk1.trans hk', hst1.trans hst', hr', hp⟩
end
end Go.Ab

namespace Go.Ab
section
variable {α : Type} (f : α → MExpr → α)
mutual
def foldE : MExpr → α → α
  | .mk k t n m ty a b, s => foldR b (foldL a (f s (.mk k t n m ty a b)))
def foldL : List MExpr → α → α
  | [], s => s
  | x :: xs, s => foldL xs (foldE x s)
def foldR : List MArm → α → α
  | [], s => s
  | x :: xs, s => foldR xs (foldM x s)
def foldM : MArm → α → α
  | .mk _ _ b, s => foldE b s
end
theorem foldE_eq (x : MExpr) (s : α) : foldE f x s = foldR f x.fArms (foldL f x.fArgs (f s x)) := by cases x; rw [foldE]; rfl
theorem foldM_eq (x : MArm) (s : α) : foldM f x s = foldE f x.fBody s := by cases x; rw [foldM]; rfl
theorem foldL_drop {xs : List MExpr} {i : Nat} (hi : i < xs.length) (s : α) : foldL f (xs.drop i) s = foldL f (xs.drop (i + 1)) (foldE f xs[i] s) := by rw [List.drop_eq_getElem_cons hi, foldL]
theorem foldR_drop {xs : List MArm} {i : Nat} (hi : i < xs.length) (s : α) : foldR f (xs.drop i) s = foldR f (xs.drop (i + 1)) (foldE f xs[i].fBody s) := by rw [List.drop_eq_getElem_cons hi, foldR, foldM_eq]
variable {f} {I : Nat → α → Prop}
mutual
theorem foldE_I (hI : ∀ n a u, I (n + 1) a → I n (f a u)) : ∀ (x : MExpr) (m : Nat) (a : α), I (m + x.cnt) a → I m (foldE f x a)
  | .mk k t n q ty a b, m, s, h => by
    rw [foldE]
    rw [MExpr.cnt, show m + (1 + (MExpr.cnts a + MArm.cnts b)) = (m + MArm.cnts b + MExpr.cnts a) + 1 by omega] at h
    exact foldR_I hI b m _ (foldL_I hI a _ _ (hI _ _ _ h))
theorem foldL_I (hI : ∀ n a u, I (n + 1) a → I n (f a u)) : ∀ (xs : List MExpr) (m : Nat) (a : α), I (m + MExpr.cnts xs) a → I m (foldL f xs a)
  | [], m, s, h => by rw [foldL]; exact h
  | x :: xs, m, s, h => by
    rw [foldL]
    rw [MExpr.cnts, show m + (x.cnt + MExpr.cnts xs) = (m + MExpr.cnts xs) + x.cnt by omega] at h
    exact foldL_I hI xs m _ (foldE_I hI x _ _ h)
theorem foldR_I (hI : ∀ n a u, I (n + 1) a → I n (f a u)) : ∀ (xs : List MArm) (m : Nat) (a : α), I (m + MArm.cnts xs) a → I m (foldR f xs a)
  | [], m, s, h => by rw [foldR]; exact h
  | x :: xs, m, s, h => by
    rw [foldR]
    rw [MArm.cnts, show m + (x.cnt + MArm.cnts xs) = (m + MArm.cnts xs) + x.cnt by omega] at h
    exact foldR_I hI xs m _ (foldM_I hI x _ _ h)
theorem foldM_I (hI : ∀ n a u, I (n + 1) a → I n (f a u)) : ∀ (x : MArm) (m : Nat) (a : α), I (m + x.cnt) a → I m (foldM f x a)
  | .mk _ _ b, m, s, h => by
    rw [foldM]
    rw [MArm.cnt] at h
    exact foldE_I hI b m _ h
end
end
open Classical in
noncomputable def addC (out : List (List UInt8)) (x : MExpr) : List (List UInt8) := if x.fKind = 4 ∧ x.fName ∉ out then out ++ [x.fName] else out
theorem addC_len (out : List (List UInt8)) (x : MExpr) : (addC out x).length ≤ out.length + 1 := by
  unfold addC
  split <;> simp
noncomputable def callE (x : MExpr) : List (List UInt8) := foldE addC x []
theorem addC_I (B : Nat) : ∀ (n : Nat) (a : List (List UInt8)) (u : MExpr), a.length + (n + 1) ≤ B → (addC a u).length + n ≤ B := fun n a u h => by have := addC_len a u; omega
theorem callE_len (x : MExpr) (out : List (List UInt8)) : (foldE addC x out).length ≤ out.length + x.cnt :=
  foldE_I (I := fun n a => a.length + n ≤ out.length + x.cnt) (addC_I _) x 0 out (by omega)
end Go.Ab
namespace Go.Proofs.Ytceaigchkgifgaa
open Go Go.Ab
theorem eachExpr_all : ∀ n : Nat, ∀ x : MExpr, SizeOf.sizeOf x < n → x.sz ≤ 4194304 → ∀ (g : Nat) (caps : List (Key × Nat)) (α : Type) (st : α → Store) (I : Nat → α → Prop) (f : α → MExpr → α) (hf : FStep Try.prog g caps st I f MExpr.v (fun _ => True)) (m : Nat) (a : α), I (m + x.cnt) a →
    ACall Try.prog 50 [x.v, .c (.fn g caps)] (st a) (fun r S' => r = .tup [] ∧ S' = st (foldE f x a))
  | 0 => fun t h => by omega
  | n + 1 => by
    have ih := eachExpr_all n
    intro x hn hsz g caps α st I f hf m a ha
    have hI : ∀ n a u, I (n + 1) a → I n (f a u) := fun n a u h => (hf n a u h trivial).1
    have lArgs := MExpr.lt_Args x
    have lArms := MExpr.lt_Arms x
    have hb0 := MExpr.sz_parts x
    rw [MExpr.cnt_eq, show m + (1 + (MExpr.cnts x.fArgs + MArm.cnts x.fArms)) = (m + MArm.cnts x.fArms + MExpr.cnts x.fArgs) + 1 by omega] at ha
    have h1 := hf _ a x ha trivial
    have fin := foldE_eq f x a
    refine acall_cw (rs := []) Try.checked.mixed Try.func50 Try.ntmps50 rfl rfl rfl rfl rfl ?_
    simp -implicitDefEqProofs (disch := omega) only [go_sem]
    refine call_d rfl (h1.2 [_]) ?_
    simp -implicitDefEqProofs (disch := omega) only [go_sem]
    refine loop_at (ι := Nat × α) Try.checked.mixed rfl [1, 2, 12, 13, 14] (fun y => [.c (.fn g (upCaps 1 caps)), .c (.ptr (0, 0) 0), .c (.d (.sl (x.fArgs.map MExpr.enc))), .c (.d (.i .i64 x.fArgs.length)), .c (.d (.i .i64 y.1))]) (fun y => [.box (x.enc.map .d)] :: st y.2)
      (fun y => y.1 ≤ x.fArgs.length ∧ I (m + MArm.cnts x.fArms + MExpr.cnts (x.fArgs.drop y.1)) y.2 ∧ foldL f (x.fArgs.drop y.1) y.2 = foldL f x.fArgs (f a x)) (fun y => x.fArgs.length - y.1) (0, f a x) rfl ?_ ⟨Nat.zero_le _, h1.1, rfl⟩ ?_
    · simp -implicitDefEqProofs (disch := omega) only [go_sem]
    rintro ⟨i, b⟩ ⟨p1, p2, p3⟩
    simp only at p1 p2 p3
    simp -implicitDefEqProofs (disch := omega) only [go_sem]
    with_reducible refine split2 (fun hb => ?_) (fun hb => ?_) <;> have h := hb <;> (try simp only [wf_preprocess] at h) <;> simp -implicitDefEqProofs (disch := omega) only [go_sem, hb] <;> (repeat (with_reducible refine And.intro ?_ ?_; focus first | omega | rfl | assumption | exact ⟨_, rfl, rfl⟩ | (simp; omega) | (simp; done)))
    · have hi : i < x.fArgs.length := by omega
      have hs := List.sizeOf_lt_of_mem (List.getElem_mem hi)
      have hz := MExpr.arg_sz hi
      rw [foldL_drop f hi] at p3
      rw [MExpr.cnts_drop hi, show m + MArm.cnts x.fArms + (x.fArgs[i].cnt + MExpr.cnts (x.fArgs.drop (i + 1))) = (m + MArm.cnts x.fArms + MExpr.cnts (x.fArgs.drop (i + 1))) + x.fArgs[i].cnt by omega] at p2
      have h2 := foldE_I hI x.fArgs[i] _ b p2
      (repeat (with_reducible refine And.intro ?_ ?_; focus first | omega | rfl | assumption | exact ⟨_, rfl, rfl⟩ | (simp; omega) | (simp; done)))
      refine call_d rfl (ih x.fArgs[i] (by omega) (by omega) g (upCaps 1 caps) α (fun a => [.box [.d (.i .i64 x.fKind), .d (.s x.fTrait), .d (.s x.fName), .d (.i .i64 x.fN), .d (.i .i64 x.fType.fKind), .d (.s x.fType.fName), .d (.sl (x.fType.fArgs.map MType.enc)), .d (.sl (x.fArgs.map MExpr.enc)), .d (.sl (x.fArms.map MArm.enc))], .box [.d (.i .i64 x.fArgs[i].fKind), .d (.s x.fArgs[i].fTrait), .d (.s x.fArgs[i].fName), .d (.i .i64 x.fArgs[i].fN), .d (.i .i64 x.fArgs[i].fType.fKind), .d (.s x.fArgs[i].fType.fName), .d (.sl (x.fArgs[i].fType.fArgs.map MType.enc)), .d (.sl (x.fArgs[i].fArgs.map MExpr.enc)), .d (.sl (x.fArgs[i].fArms.map MArm.enc))]] :: st a) I f (hf.push _) _ b p2) ?_
      simp -implicitDefEqProofs (disch := omega) only [go_sem]
      exact inv_drop 1 (by decide) (i + 1, foldE f x.fArgs[i] b) (by simp only; omega) rfl (by simp only [MExpr.enc_eq, MType.enc_eq, List.cons_append, List.nil_append, List.map_cons, List.map_nil, List.take_succ_cons, List.take_zero]) (by simp only [zipTm, tmRefs, List.all_cons, List.all_nil, V.refs, C.refs, refs_upCaps1, Bool.and_true, Bool.true_and]; rfl) rfl ⟨by simp only; omega, h2, p3⟩
    have hi : i = x.fArgs.length := by omega
    rw [hi, List.drop_length] at p2 p3
    rw [MExpr.cnts, Nat.add_zero] at p2
    rw [foldL] at p3
    rw [← p3] at fin
    clear p3
    refine loop_at (ι := Nat × α) Try.checked.mixed rfl [1, 23, 24, 25] (fun y => [.c (.fn g (upCaps 1 caps)), .c (.d (.sl (x.fArms.map MArm.enc))), .c (.d (.i .i64 x.fArms.length)), .c (.d (.i .i64 y.1))]) (fun y => [.box (x.enc.map .d)] :: st y.2)
      (fun y => y.1 ≤ x.fArms.length ∧ I (m + MArm.cnts (x.fArms.drop y.1)) y.2 ∧ foldR f (x.fArms.drop y.1) y.2 = foldE f x a) (fun y => x.fArms.length - y.1) (0, b) rfl ?_ ⟨Nat.zero_le _, p2, fin.symm⟩ ?_
    · simp -implicitDefEqProofs (disch := omega) only [go_sem]
    rintro ⟨i, b⟩ ⟨p1, p2, p3⟩
    simp only at p1 p2 p3
    simp -implicitDefEqProofs (disch := omega) only [go_sem]
    with_reducible refine split2 (fun hb => ?_) (fun hb => ?_) <;> have h := hb <;> (try simp only [wf_preprocess] at h) <;> simp -implicitDefEqProofs (disch := omega) only [go_sem, hb] <;> (repeat (with_reducible refine And.intro ?_ ?_; focus first | omega | rfl | assumption | exact ⟨_, rfl, rfl⟩ | (simp; omega) | (simp; done)))
    · have hi : i < x.fArms.length := by omega
      have hs := List.sizeOf_lt_of_mem (List.getElem_mem hi)
      have hs' := MArm.lt_Body x.fArms[i]
      have hz := MExpr.arm_sz hi
      have hz' := MArm.sz_vars x.fArms[i]
      rw [foldR_drop f hi] at p3
      rw [MArm.cnts_drop hi, show m + (x.fArms[i].fBody.cnt + MArm.cnts (x.fArms.drop (i + 1))) = (m + MArm.cnts (x.fArms.drop (i + 1))) + x.fArms[i].fBody.cnt by omega] at p2
      have h2 := foldE_I hI x.fArms[i].fBody _ b p2
      (repeat (with_reducible refine And.intro ?_ ?_; focus first | omega | rfl | assumption | exact ⟨_, rfl, rfl⟩ | (simp; omega) | (simp; done)))
      refine call_d rfl (ih x.fArms[i].fBody (by omega) (by omega) g (upCaps 1 caps) α (fun a => [.box [.d (.i .i64 x.fKind), .d (.s x.fTrait), .d (.s x.fName), .d (.i .i64 x.fN), .d (.i .i64 x.fType.fKind), .d (.s x.fType.fName), .d (.sl (x.fType.fArgs.map MType.enc)), .d (.sl (x.fArgs.map MExpr.enc)), .d (.sl (x.fArms.map MArm.enc))], .box [.d (.s x.fArms[i].fConstructor), .d (.sl (x.fArms[i].fVars.map encS)), .d (.i .i64 x.fArms[i].fBody.fKind), .d (.s x.fArms[i].fBody.fTrait), .d (.s x.fArms[i].fBody.fName), .d (.i .i64 x.fArms[i].fBody.fN), .d (.i .i64 x.fArms[i].fBody.fType.fKind), .d (.s x.fArms[i].fBody.fType.fName), .d (.sl (x.fArms[i].fBody.fType.fArgs.map MType.enc)), .d (.sl (x.fArms[i].fBody.fArgs.map MExpr.enc)), .d (.sl (x.fArms[i].fBody.fArms.map MArm.enc))]] :: st a) I f (hf.push _) _ b p2) ?_
      simp -implicitDefEqProofs (disch := omega) only [go_sem]
      exact inv_drop 1 (by decide) (i + 1, foldE f x.fArms[i].fBody b) (by simp only; omega) rfl (by simp only [MExpr.enc_eq, MType.enc_eq, List.cons_append, List.nil_append, List.map_cons, List.map_nil, List.take_succ_cons, List.take_zero]) (by simp only [zipTm, tmRefs, List.all_cons, List.all_nil, V.refs, C.refs, refs_upCaps1, Bool.and_true, Bool.true_and]) rfl ⟨by simp only; omega, h2, p3⟩
    · have hi : i = x.fArms.length := by omega
      rw [hi, List.drop_length, foldR] at p3
      rw [p3]
theorem called1_step (c0 : List C) (S : Store) : FStep Try.prog 51 [((0, 1), 0)] (fun out : List (List UInt8) => (.box c0 :: .box [.tsl (0, 2) (out.map encS)] :: .tok 1 (out.map encS) :: []) :: S) (fun n out => out.length + n ≤ 1073741824) addC MExpr.v (fun _ => True) := by
  intro n out u hI hu
  refine ⟨by have := addC_len out u; omega, fun F => ?_⟩
  refine acall_cw (rs := []) Try.checked.mixed Try.func51 Try.ntmps51 rfl rfl rfl rfl rfl ?_
  simp -implicitDefEqProofs (disch := omega) only [go_sem]
  with_reducible refine split2 (fun hb => ?_) (fun hb => ?_) <;> have h := hb <;> (try simp only [wf_preprocess] at h) <;> simp -implicitDefEqProofs (disch := omega) only [go_sem, hb] <;> (repeat (with_reducible refine And.intro ?_ ?_; focus first | omega | rfl | assumption | exact ⟨_, rfl, rfl⟩ | (simp; omega) | (simp; done)))
  · have h1 := h
    refine call_w (containsS_ok out u.fName (by omega)) ?_
    simp -implicitDefEqProofs (disch := omega) only [go_sem] <;> (repeat (with_reducible refine And.intro ?_ ?_; focus first | omega | rfl | assumption | exact ⟨_, rfl, rfl⟩ | (simp; omega) | (simp; done)))
    with_reducible refine split2 (fun hb => ?_) (fun hb => ?_) <;> have h := hb <;> (try simp only [wf_preprocess] at h) <;> simp -implicitDefEqProofs (disch := omega) only [go_sem, hb] <;> (repeat (with_reducible refine And.intro ?_ ?_; focus first | omega | rfl | assumption | exact ⟨_, rfl, rfl⟩ | (simp; omega) | (simp; done)))
    · (repeat (with_reducible refine And.intro ?_ ?_; focus first | omega | rfl | assumption | exact ⟨_, rfl, rfl⟩ | (simp; omega) | (simp; done)))
      have ha : addC out u = out ++ [u.fName] := if_pos ⟨h1, h⟩
      rw [ha]; simp [encS]
    · have ha : addC out u = out := if_neg fun x => x.2 h
      rw [ha]
  · have ha : addC out u = out := if_neg fun x => h x.1
    rw [ha]
theorem implCalled_ok (x : MExpr) (hsz : x.sz ≤ 4194304) : PCall Try.prog 25 [x.v] (.c (.d (.sl ((callE x).map encS)))) := fun S => by
  have hc := MExpr.cnt_le x
  refine acall_cw (rs := [.tmp 2]) Try.checked.mixed Try.func25 Try.ntmps25 rfl rfl rfl rfl rfl ?_
  simp -implicitDefEqProofs (disch := omega) only [go_sem]
  (repeat (with_reducible refine And.intro ?_ ?_; focus first | omega | rfl | assumption | exact ⟨_, rfl, rfl⟩ | (simp; omega) | (simp; done)))
  refine call_d rfl (ACall.boxtok none 1 0 1 [] [.fsl []] rfl rfl (by simp) (eachExpr_all _ x (Nat.lt_succ_self _) hsz _ _ _ _ _ _ (called1_step [.d (.i .i64 x.fKind), .d (.s x.fTrait), .d (.s x.fName), .d (.i .i64 x.fN), .d (.i .i64 x.fType.fKind), .d (.s x.fType.fName), .d (.sl (x.fType.fArgs.map MType.enc)), .d (.sl (x.fArgs.map MExpr.enc)), .d (.sl (x.fArms.map MArm.enc))] S) 0 [] (by simp; omega))) ?_
  simp -implicitDefEqProofs (disch := omega) only [go_sem]
  rfl
set_option maxHeartbeats 2000000 in
theorem specCalls_all : ∀ N : Nat, ∀ x : MExpr, SizeOf.sizeOf x < N → x.sz ≤ 4194304 → ∀ (out : List (List UInt8)) (l j : Nat) (S : Store), getO S (l, j) = some (.tok 1 (out.map encS)) → out.length + x.cnt ≤ 1073741824 →
    ACall Try.prog 52 [x.v, .c (.tsl (l, j) (out.map encS))] S (fun r S' => r = .c (.tsl (l, j) ((foldE addC x out).map encS)) ∧ S' = setO S (l, j) (.tok 1 ((foldE addC x out).map encS)))
  | 0 => fun x h => by omega
  | N + 1 => by
    have ih := specCalls_all N
    intro x hn hsz out l j S hk hc
    have hb0 := MExpr.sz_parts x
    have lArgs := MExpr.lt_Args x
    have lArms := MExpr.lt_Arms x
    have hcn := MExpr.cnt_eq x
    have hkS : ∀ y : Ab.Obj, getO (setO S (l, j) y) (l, j) = some y := fun y => getO_setO_eq _ _ _ _ hk
    have hS0 : setO S (l, j) (.tok 1 (out.map encS)) = S := setO_self _ _ hk
    have fin := foldE_eq addC x out
    have hal := addC_len out x
    obtain ⟨o1, ho1⟩ : ∃ o1, addC out x = o1 := ⟨_, rfl⟩
    rw [ho1] at fin hal
    refine (show Hold ?T → _ from fun tail => ?main) ?tp
    case' main =>
      refine acall_cw (rs := [.tmp 4]) Try.checked.mixed Try.func52 Try.ntmps52 rfl rfl rfl rfl rfl ?_
      simp -implicitDefEqProofs (disch := omega) only [go_sem, hk]
      repeat' (first
        | (with_reducible refine split2 (fun hb => ?_) (fun hb => ?_) <;> have h := hb <;> (try simp only [wf_preprocess] at h) <;> simp -implicitDefEqProofs (disch := omega) only [go_sem, hb, hk] <;> (repeat (with_reducible refine And.intro ?_ ?_; focus first | omega | rfl | assumption | exact ⟨_, rfl, rfl⟩ | (simp; omega) | (simp; done))))
        | (refine call_w (l1Has_ok out x.fName (by omega)) ?_; simp -implicitDefEqProofs (disch := omega) only [go_sem, hk]; (repeat (with_reducible refine And.intro ?_ ?_; focus first | omega | rfl | assumption | exact ⟨_, rfl, rfl⟩ | (simp; omega) | (simp; done)))))
      all_goals first
        | (have ha : addC out x = out ++ [x.fName] := if_pos ⟨by assumption, by assumption⟩)
        | (have ha : addC out x = out := if_neg (fun y => by have := y.1; have := y.2; contradiction))
      all_goals
        refine aw_canon (st' := [.box (x.enc.map .d)] :: setO S (l, j) (.tok 1 (o1.map encS))) [1, 2, 5] [.c (.tsl (1 + l, j) (o1.map encS)), .c (.ptr (0, 0) 0), .c (.d (.i .i64 0))] ?_ ?_ ?_
        · first | (rw [← ho1, ha]; rfl) | (rw [← ho1, ha, ← snocW]; rfl)
        · first | (rw [← ho1, ha, hS0]; simp -implicitDefEqProofs (disch := omega) only [go_sem]; done) | (rw [← ho1, ha, ← snocW]; simp -implicitDefEqProofs (disch := omega) only [go_sem]; done)
        · exact tail.out
    refine ⟨?_⟩
    clear ho1
    refine loop_at (ι := Nat × List (List UInt8)) Try.checked.mixed rfl [1, 2, 5] (fun y => [.c (.tsl (1 + l, j) (y.2.map encS)), .c (.ptr (0, 0) 0), .c (.d (.i .i64 y.1))]) (fun y => [.box (x.enc.map .d)] :: setO S (l, j) (.tok 1 (y.2.map encS)))
      (fun y => y.1 ≤ x.fArgs.length ∧ y.2.length + MExpr.cnts (x.fArgs.drop y.1) + MArm.cnts x.fArms ≤ 1073741824 ∧ foldL addC (x.fArgs.drop y.1) y.2 = foldL addC x.fArgs o1) (fun y => x.fArgs.length - y.1) (0, o1) rfl rfl ⟨Nat.zero_le _, by simp only [List.drop_zero]; omega, rfl⟩ ?_
    rintro ⟨i, o⟩ ⟨p1, p2, p3⟩
    simp only at p1 p2 p3
    simp -implicitDefEqProofs (disch := omega) only [go_sem]
    with_reducible refine split2 (fun hb => ?_) (fun hb => ?_) <;> have h := hb <;> (try simp only [wf_preprocess] at h) <;> simp -implicitDefEqProofs (disch := omega) only [go_sem, hb] <;> (repeat (with_reducible refine And.intro ?_ ?_; focus first | omega | rfl | assumption | exact ⟨_, rfl, rfl⟩ | (simp; omega) | (simp; done)))
    · have hi : i < x.fArgs.length := by omega
      have hs := List.sizeOf_lt_of_mem (List.getElem_mem hi)
      have hz := MExpr.arg_sz hi
      rw [foldL_drop addC hi] at p3
      rw [MExpr.cnts_drop hi] at p2
      have hlo := callE_len x.fArgs[i] o
      (repeat (with_reducible refine And.intro ?_ ?_; focus first | omega | rfl | assumption | exact ⟨_, rfl, rfl⟩ | (simp; omega) | (simp; done)))
      refine call_d rfl (ih x.fArgs[i] (by omega) (by omega) o (1 + l) j _ (by simp -implicitDefEqProofs (disch := omega) only [go_sem]; exact hkS _) (by omega)) ?_
      simp -implicitDefEqProofs (disch := omega) only [go_sem, setO_twice]
      exact inv_at (i + 1, foldE addC x.fArgs[i] o) (by simp only; omega) rfl rfl ⟨by simp only; omega, by simp only; omega, p3⟩
    have hi : i = x.fArgs.length := by omega
    rw [hi, List.drop_length] at p2 p3
    rw [MExpr.cnts] at p2
    rw [foldL] at p3
    rw [← p3] at fin
    clear p3
    refine loop_at (ι := Nat × List (List UInt8)) Try.checked.mixed rfl [1, 2, 6] (fun y => [.c (.tsl (1 + l, j) (y.2.map encS)), .c (.ptr (0, 0) 0), .c (.d (.i .i64 y.1))]) (fun y => [.box (x.enc.map .d)] :: setO S (l, j) (.tok 1 (y.2.map encS)))
      (fun y => y.1 ≤ x.fArms.length ∧ y.2.length + MArm.cnts (x.fArms.drop y.1) ≤ 1073741824 ∧ foldR addC (x.fArms.drop y.1) y.2 = foldE addC x out) (fun y => x.fArms.length - y.1) (0, o) rfl ?_ ⟨Nat.zero_le _, by simp only [List.drop_zero]; omega, fin.symm⟩ ?_
    · simp -implicitDefEqProofs (disch := omega) only [go_sem]
    clear p1 p2 fin hal
    rintro ⟨i, o⟩ ⟨p1, p2, p3⟩
    simp only at p1 p2 p3
    simp -implicitDefEqProofs (disch := omega) only [go_sem]
    with_reducible refine split2 (fun hb => ?_) (fun hb => ?_) <;> have h := hb <;> (try simp only [wf_preprocess] at h) <;> simp -implicitDefEqProofs (disch := omega) only [go_sem, hb] <;> (repeat (with_reducible refine And.intro ?_ ?_; focus first | omega | rfl | assumption | exact ⟨_, rfl, rfl⟩ | (simp; omega) | (simp; done)))
    · have hi : i < x.fArms.length := by omega
      have hs := List.sizeOf_lt_of_mem (List.getElem_mem hi)
      have hs' := MArm.lt_Body x.fArms[i]
      have hz := MExpr.arm_sz hi
      have hz' := MArm.sz_vars x.fArms[i]
      rw [foldR_drop addC hi] at p3
      rw [MArm.cnts_drop hi] at p2
      have hlo := callE_len x.fArms[i].fBody o
      (repeat (with_reducible refine And.intro ?_ ?_; focus first | omega | rfl | assumption | exact ⟨_, rfl, rfl⟩ | (simp; omega) | (simp; done)))
      refine call_d rfl (ih x.fArms[i].fBody (by omega) (by omega) o (1 + l) j _ (by simp -implicitDefEqProofs (disch := omega) only [go_sem]; exact hkS _) (by omega)) ?_
      simp -implicitDefEqProofs (disch := omega) only [go_sem, setO_twice]
      exact inv_at (i + 1, foldE addC x.fArms[i].fBody o) (by simp only; omega) rfl rfl ⟨by simp only; omega, by simp only; omega, p3⟩
    · have hi : i = x.fArms.length := by omega
      rw [hi, List.drop_length, foldR] at p3
      rw [← p3]
      exact ⟨rfl, rfl⟩
theorem specCalled_ok (x : MExpr) (hsz : x.sz ≤ 4194304) : PCall Try.prog 26 [x.v] (.c (.d (.sl ((callE x).map encS)))) := fun S => by
  have hc := MExpr.cnt_le x
  have h0 : ∀ S, ACall Try.prog 52 [x.v, .c (.fsl [])] S (fun r S' => r = .c (.d (.sl ((callE x).map encS))) ∧ S' = S) := fun S => by
    refine ACall.tok0 1 (es := []) (esz := 1) rfl (by simp) (specCalls_all _ x (Nat.lt_succ_self _) hsz [] 0 0 ([.tok 1 []] :: S) rfl (by simp; omega)) ?_
    rintro r fr S' ⟨rfl, h2⟩
    injection h2 with h2 h3
    exact ⟨_, rfl, rfl, h3⟩
  refine acall_cw (rs := [.tmp 2]) Try.checked.mixed Try.func26 Try.ntmps26 rfl rfl rfl rfl rfl ?_
  simp -implicitDefEqProofs (disch := omega) only [go_sem]
  (repeat (with_reducible refine And.intro ?_ ?_; focus first | omega | rfl | assumption | exact ⟨_, rfl, rfl⟩ | (simp; omega) | (simp; done)))
  refine call_d rfl (h0 _) ?_
  simp -implicitDefEqProofs (disch := omega) only [go_sem]
end Go.Proofs.Ytceaigchkgifgaa

namespace Go.Ab
theorem ops_idx (b : UInt8) : decide (firstIdx ⟨[43, 45, 42, 60, 61].toArray⟩ b ≥ 0) = dec ([b] ∈ ops) := by
  have h : ∀ n : Nat, n < 256 → decide (firstIdx ⟨[43, 45, 42, 60, 61].toArray⟩ (UInt8.ofNat n) ≥ 0) = decide ([UInt8.ofNat n] ∈ ops) := by decide +kernel
  have h1 := h b.toNat (UInt8.toNat_lt b)
  rw [UInt8.ofNat_toNat] at h1
  rw [h1]
  by_cases h2 : [b] ∈ ops
  · rw [dec_true h2]; simp [h2]
  · rw [dec_false h2]; simp [h2]
def argLo (k : Int) : Int := if k = 5 ∨ k = 7 ∨ k = 11 ∨ k = 12 then 1 else if k = 8 ∨ k = 10 then 2 else if k = 9 then 3 else 0
def argHi (k : Int) : Int := if k = 4 ∨ k = 6 ∨ k = 5 then 300 else if k = 7 ∨ k = 11 ∨ k = 12 then 1 else if k = 8 ∨ k = 10 then 2 else if k = 9 then 3 else 0
end Go.Ab
namespace Go.Proofs.Ytceaigchkgifgaa
open Go Go.Ab
theorem indexByteString_x (l : List UInt8) (b : UInt8) : XCall Try.prog 148 [.c (.d (.s l)), .c (.d (.i .u8 b.toNat))] (.c (.d (.i .i64 (firstIdx ⟨l.toArray⟩ b)))) := by
  refine ⟨_, Extern.BytealgIndexByte.indexByte, Try.func148, by kernel_rfl, by kernel_rfl, by kernel_rfl, by kernel_rfl, fun w σ S β vs hS hv => ?_⟩
  obtain ⟨hl, h⟩ := hv
  obtain ⟨v0, e0, h0, _⟩ := h 0 _ rfl
  obtain ⟨v1, e1, h1, _⟩ := h 1 _ rfl
  cases h0
  cases h1
  have hvs : vs = [.string ⟨l.toArray⟩, .int .u8 b.toNat] := by
    match vs, hl, e0, e1 with
    | [x, y], _, e0, e1 => simp at e0 e1; rw [e0, e1]
  subst hvs
  refine ⟨_, run_indexByte_string _ _ w, ?_, rfl⟩
  have hb : (b.toNat : Int).toNat.toUInt8 = b := by simp
  rw [hb]
  exact .i _ _
theorem indexByte_ok (l : List UInt8) (b : UInt8) : PCall Try.prog 144 [.c (.d (.s l)), .c (.d (.i .u8 b.toNat))] (.c (.d (.i .i64 (firstIdx ⟨l.toArray⟩ b)))) := fun S => by
  refine acall_cw (rs := [.tmp 4]) Try.checked.mixed Try.func144 Try.ntmps144 rfl rfl rfl rfl rfl ?_
  simp -implicitDefEqProofs (disch := omega) only [go_sem]
  refine call_x (indexByteString_x l b) ?_
  simp -implicitDefEqProofs (disch := omega) only [go_sem]
theorem slIndex1_ok (l : List UInt8) (b : UInt8) (hl : [b] ≠ l) : PCall Try.prog 142 [.c (.d (.s l)), .c (.d (.s [b]))] (.c (.d (.i .i64 (firstIdx ⟨l.toArray⟩ b)))) := fun S => by
  have c1 : decide (((1 : Nat) : Int) = 0) = false := rfl
  have c2 : decide (((1 : Nat) : Int) = 1) = true := rfl
  refine acall_cw (rs := [.tmp 4]) Try.checked.mixed Try.func142 Try.ntmps142 rfl rfl rfl rfl rfl ?_
  simp -implicitDefEqProofs (disch := omega) only [go_sem, c1, c2]
  with_reducible refine split2 (fun hb => ?_) (fun hb => ?_) <;> have h := hb <;> (try simp only [wf_preprocess] at h) <;> simp -implicitDefEqProofs (disch := omega) only [go_sem, hb, c1, c2] <;> (repeat (with_reducible refine And.intro ?_ ?_; focus first | omega | rfl | assumption | exact ⟨_, rfl, rfl⟩ | (simp; omega) | (simp; done)))
  · exact absurd h hl
  refine call_w (indexByte_ok l b) ?_
  simp -implicitDefEqProofs (disch := omega) only [go_sem] <;> (repeat (with_reducible refine And.intro ?_ ?_; focus first | omega | rfl | assumption | exact ⟨_, rfl, rfl⟩ | (simp; omega) | (simp; done)))
theorem index1_ok (l : List UInt8) (b : UInt8) (hl : [b] ≠ l) : PCall Try.prog 138 [.c (.d (.s l)), .c (.d (.s [b]))] (.c (.d (.i .i64 (firstIdx ⟨l.toArray⟩ b)))) := fun S => by
  refine acall_cw (rs := [.tmp 4]) Try.checked.mixed Try.func138 Try.ntmps138 rfl rfl rfl rfl rfl ?_
  simp -implicitDefEqProofs (disch := omega) only [go_sem]
  refine call_w (slIndex1_ok l b hl) ?_
  simp -implicitDefEqProofs (disch := omega) only [go_sem] <;> (repeat (with_reducible refine And.intro ?_ ?_; focus first | omega | rfl | assumption | exact ⟨_, rfl, rfl⟩ | (simp; omega) | (simp; done)))
theorem contains1_ok (l : List UInt8) (b : UInt8) (hl : [b] ≠ l) : PCall Try.prog 128 [.c (.d (.s l)), .c (.d (.s [b]))] (.c (.d (.b (decide (firstIdx ⟨l.toArray⟩ b ≥ 0))))) := fun S => by
  refine acall_cw (rs := [.tmp 4]) Try.checked.mixed Try.func128 Try.ntmps128 rfl rfl rfl rfl rfl ?_
  simp -implicitDefEqProofs (disch := omega) only [go_sem]
  refine call_w (index1_ok l b hl) ?_
  simp -implicitDefEqProofs (disch := omega) only [go_sem] <;> (repeat (with_reducible refine And.intro ?_ ?_; focus first | omega | rfl | assumption | exact ⟨_, rfl, rfl⟩ | (simp; omega) | (simp; done)))
theorem isOperator_ok (s : List UInt8) : PCall Try.prog 109 [.c (.d (.s s))] (.c (.d (.b (dec (s ∈ ops))))) := fun S => by
  refine acall_cw (rs := [.tmp 2]) Try.checked.mixed Try.func109 Try.ntmps109 rfl rfl rfl rfl rfl ?_
  simp -implicitDefEqProofs (disch := omega) only [go_sem]
  with_reducible refine split2 (fun hb => ?_) (fun hb => ?_) <;> have h := hb <;> (try simp only [wf_preprocess] at h) <;> simp -implicitDefEqProofs (disch := omega) only [go_sem, hb] <;> (repeat (with_reducible refine And.intro ?_ ?_; focus first | omega | rfl | assumption | exact ⟨_, rfl, rfl⟩ | (simp; omega) | (simp; done)))
  · obtain ⟨b, rfl⟩ := List.length_eq_one_iff.1 (show s.length = 1 by omega)
    refine call_w (contains1_ok [43, 45, 42, 60, 61] b (by intro x; cases x)) ?_
    simp -implicitDefEqProofs (disch := omega) only [go_sem] <;> (repeat (with_reducible refine And.intro ?_ ?_; focus first | omega | rfl | assumption | exact ⟨_, rfl, rfl⟩ | (simp; omega) | (simp; done)))
    exact bool_eq (ops_idx b)
  · exact bool_eq (dec_false fun x => h (by rw [op_len x]; rfl)).symm
theorem isZeroType_ok (t : MType) : PCall Try.prog 110 [t.v] (.c (.d (.b (dec (zeroT t))))) := fun S => by
  refine acall_cw (rs := [.tmp 2]) Try.checked.mixed Try.func110 Try.ntmps110 rfl rfl rfl rfl rfl ?_
  simp -implicitDefEqProofs (disch := omega) only [go_sem]
  repeat' (first
    | with_reducible refine split2 (fun hb => ?_) (fun hb => ?_) <;> have h := hb <;> (try simp only [wf_preprocess] at h) <;> simp -implicitDefEqProofs (disch := omega) only [go_sem, hb] <;> (repeat (with_reducible refine And.intro ?_ ?_; focus first | omega | rfl | assumption | exact ⟨_, rfl, rfl⟩ | (simp; omega) | (simp; done)))
    | (refine bool_eq ?_; unfold zeroT; grind [dec_true, dec_false, of_dec, of_dec_false]))
theorem argCount_ok (k : Int) : PCall Try.prog 108 [.c (.d (.i .i64 k))] (.tup [(false, [.d (.i .i64 (argLo k))]), (false, [.d (.i .i64 (argHi k))])]) := fun S => by
  refine acall_cw (rs := [.tmp 2, .tmp 3]) Try.checked.mixed Try.func108 Try.ntmps108 rfl rfl rfl rfl rfl ?_
  simp -implicitDefEqProofs (disch := omega) only [go_sem]
  repeat' (first
    | with_reducible refine split2 (fun hb => ?_) (fun hb => ?_) <;> have h := hb <;> (try simp only [wf_preprocess] at h) <;> simp -implicitDefEqProofs (disch := omega) only [go_sem, hb] <;> (repeat (with_reducible refine And.intro ?_ ?_; focus first | omega | rfl | assumption | exact ⟨_, rfl, rfl⟩ | (simp; omega) | (simp; done)))
    | (unfold argLo argHi; grind))
end Go.Proofs.Ytceaigchkgifgaa

namespace Go.Ab
theorem MExpr.bounds {x : MExpr} (h : x.sz ≤ 4194304) : x.fTrait.length ≤ 4194304 ∧ x.fName.length ≤ 4194304 ∧ x.fArgs.length ≤ 4194304 ∧ x.fArms.length ≤ 4194304 ∧ x.fType.sz ≤ 4194304 := by
  simp only [MExpr.sz, MExpr.enc_eq, szRow, szRow_append, D.sz, List.length_map, MType.sz_def] at h
  omega
theorem MExpr.arg_b {x : MExpr} {i : Nat} (hi : i < x.fArgs.length) (h : x.sz ≤ 4194304) : x.fArgs[i].sz ≤ 4194304 := by
  have hx : x.fArgs[i].sz ≤ szRows (x.fArgs.map MExpr.enc) := szRows_mem (List.mem_map_of_mem (List.getElem_mem hi))
  simp only [MExpr.sz, MExpr.enc_eq, szRow, szRow_append, D.sz, List.length_map] at h
  omega
theorem MExpr.arm_b {x : MExpr} {i : Nat} (hi : i < x.fArms.length) (h : x.sz ≤ 4194304) : x.fArms[i].sz ≤ 4194304 := by
  have hx : x.fArms[i].sz ≤ szRows (x.fArms.map MArm.enc) := szRows_mem (List.mem_map_of_mem (List.getElem_mem hi))
  simp only [MExpr.sz, MExpr.enc_eq, szRow, szRow_append, D.sz, List.length_map] at h
  omega
theorem MArm.bounds {x : MArm} (h : x.sz ≤ 4194304) : x.fConstructor.length ≤ 4194304 ∧ x.fVars.length ≤ 4194304 ∧ (∀ s ∈ x.fVars, s.length ≤ 4194304) ∧ x.fBody.sz ≤ 4194304 := by
  have hb := MArm.sz_body x
  simp only [MArm.sz, MArm.enc_eq, szRow, szRow_append, D.sz, List.length_map] at h hb
  refine ⟨by omega, by omega, fun s hs => ?_, by omega⟩
  have := strs_b hs
  omega
theorem kind_cases (k : Int) : (k < 1 ∨ 12 < k) ∨ k = 1 ∨ k = 2 ∨ k = 3 ∨ k = 4 ∨ k = 5 ∨ k = 6 ∨ k = 7 ∨ k = 8 ∨ k = 9 ∨ k = 10 ∨ k = 11 ∨ k = 12 := by omega
end Go.Ab
namespace Go.Proofs.Ytceaigchkgifgaa
open Go Go.Ab
set_option maxHeartbeats 8000000 in
theorem hasFields_ok (x : MExpr) (hsz : x.sz ≤ 4194304) (hc : x.fArgs.length ≤ 300) : PCall Try.prog 79 [x.v] (.c (.d (.b (dec (fieldsP x))))) := fun S => by
  have hb0 := MExpr.bounds hsz
  have hz : zeroT x.fType → validType x.fType = false := zeroT_not_valid
  rcases kind_cases x.fKind with hk | hk | hk | hk | hk | hk | hk | hk | hk | hk | hk | hk | hk
  · have h1 : ¬ fieldsP x := fun h => by have := h.1; omega
    refine acall_cw (rs := [.tmp 2]) Try.checked.mixed Try.func79 Try.ntmps79 rfl rfl rfl rfl rfl ?_
    simp -implicitDefEqProofs (disch := omega) only [go_sem]
    refine call_w (argCount_ok x.fKind) ?_
    simp -implicitDefEqProofs (disch := omega) only [go_sem] <;> (repeat (with_reducible refine And.intro ?_ ?_; focus first | omega | rfl | assumption | exact ⟨_, rfl, rfl⟩ | (simp; omega) | (simp; done)))
    with_reducible refine split2 (fun hb => ?_) (fun hb => ?_) <;> have h := hb <;> (try simp only [wf_preprocess] at h) <;> simp -implicitDefEqProofs (disch := omega) only [go_sem, hb] <;> (repeat (with_reducible refine And.intro ?_ ?_; focus first | omega | rfl | assumption | exact ⟨_, rfl, rfl⟩ | (simp; omega) | (simp; done)))
    · exact bool_eq (dec_false h1).symm
    with_reducible refine split2 (fun hb => ?_) (fun hb => ?_) <;> have h := hb <;> (try simp only [wf_preprocess] at h) <;> simp -implicitDefEqProofs (disch := omega) only [go_sem, hb] <;> (repeat (with_reducible refine And.intro ?_ ?_; focus first | omega | rfl | assumption | exact ⟨_, rfl, rfl⟩ | (simp; omega) | (simp; done)))
    · exact bool_eq (dec_false h1).symm
    · omega
  all_goals
    refine acall_cw (rs := [.tmp 2]) Try.checked.mixed Try.func79 Try.ntmps79 rfl rfl rfl rfl rfl ?_
    simp -implicitDefEqProofs (disch := omega) only [go_sem, hk]
    refine call_w (argCount_ok _) ?_
    simp -implicitDefEqProofs (disch := omega) only [go_sem, hk, argLo, argHi]
    repeat' (first
      | with_reducible refine split2 (fun hb => ?_) (fun hb => ?_) <;> have h := hb <;> (try simp only [wf_preprocess] at h) <;> simp -implicitDefEqProofs (disch := omega) only [go_sem, hb, hk] <;> (repeat (with_reducible refine And.intro ?_ ?_; focus first | omega | rfl | assumption | exact ⟨_, rfl, rfl⟩ | (simp; omega) | (simp; done)))
      | ((with_reducible show CallG _ _ 84 _ _ _ _); refine call_w (implValidName_ok x.fName (by omega)) ?_; simp -implicitDefEqProofs (disch := omega) only [go_sem, hk])
      | ((with_reducible show CallG _ _ 84 _ _ _ _); refine call_w (implValidName_ok x.fTrait (by omega)) ?_; simp -implicitDefEqProofs (disch := omega) only [go_sem, hk])
      | ((with_reducible show CallG _ _ 109 _ _ _ _); refine call_w (isOperator_ok x.fName) ?_; simp -implicitDefEqProofs (disch := omega) only [go_sem, hk])
      | ((with_reducible show CallG _ _ 110 _ _ _ _); refine call_w (isZeroType_ok x.fType) ?_; simp -implicitDefEqProofs (disch := omega) only [go_sem, hk])
      | ((with_reducible show CallG _ _ 111 _ _ _ _); refine call_w (implValidType_ok x.fType (by omega)) ?_; simp -implicitDefEqProofs (disch := omega) only [go_sem, hk])
      | (refine bool_eq (Bool.eq_iff_iff.2 ?_); simp only [dec_eq_true, fieldsP, hk]; grind [of_dec, of_dec_false, dec_true, dec_false]))
end Go.Proofs.Ytceaigchkgifgaa

namespace Go.Ab
theorem MExpr.cnt_arg {x : MExpr} {y : MExpr} (h : y ∈ x.fArgs) : y.cnt + 1 ≤ x.cnt := by
  rw [MExpr.cnt_eq x]
  have : ∀ xs : List MExpr, y ∈ xs → y.cnt ≤ MExpr.cnts xs := by
    intro xs
    induction xs with
    | nil => intro h; cases h
    | cons z zs ih =>
      intro h
      rw [MExpr.cnts]
      rcases List.mem_cons.1 h with e | e
      · subst e; omega
      · have := ih e; omega
  have := this _ h
  omega
theorem MExpr.cnt_arm {x : MExpr} {y : MArm} (h : y ∈ x.fArms) : y.fBody.cnt + 1 ≤ x.cnt := by
  rw [MExpr.cnt_eq x]
  have : ∀ xs : List MArm, y ∈ xs → y.fBody.cnt ≤ MArm.cnts xs := by
    intro xs
    induction xs with
    | nil => intro h; cases h
    | cons z zs ih =>
      intro h
      rw [MArm.cnts]
      rcases List.mem_cons.1 h with e | e
      · subst e; rw [MArm.cnt_eq]; omega
      · have := ih e; omega
  have := this _ h
  omega
theorem MExpr.len_cnt (x : MExpr) : x.fArgs.length + 1 ≤ x.cnt := by
  rw [MExpr.cnt_eq x]
  have : ∀ xs : List MExpr, xs.length ≤ MExpr.cnts xs := by
    intro xs
    induction xs with
    | nil => simp
    | cons z zs ih => rw [MExpr.cnts, List.length_cons]; have := MExpr.cnt_eq z; omega
  have := this x.fArgs
  omega
def hasTr (k : Int) : Bool := if k = 5 ∨ k = 11 then true else false
def hasNm (k : Int) : Bool := if k = 3 ∨ k = 4 ∨ k = 6 ∨ k = 5 ∨ k = 8 ∨ k = 10 then true else false
def hasNu (k : Int) : Bool := if k = 1 ∨ k = 2 then true else false
def hasTy (k : Int) : Bool := if k = 1 ∨ k = 2 ∨ k = 3 ∨ k = 4 ∨ k = 6 ∨ k = 5 ∨ k = 7 ∨ k = 8 ∨ k = 10 ∨ k = 9 ∨ k = 11 then false else true
def hasAr (k : Int) : Int := if k = 1 ∨ k = 2 ∨ k = 3 then 0 else if k = 4 ∨ k = 6 ∨ k = 5 then -1 else if k = 8 ∨ k = 10 then 2 else if k = 9 then 3 else 1
def hasAm (k : Int) : Bool := if k = 7 then true else false
end Go.Ab
namespace Go.Proofs.Ytceaigchkgifgaa
open Go Go.Ab
theorem isExpr_all : ∀ n : Nat, ∀ x : MExpr, SizeOf.sizeOf x < n → x.sz ≤ 4194304 → x.cnt ≤ 300 → PCall Try.prog 47 [x.v] (.c (.d (.b (exprOk x))))
  | 0 => fun x h => by omega
  | n + 1 => by
    have ih := isExpr_all n
    intro x hn hsz hc S
    have hb0 := MExpr.bounds hsz
    have lArgs := MExpr.lt_Args x
    have lArms := MExpr.lt_Arms x
    have hl := MExpr.len_cnt x
    have h1 : ∀ y ∈ x.fArgs, PCall Try.prog 81 [y.v] (.c (.d (.b (!exprOk y)))) := fun y hy S => by
      have hys := List.sizeOf_lt_of_mem hy
      have hyc := MExpr.cnt_arg hy
      have hyz : y.sz ≤ 4194304 := by obtain ⟨i, hi, e⟩ := List.getElem_of_mem hy; rw [← e]; exact MExpr.arg_b hi hsz
      refine acall_cw (rs := [.tmp 2]) Try.checked.mixed Try.func81 Try.ntmps81 rfl rfl rfl rfl rfl ?_
      simp -implicitDefEqProofs (disch := omega) only [go_sem]
      refine call_w (ih y (by omega) hyz (by omega)) ?_
      simp -implicitDefEqProofs (disch := omega) only [go_sem] <;> (repeat (with_reducible refine And.intro ?_ ?_; focus first | omega | rfl | assumption | exact ⟨_, rfl, rfl⟩ | (simp; omega) | (simp; done)))
    have h2 : ∀ y ∈ x.fArms, PCall Try.prog 83 [y.v] (.c (.d (.b (!armOk y)))) := fun y hy S => by
      have hys := List.sizeOf_lt_of_mem hy
      have hyb := MArm.lt_Body y
      have hyc := MExpr.cnt_arm hy
      have hyz : y.sz ≤ 4194304 := by obtain ⟨i, hi, e⟩ := List.getElem_of_mem hy; rw [← e]; exact MExpr.arm_b hi hsz
      have hyy := MArm.bounds hyz
      refine acall_cw (rs := [.tmp 2]) Try.checked.mixed Try.func83 Try.ntmps83 rfl rfl rfl rfl rfl ?_
      simp -implicitDefEqProofs (disch := omega) only [go_sem]
      refine call_w (implValidName_ok y.fConstructor (by omega)) ?_
      simp -implicitDefEqProofs (disch := omega) only [go_sem] <;> (repeat (with_reducible refine And.intro ?_ ?_; focus first | omega | rfl | assumption | exact ⟨_, rfl, rfl⟩ | (simp; omega) | (simp; done)))
      with_reducible refine split2 (fun hb => ?_) (fun hb => ?_) <;> have h := hb <;> (try simp only [wf_preprocess] at h) <;> simp -implicitDefEqProofs (disch := omega) only [go_sem, hb] <;> (repeat (with_reducible refine And.intro ?_ ?_; focus first | omega | rfl | assumption | exact ⟨_, rfl, rfl⟩ | (simp; omega) | (simp; done)))
      · exact bool_eq (by rw [armOk_eq, h]; rfl)
      have k1 := h
      refine call_w (areNames_ok y.fVars (by omega) hyy.2.2.1) ?_
      simp -implicitDefEqProofs (disch := omega) only [go_sem] <;> (repeat (with_reducible refine And.intro ?_ ?_; focus first | omega | rfl | assumption | exact ⟨_, rfl, rfl⟩ | (simp; omega) | (simp; done)))
      with_reducible refine split2 (fun hb => ?_) (fun hb => ?_) <;> have h := hb <;> (try simp only [wf_preprocess] at h) <;> simp -implicitDefEqProofs (disch := omega) only [go_sem, hb] <;> (repeat (with_reducible refine And.intro ?_ ?_; focus first | omega | rfl | assumption | exact ⟨_, rfl, rfl⟩ | (simp; omega) | (simp; done)))
      · exact bool_eq (by rw [armOk_eq, h]; simp)
      have k2 := h
      refine call_w (ih y.fBody (by omega) hyy.2.2.2 (by omega)) ?_
      simp -implicitDefEqProofs (disch := omega) only [go_sem] <;> (repeat (with_reducible refine And.intro ?_ ?_; focus first | omega | rfl | assumption | exact ⟨_, rfl, rfl⟩ | (simp; omega) | (simp; done)))
      exact bool_eq (by rw [armOk_eq, k1, k2]; simp)
    refine acall_cw (rs := [.tmp 2]) Try.checked.mixed Try.func47 Try.ntmps47 rfl rfl rfl rfl rfl ?_
    simp -implicitDefEqProofs (disch := omega) only [go_sem]
    refine call_w (hasFields_ok x hsz (by omega)) ?_
    simp -implicitDefEqProofs (disch := omega) only [go_sem] <;> (repeat (with_reducible refine And.intro ?_ ?_; focus first | omega | rfl | assumption | exact ⟨_, rfl, rfl⟩ | (simp; omega) | (simp; done)))
    with_reducible refine split2 (fun hb => ?_) (fun hb => ?_) <;> have h := hb <;> (try simp only [wf_preprocess] at h) <;> simp -implicitDefEqProofs (disch := omega) only [go_sem, hb] <;> (repeat (with_reducible refine And.intro ?_ ?_; focus first | omega | rfl | assumption | exact ⟨_, rfl, rfl⟩ | (simp; omega) | (simp; done)))
    · exact bool_eq (by rw [exprOk_eq, dec_false h]; rfl)
    have k1 := h
    (repeat (with_reducible refine And.intro ?_ ?_; focus first | omega | rfl | assumption | exact ⟨_, rfl, rfl⟩ | (simp; omega) | (simp; done)))
    refine call_d rfl (containsFuncExpr_ok 81 [] _ x.fArgs (fun y => !exprOk y) (by omega) fun y hy => FPure.of_pure (h1 y hy)) ?_
    simp -implicitDefEqProofs (disch := omega) only [go_sem]
    rw [exprsOk_any]
    with_reducible refine split2 (fun hb => ?_) (fun hb => ?_) <;> have h := hb <;> (try simp only [wf_preprocess] at h) <;> simp -implicitDefEqProofs (disch := omega) only [go_sem, hb] <;> (repeat (with_reducible refine And.intro ?_ ?_; focus first | omega | rfl | assumption | exact ⟨_, rfl, rfl⟩ | (simp; omega) | (simp; done)))
    · exact bool_eq (by rw [exprOk_eq, h]; simp)
    have k2 := h
    (repeat (with_reducible refine And.intro ?_ ?_; focus first | omega | rfl | assumption | exact ⟨_, rfl, rfl⟩ | (simp; omega) | (simp; done)))
    refine call_d rfl (containsFuncArm_ok 83 [] _ x.fArms (fun y => !armOk y) (by omega) fun y hy => FPure.of_pure (h2 y hy)) ?_
    simp -implicitDefEqProofs (disch := omega) only [go_sem]
    rw [armsOk_any]
    exact bool_eq (by rw [exprOk_eq, dec_true k1, k2]; simp)
theorem implValidExpr_ok (x : MExpr) (hsz : x.sz ≤ 4194304) : PCall Try.prog 23 [x.v] (.c (.d (.b (validExpr x)))) := fun S => by
  refine acall_cw (rs := [.tmp 2]) Try.checked.mixed Try.func23 Try.ntmps23 rfl rfl rfl rfl rfl ?_
  simp -implicitDefEqProofs (disch := omega) only [go_sem]
  refine call_w (implExprSize_ok x hsz) ?_
  simp -implicitDefEqProofs (disch := omega) only [go_sem] <;> (repeat (with_reducible refine And.intro ?_ ?_; focus first | omega | rfl | assumption | exact ⟨_, rfl, rfl⟩ | (simp; omega) | (simp; done)))
  with_reducible refine split2 (fun hb => ?_) (fun hb => ?_) <;> have h := hb <;> (try simp only [wf_preprocess] at h) <;> simp -implicitDefEqProofs (disch := omega) only [go_sem, hb] <;> (repeat (with_reducible refine And.intro ?_ ?_; focus first | omega | rfl | assumption | exact ⟨_, rfl, rfl⟩ | (simp; omega) | (simp; done)))
  · refine call_w (isExpr_all _ x (Nat.lt_succ_self _) hsz (by omega)) ?_
    simp -implicitDefEqProofs (disch := omega) only [go_sem] <;> (repeat (with_reducible refine And.intro ?_ ?_; focus first | omega | rfl | assumption | exact ⟨_, rfl, rfl⟩ | (simp; omega) | (simp; done)))
    exact bool_eq (by unfold validExpr; rw [dec_true (by omega)]; rfl)
  · exact bool_eq (by unfold validExpr; rw [dec_false (by omega)]; rfl)
theorem l11Has_ok (k : Int) : PCall Try.prog 86 [.c (.d (.i .i64 k))] (.tup [(false, [.d (.b (hasTr k))]), (false, [.d (.b (hasNm k))]), (false, [.d (.b (hasNu k))]), (false, [.d (.b (hasTy k))]), (false, [.d (.i .i64 (hasAr k))]), (false, [.d (.b (hasAm k))])]) := fun S => by
  refine acall_cw (rs := [.tmp 2, .tmp 3, .tmp 4, .tmp 5, .tmp 6, .tmp 7]) Try.checked.mixed Try.func86 Try.ntmps86 rfl rfl rfl rfl rfl ?_
  simp -implicitDefEqProofs (disch := omega) only [go_sem]
  repeat' (first
    | with_reducible refine split2 (fun hb => ?_) (fun hb => ?_) <;> have h := hb <;> (try simp only [wf_preprocess] at h) <;> simp -implicitDefEqProofs (disch := omega) only [go_sem, hb] <;> (repeat (with_reducible refine And.intro ?_ ?_; focus first | omega | rfl | assumption | exact ⟨_, rfl, rfl⟩ | (simp; omega) | (simp; done)))
    | (unfold hasTr hasNm hasNu hasTy hasAr hasAm; grind))
theorem l11Zero_ok (t : MType) : PCall Try.prog 91 [t.v] (.c (.d (.b (dec (zeroT t))))) := fun S => by
  refine acall_cw (rs := [.tmp 2]) Try.checked.mixed Try.func91 Try.ntmps91 rfl rfl rfl rfl rfl ?_
  simp -implicitDefEqProofs (disch := omega) only [go_sem]
  repeat' (first
    | with_reducible refine split2 (fun hb => ?_) (fun hb => ?_) <;> have h := hb <;> (try simp only [wf_preprocess] at h) <;> simp -implicitDefEqProofs (disch := omega) only [go_sem, hb] <;> (repeat (with_reducible refine And.intro ?_ ?_; focus first | omega | rfl | assumption | exact ⟨_, rfl, rfl⟩ | (simp; omega) | (simp; done)))
    | (refine bool_eq ?_; unfold zeroT; grind [dec_true, dec_false, of_dec, of_dec_false]))
theorem l11Prim_ok (s : List UInt8) : PCall Try.prog 89 [.c (.d (.s s))] (.c (.d (.b (dec (s ∈ ops))))) := fun S => by
  refine acall_cw (rs := [.tmp 2]) Try.checked.mixed Try.func89 Try.ntmps89 rfl rfl rfl rfl rfl ?_
  simp -implicitDefEqProofs (disch := omega) only [go_sem]
  (repeat (with_reducible refine And.intro ?_ ?_; focus first | omega | rfl | assumption | exact ⟨_, rfl, rfl⟩ | (simp; omega) | (simp; done)))
  refine call_w (l1Has_ok ops s (by decide)) ?_
  simp -implicitDefEqProofs (disch := omega) only [go_sem] <;> (repeat (with_reducible refine And.intro ?_ ?_; focus first | omega | rfl | assumption | exact ⟨_, rfl, rfl⟩ | (simp; omega) | (simp; done)))
theorem l11Left_all : ∀ n : Nat, ∀ x : MExpr, SizeOf.sizeOf x < n → x.sz ≤ 4194304 → ∀ l : Int, 0 ≤ l → l ≤ 1048576 → PCall Try.prog 48 [x.v, .c (.d (.i .i64 l))] (.c (.d (.i .i64 (subE l x.cnt))))
  | 0 => fun x h => by omega
  | n + 1 => by
    have ih := l11Left_all n
    intro x hn hsz l hl hl2 S
    have hb0 := MExpr.bounds hsz
    have lArgs := MExpr.lt_Args x
    have lArms := MExpr.lt_Arms x
    have he := MExpr.cnt_eq x
    refine acall_cw (rs := [.tmp 4]) Try.checked.mixed Try.func48 Try.ntmps48 rfl rfl rfl rfl rfl ?_
    simp -implicitDefEqProofs (disch := omega) only [go_sem]
    refine loop_at (ι := Nat × Int) Try.checked.mixed rfl [1, 2, 5] (fun y => [.c (.d (.i .i64 y.2)), .c (.ptr (0, 0) 0), .c (.d (.i .i64 y.1))]) (fun y => [.box (x.enc.map .d)] :: S)
      (fun y => y.1 ≤ x.fArgs.length ∧ (-1 ≤ y.2 ∧ y.2 ≤ 1048576) ∧ subE y.2 (MExpr.cnts (x.fArgs.drop y.1)) = subE (l - 1) (MExpr.cnts x.fArgs)) (fun y => x.fArgs.length - y.1) (0, l - 1) rfl ?_ ⟨Nat.zero_le _, by simp only; omega, rfl⟩ ?_
    · simp -implicitDefEqProofs (disch := omega) only [go_sem]
    rintro ⟨i, c⟩ ⟨p1, p2, p3⟩
    simp only at p1 p2 p3
    have out : (i = x.fArgs.length ∨ c < 0) → c = subE (l - 1) (MExpr.cnts x.fArgs) := fun h => by
      rcases h with h | h
      · rw [h, List.drop_length, MExpr.cnts, subE_zero p2.1] at p3
        exact p3
      · rw [← p3, subE_neg h]; omega
    have second : (i = x.fArgs.length ∨ c < 0) → subE c (MArm.cnts x.fArms) = subE l x.cnt := fun h => by
      rw [out h, subE_add, he]
      unfold subE
      split <;> split <;> (try split) <;> omega
    simp -implicitDefEqProofs (disch := omega) only [go_sem]
    with_reducible refine split2 (fun hb => ?_) (fun hb => ?_) <;> have h := hb <;> (try simp only [wf_preprocess] at h) <;> simp -implicitDefEqProofs (disch := omega) only [go_sem, hb] <;> (repeat (with_reducible refine And.intro ?_ ?_; focus first | omega | rfl | assumption | exact ⟨_, rfl, rfl⟩ | (simp; omega) | (simp; done)))
    · have hi : i < x.fArgs.length := by omega
      with_reducible refine split2 (fun hb => ?_) (fun hb => ?_) <;> have h := hb <;> (try simp only [wf_preprocess] at h) <;> simp -implicitDefEqProofs (disch := omega) only [go_sem, hb] <;> (repeat (with_reducible refine And.intro ?_ ?_; focus first | omega | rfl | assumption | exact ⟨_, rfl, rfl⟩ | (simp; omega) | (simp; done)))
      · have hs := List.sizeOf_lt_of_mem (List.getElem_mem hi)
        have hr := subE_le (l := c) (c := x.fArgs[i].cnt) (by omega)
        rw [MExpr.cnts_drop hi, ← subE_add] at p3
        (repeat (with_reducible refine And.intro ?_ ?_; focus first | omega | rfl | assumption | exact ⟨_, rfl, rfl⟩ | (simp; omega) | (simp; done)))
        refine call_w (ih x.fArgs[i] (by omega) (MExpr.arg_b hi hsz) c (by omega) (by omega)) ?_
        simp -implicitDefEqProofs (disch := omega) only [go_sem] <;> (repeat (with_reducible refine And.intro ?_ ?_; focus first | omega | rfl | assumption | exact ⟨_, rfl, rfl⟩ | (simp; omega) | (simp; done)))
        exact inv_at (i + 1, subE c x.fArgs[i].cnt) (by simp only; omega) rfl rfl ⟨by simp only; omega, by simp only; omega, p3⟩
      · have p4 := second (.inr (by omega))
        clear second out p3
        refine loop_at (ι := Nat × Int) Try.checked.mixed rfl [1, 2, 6] (fun y => [.c (.d (.i .i64 y.2)), .c (.ptr (0, 0) 0), .c (.d (.i .i64 y.1))]) (fun y => [.box (x.enc.map .d)] :: S)
          (fun y => y.1 ≤ x.fArms.length ∧ (-1 ≤ y.2 ∧ y.2 ≤ 1048576) ∧ subE y.2 (MArm.cnts (x.fArms.drop y.1)) = subE l x.cnt) (fun y => x.fArms.length - y.1) (0, c) rfl ?_ ⟨Nat.zero_le _, by simp only; omega, p4⟩ ?_
        · simp -implicitDefEqProofs (disch := omega) only [go_sem]
        clear p1 p2 p4
        rintro ⟨i, d⟩ ⟨p1, p2, p3⟩
        simp only at p1 p2 p3
        simp -implicitDefEqProofs (disch := omega) only [go_sem]
        with_reducible refine split2 (fun hb => ?_) (fun hb => ?_) <;> have h := hb <;> (try simp only [wf_preprocess] at h) <;> simp -implicitDefEqProofs (disch := omega) only [go_sem, hb] <;> (repeat (with_reducible refine And.intro ?_ ?_; focus first | omega | rfl | assumption | exact ⟨_, rfl, rfl⟩ | (simp; omega) | (simp; done)))
        · have hi : i < x.fArms.length := by omega
          with_reducible refine split2 (fun hb => ?_) (fun hb => ?_) <;> have h := hb <;> (try simp only [wf_preprocess] at h) <;> simp -implicitDefEqProofs (disch := omega) only [go_sem, hb] <;> (repeat (with_reducible refine And.intro ?_ ?_; focus first | omega | rfl | assumption | exact ⟨_, rfl, rfl⟩ | (simp; omega) | (simp; done)))
          · have hs := List.sizeOf_lt_of_mem (List.getElem_mem hi)
            have hs' := MArm.lt_Body x.fArms[i]
            have hr := subE_le (l := d) (c := x.fArms[i].fBody.cnt) (by omega)
            rw [MArm.cnts_drop hi, ← subE_add] at p3
            (repeat (with_reducible refine And.intro ?_ ?_; focus first | omega | rfl | assumption | exact ⟨_, rfl, rfl⟩ | (simp; omega) | (simp; done)))
            refine call_w (ih x.fArms[i].fBody (by omega) (MArm.bounds (MExpr.arm_b hi hsz)).2.2.2 d (by omega) (by omega)) ?_
            simp -implicitDefEqProofs (disch := omega) only [go_sem] <;> (repeat (with_reducible refine And.intro ?_ ?_; focus first | omega | rfl | assumption | exact ⟨_, rfl, rfl⟩ | (simp; omega) | (simp; done)))
            exact inv_at (i + 1, subE d x.fArms[i].fBody.cnt) (by simp only; omega) rfl rfl ⟨by simp only; omega, by simp only; omega, p3⟩
          · rw [subE_neg (by omega)] at p3
            exact int_eq (by omega)
        · have hi : i = x.fArms.length := by omega
          rw [hi, List.drop_length, MArm.cnts, subE_zero p2.1] at p3
          exact int_eq (by omega)
    · have p4 := second (.inl (by omega))
      clear second out p3
      refine loop_at (ι := Nat × Int) Try.checked.mixed rfl [1, 2, 6] (fun y => [.c (.d (.i .i64 y.2)), .c (.ptr (0, 0) 0), .c (.d (.i .i64 y.1))]) (fun y => [.box (x.enc.map .d)] :: S)
        (fun y => y.1 ≤ x.fArms.length ∧ (-1 ≤ y.2 ∧ y.2 ≤ 1048576) ∧ subE y.2 (MArm.cnts (x.fArms.drop y.1)) = subE l x.cnt) (fun y => x.fArms.length - y.1) (0, c) rfl ?_ ⟨Nat.zero_le _, by simp only; omega, p4⟩ ?_
      · simp -implicitDefEqProofs (disch := omega) only [go_sem]
      clear p1 p2 p4
      rintro ⟨i, d⟩ ⟨p1, p2, p3⟩
      simp only at p1 p2 p3
      simp -implicitDefEqProofs (disch := omega) only [go_sem]
      with_reducible refine split2 (fun hb => ?_) (fun hb => ?_) <;> have h := hb <;> (try simp only [wf_preprocess] at h) <;> simp -implicitDefEqProofs (disch := omega) only [go_sem, hb] <;> (repeat (with_reducible refine And.intro ?_ ?_; focus first | omega | rfl | assumption | exact ⟨_, rfl, rfl⟩ | (simp; omega) | (simp; done)))
      · have hi : i < x.fArms.length := by omega
        with_reducible refine split2 (fun hb => ?_) (fun hb => ?_) <;> have h := hb <;> (try simp only [wf_preprocess] at h) <;> simp -implicitDefEqProofs (disch := omega) only [go_sem, hb] <;> (repeat (with_reducible refine And.intro ?_ ?_; focus first | omega | rfl | assumption | exact ⟨_, rfl, rfl⟩ | (simp; omega) | (simp; done)))
        · have hs := List.sizeOf_lt_of_mem (List.getElem_mem hi)
          have hs' := MArm.lt_Body x.fArms[i]
          have hr := subE_le (l := d) (c := x.fArms[i].fBody.cnt) (by omega)
          rw [MArm.cnts_drop hi, ← subE_add] at p3
          (repeat (with_reducible refine And.intro ?_ ?_; focus first | omega | rfl | assumption | exact ⟨_, rfl, rfl⟩ | (simp; omega) | (simp; done)))
          refine call_w (ih x.fArms[i].fBody (by omega) (MArm.bounds (MExpr.arm_b hi hsz)).2.2.2 d (by omega) (by omega)) ?_
          simp -implicitDefEqProofs (disch := omega) only [go_sem] <;> (repeat (with_reducible refine And.intro ?_ ?_; focus first | omega | rfl | assumption | exact ⟨_, rfl, rfl⟩ | (simp; omega) | (simp; done)))
          exact inv_at (i + 1, subE d x.fArms[i].fBody.cnt) (by simp only; omega) rfl rfl ⟨by simp only; omega, by simp only; omega, p3⟩
        · rw [subE_neg (by omega)] at p3
          exact int_eq (by omega)
      · have hi : i = x.fArms.length := by omega
        rw [hi, List.drop_length, MArm.cnts, subE_zero p2.1] at p3
        exact int_eq (by omega)
end Go.Proofs.Ytceaigchkgifgaa

namespace Go.Proofs.Ytceaigchkgifgaa
open Go Go.Ab
set_option maxHeartbeats 8000000 in
theorem l11Form_all : ∀ n : Nat, ∀ x : MExpr, SizeOf.sizeOf x < n → x.sz ≤ 4194304 → PCall Try.prog 49 [x.v] (.c (.d (.b (exprOk x)))) := by
  intro n
  induction n with
  | zero => intro x h; omega
  | succ n ih =>
    intro x hn hsz S
    have hb0 := MExpr.bounds hsz
    have lArgs := MExpr.lt_Args x
    have lArms := MExpr.lt_Arms x
    have he := exprOk_eq x
    have hv0 := not_valid_nil
    have hop : x.fName ∈ ops → validName x.fName = false := op_not_valid
    refine (show (fieldsP x → ?T) → _ from fun tail => ?main) ?tp
    case' main =>
      rcases kind_cases x.fKind with hk | hk | hk | hk | hk | hk | hk | hk | hk | hk | hk | hk | hk
      · have h1 : exprOk x = false := by rw [he, dec_false (fun h => by have := h.1; omega)]; rfl
        refine acall_cw (rs := [.tmp 2]) Try.checked.mixed Try.func49 Try.ntmps49 rfl rfl rfl rfl rfl ?_
        simp -implicitDefEqProofs (disch := omega) only [go_sem]
        refine call_w (l11Has_ok _) ?_
        simp -implicitDefEqProofs (disch := omega) only [go_sem]
        refine call_w (l1In_ok _ _ _) ?_
        simp -implicitDefEqProofs (disch := omega) only [go_sem]
        with_reducible refine split2 (fun hb => ?_) (fun hb => ?_) <;> have h := hb <;> (try simp only [wf_preprocess] at h) <;> simp -implicitDefEqProofs (disch := omega) only [go_sem, hb] <;> (repeat (with_reducible refine And.intro ?_ ?_; focus first | omega | rfl | assumption | exact ⟨_, rfl, rfl⟩ | (simp; omega) | (simp; done)))
        · rw [h1]
        · omega
      all_goals
        have hf0 : ¬ fieldsP x → V.c (.d (.b false)) = V.c (.d (.b (exprOk x))) := fun h => bool_eq (by rw [he, dec_false h]; rfl)
        refine acall_cw (rs := [.tmp 2]) Try.checked.mixed Try.func49 Try.ntmps49 rfl rfl rfl rfl rfl ?_
        simp -implicitDefEqProofs (disch := omega) only [go_sem, hk]
        refine call_w (l11Has_ok _) ?_
        simp -implicitDefEqProofs (disch := omega) only [go_sem, hk, hasTr, hasNm, hasNu, hasTy, hasAr, hasAm, or_false, or_true, true_or, false_or]
        refine call_w (l1In_ok _ _ _) ?_
        simp -implicitDefEqProofs (disch := omega) only [go_sem, hk]
        repeat' (first
          | with_reducible refine split2 (fun hb => ?_) (fun hb => ?_) <;> have h := hb <;> (try simp only [wf_preprocess] at h) <;> simp -implicitDefEqProofs (disch := omega) only [go_sem, hb, hk] <;> (repeat (with_reducible refine And.intro ?_ ?_; focus first | omega | rfl | assumption | exact ⟨_, rfl, rfl⟩ | (simp; omega) | (simp; done)))
          | ((with_reducible show CallG _ _ 88 _ _ _ _); refine call_w (specValidName_ok x.fName (by omega)) ?_; simp -implicitDefEqProofs (disch := omega) only [go_sem, hk])
          | ((with_reducible show CallG _ _ 88 _ _ _ _); refine call_w (specValidName_ok x.fTrait (by omega)) ?_; simp -implicitDefEqProofs (disch := omega) only [go_sem, hk])
          | ((with_reducible show CallG _ _ 89 _ _ _ _); refine call_w (l11Prim_ok x.fName) ?_; simp -implicitDefEqProofs (disch := omega) only [go_sem, hk])
          | ((with_reducible show CallG _ _ 91 _ _ _ _); refine call_w (l11Zero_ok x.fType) ?_; simp -implicitDefEqProofs (disch := omega) only [go_sem, hk])
          | ((with_reducible show CallG _ _ 90 _ _ _ _); refine call_w (specValidType_ok x.fType (by omega)) ?_; simp -implicitDefEqProofs (disch := omega) only [go_sem, hk])
          | ((with_reducible show CallG _ _ 87 _ _ _ _); refine call_w (l1In_ok x.fN _ _) ?_; simp -implicitDefEqProofs (disch := omega) only [go_sem, hk])
          | (refine hf0 fun hF => ?_; simp only [fieldsP, hk, or_false, or_true, true_or, false_or, and_true, true_and, if_true, if_false, ↓reduceIte, Int.reduceEq, Int.reduceLT, Int.reduceLE] at hF; grind [of_dec, of_dec_false, dec_true, dec_false]))
      all_goals
        have hF : fieldsP x := by simp only [fieldsP, hk, or_false, or_true, true_or, false_or, and_true, true_and, if_true, if_false, ↓reduceIte, Int.reduceEq, Int.reduceLT, Int.reduceLE]; grind [of_dec, of_dec_false, dec_true, dec_false]
        refine aw_canon (st' := [.box (x.enc.map .d)] :: S) [1, 9] [.c (.ptr (0, 0) 0), .c (.d (.i .i64 0))] rfl (by simp -implicitDefEqProofs (disch := omega) only [go_sem, hk]) ?_
        exact tail hF
    intro hF
    rw [dec_true hF, Bool.true_and] at he
    clear hF hop hv0
    refine loop_at (ι := Nat) Try.checked.mixed rfl [1, 9] (fun i => [.c (.ptr (0, 0) 0), .c (.d (.i .i64 i))]) (fun _ => [.box (x.enc.map .d)] :: S)
      (fun i => i ≤ x.fArgs.length ∧ exprsOk (x.fArgs.drop i) = exprsOk x.fArgs) (fun i => x.fArgs.length - i) 0 rfl ?_ ⟨Nat.zero_le _, rfl⟩ ?_
    · simp -implicitDefEqProofs (disch := omega) only [go_sem]
    rintro i ⟨p1, p2⟩
    simp -implicitDefEqProofs (disch := omega) only [go_sem]
    with_reducible refine split2 (fun hb => ?_) (fun hb => ?_) <;> have h := hb <;> (try simp only [wf_preprocess] at h) <;> simp -implicitDefEqProofs (disch := omega) only [go_sem, hb] <;> (repeat (with_reducible refine And.intro ?_ ?_; focus first | omega | rfl | assumption | exact ⟨_, rfl, rfl⟩ | (simp; omega) | (simp; done)))
    · have hi : i < x.fArgs.length := by omega
      have hs := List.sizeOf_lt_of_mem (List.getElem_mem hi)
      rw [exprsOk_drop hi] at p2
      (repeat (with_reducible refine And.intro ?_ ?_; focus first | omega | rfl | assumption | exact ⟨_, rfl, rfl⟩ | (simp; omega) | (simp; done)))
      refine call_w (ih x.fArgs[i] (by omega) (MExpr.arg_b hi hsz)) ?_
      simp -implicitDefEqProofs (disch := omega) only [go_sem] <;> (repeat (with_reducible refine And.intro ?_ ?_; focus first | omega | rfl | assumption | exact ⟨_, rfl, rfl⟩ | (simp; omega) | (simp; done)))
      with_reducible refine split2 (fun hb => ?_) (fun hb => ?_) <;> have h := hb <;> (try simp only [wf_preprocess] at h) <;> simp -implicitDefEqProofs (disch := omega) only [go_sem, hb] <;> (repeat (with_reducible refine And.intro ?_ ?_; focus first | omega | rfl | assumption | exact ⟨_, rfl, rfl⟩ | (simp; omega) | (simp; done)))
      · exact bool_eq (by rw [he, ← p2, h]; rfl)
      · exact inv_at (i + 1) (by omega) rfl rfl ⟨by omega, by rw [← p2, h]; rfl⟩
    rw [List.drop_of_length_le (by omega)] at p2
    have q : exprsOk x.fArgs = true := p2.symm
    clear p2 p1
    refine loop_at (ι := Nat) Try.checked.mixed rfl [1, 10] (fun i => [.c (.ptr (0, 0) 0), .c (.d (.i .i64 i))]) (fun _ => [.box (x.enc.map .d)] :: S)
      (fun i => i ≤ x.fArms.length ∧ armsOk (x.fArms.drop i) = armsOk x.fArms) (fun i => x.fArms.length - i) 0 rfl ?_ ⟨Nat.zero_le _, rfl⟩ ?_
    · simp -implicitDefEqProofs (disch := omega) only [go_sem]
    rintro i ⟨p1, p2⟩
    simp -implicitDefEqProofs (disch := omega) only [go_sem]
    with_reducible refine split2 (fun hb => ?_) (fun hb => ?_) <;> have h := hb <;> (try simp only [wf_preprocess] at h) <;> simp -implicitDefEqProofs (disch := omega) only [go_sem, hb] <;> (repeat (with_reducible refine And.intro ?_ ?_; focus first | omega | rfl | assumption | exact ⟨_, rfl, rfl⟩ | (simp; omega) | (simp; done)))
    · have hi : i < x.fArms.length := by omega
      have hs := List.sizeOf_lt_of_mem (List.getElem_mem hi)
      have hs' := MArm.lt_Body x.fArms[i]
      have hab := MArm.bounds (MExpr.arm_b hi hsz)
      rw [armsOk_drop hi] at p2
      have no : armOk x.fArms[i] = false → V.c (.d (.b false)) = V.c (.d (.b (exprOk x))) := fun h => bool_eq (by rw [he, ← p2, h]; simp)
      (repeat (with_reducible refine And.intro ?_ ?_; focus first | omega | rfl | assumption | exact ⟨_, rfl, rfl⟩ | (simp; omega) | (simp; done)))
      refine call_w (specValidName_ok x.fArms[i].fConstructor (by omega)) ?_
      simp -implicitDefEqProofs (disch := omega) only [go_sem] <;> (repeat (with_reducible refine And.intro ?_ ?_; focus first | omega | rfl | assumption | exact ⟨_, rfl, rfl⟩ | (simp; omega) | (simp; done)))
      with_reducible refine split2 (fun hb => ?_) (fun hb => ?_) <;> have h := hb <;> (try simp only [wf_preprocess] at h) <;> simp -implicitDefEqProofs (disch := omega) only [go_sem, hb] <;> (repeat (with_reducible refine And.intro ?_ ?_; focus first | omega | rfl | assumption | exact ⟨_, rfl, rfl⟩ | (simp; omega) | (simp; done)))
      · exact no (by rw [armOk_eq, h]; rfl)
      have k1 := h
      (repeat (with_reducible refine And.intro ?_ ?_; focus first | omega | rfl | assumption | exact ⟨_, rfl, rfl⟩ | (simp; omega) | (simp; done)))
      refine call_w (l3Names_ok x.fArms[i].fVars (by omega) hab.2.2.1) ?_
      simp -implicitDefEqProofs (disch := omega) only [go_sem] <;> (repeat (with_reducible refine And.intro ?_ ?_; focus first | omega | rfl | assumption | exact ⟨_, rfl, rfl⟩ | (simp; omega) | (simp; done)))
      with_reducible refine split2 (fun hb => ?_) (fun hb => ?_) <;> have h := hb <;> (try simp only [wf_preprocess] at h) <;> simp -implicitDefEqProofs (disch := omega) only [go_sem, hb] <;> (repeat (with_reducible refine And.intro ?_ ?_; focus first | omega | rfl | assumption | exact ⟨_, rfl, rfl⟩ | (simp; omega) | (simp; done)))
      · exact no (by rw [armOk_eq]; unfold namesOk; rw [h]; simp)
      have k2 := h
      (repeat (with_reducible refine And.intro ?_ ?_; focus first | omega | rfl | assumption | exact ⟨_, rfl, rfl⟩ | (simp; omega) | (simp; done)))
      refine call_w (specDistinct_ok x.fArms[i].fVars (by omega)) ?_
      simp -implicitDefEqProofs (disch := omega) only [go_sem] <;> (repeat (with_reducible refine And.intro ?_ ?_; focus first | omega | rfl | assumption | exact ⟨_, rfl, rfl⟩ | (simp; omega) | (simp; done)))
      with_reducible refine split2 (fun hb => ?_) (fun hb => ?_) <;> have h := hb <;> (try simp only [wf_preprocess] at h) <;> simp -implicitDefEqProofs (disch := omega) only [go_sem, hb] <;> (repeat (with_reducible refine And.intro ?_ ?_; focus first | omega | rfl | assumption | exact ⟨_, rfl, rfl⟩ | (simp; omega) | (simp; done)))
      · exact no (by rw [armOk_eq]; unfold namesOk; rw [dec_false h]; simp)
      have k3 := h
      (repeat (with_reducible refine And.intro ?_ ?_; focus first | omega | rfl | assumption | exact ⟨_, rfl, rfl⟩ | (simp; omega) | (simp; done)))
      refine call_w (ih x.fArms[i].fBody (by omega) hab.2.2.2) ?_
      simp -implicitDefEqProofs (disch := omega) only [go_sem] <;> (repeat (with_reducible refine And.intro ?_ ?_; focus first | omega | rfl | assumption | exact ⟨_, rfl, rfl⟩ | (simp; omega) | (simp; done)))
      with_reducible refine split2 (fun hb => ?_) (fun hb => ?_) <;> have h := hb <;> (try simp only [wf_preprocess] at h) <;> simp -implicitDefEqProofs (disch := omega) only [go_sem, hb] <;> (repeat (with_reducible refine And.intro ?_ ?_; focus first | omega | rfl | assumption | exact ⟨_, rfl, rfl⟩ | (simp; omega) | (simp; done)))
      · exact no (by rw [armOk_eq, h]; simp)
      · exact inv_drop 1 (by decide) (i + 1) (by omega) rfl rfl rfl rfl ⟨by omega, by rw [← p2, armOk_eq, k1, h]; unfold namesOk; rw [k2, dec_true k3]; rfl⟩
    · rw [List.drop_of_length_le (by omega)] at p2
      exact bool_eq (by rw [he, q, ← p2]; rfl)
theorem specValidExpr_ok (x : MExpr) (hsz : x.sz ≤ 4194304) : PCall Try.prog 24 [x.v] (.c (.d (.b (validExpr x)))) := fun S => by
  have hs := subE_pos (l := 300) (c := x.cnt) (by omega)
  refine acall_cw (rs := [.tmp 2]) Try.checked.mixed Try.func24 Try.ntmps24 rfl rfl rfl rfl rfl ?_
  simp -implicitDefEqProofs (disch := omega) only [go_sem]
  refine call_w (l11Left_all _ x (Nat.lt_succ_self _) hsz 300 (by omega) (by omega)) ?_
  simp -implicitDefEqProofs (disch := omega) only [go_sem] <;> (repeat (with_reducible refine And.intro ?_ ?_; focus first | omega | rfl | assumption | exact ⟨_, rfl, rfl⟩ | (simp; omega) | (simp; done)))
  rw [hs]
  with_reducible refine split2 (fun hb => ?_) (fun hb => ?_) <;> have h := hb <;> (try simp only [wf_preprocess] at h) <;> simp -implicitDefEqProofs (disch := omega) only [go_sem, hb] <;> (repeat (with_reducible refine And.intro ?_ ?_; focus first | omega | rfl | assumption | exact ⟨_, rfl, rfl⟩ | (simp; omega) | (simp; done)))
  · refine call_w (l11Form_all _ x (Nat.lt_succ_self _) hsz) ?_
    simp -implicitDefEqProofs (disch := omega) only [go_sem] <;> (repeat (with_reducible refine And.intro ?_ ?_; focus first | omega | rfl | assumption | exact ⟨_, rfl, rfl⟩ | (simp; omega) | (simp; done)))
    exact bool_eq (by unfold validExpr; rw [dec_true (by omega)]; rfl)
  · exact bool_eq (by unfold validExpr; rw [dec_false (by omega)]; rfl)
end Go.Proofs.Ytceaigchkgifgaa

namespace Go.Ab
theorem MExpr.bounds_g {x : MExpr} (h : x.sz ≤ 4194304) : x.fTrait.length ≤ 4194304 ∧ x.fName.length ≤ 4194304 ∧ x.fType.sz ≤ 4194304 ∧ x.fArgs.length ≤ 4194304 ∧ x.fArms.length ≤ 4194304 := by
  simp only [MExpr.sz, MExpr.enc_eq, szRow, szRow_append, D.sz, List.length_map, MType.sz_def] at h
  omega
theorem MExpr.arg_g {x : MExpr} {i : Nat} (hi : i < x.fArgs.length) (h : x.sz ≤ 4194304) : x.fArgs[i].sz ≤ 4194304 := by
  have hx : x.fArgs[i].sz ≤ szRows (x.fArgs.map MExpr.enc) := szRows_mem (List.mem_map_of_mem (List.getElem_mem hi))
  simp only [MExpr.sz, MExpr.enc_eq, szRow, szRow_append, D.sz, List.length_map, MType.sz_def] at h
  omega
theorem MExpr.arm_g {x : MExpr} {i : Nat} (hi : i < x.fArms.length) (h : x.sz ≤ 4194304) : x.fArms[i].sz ≤ 4194304 := by
  have hx : x.fArms[i].sz ≤ szRows (x.fArms.map MArm.enc) := szRows_mem (List.mem_map_of_mem (List.getElem_mem hi))
  simp only [MExpr.sz, MExpr.enc_eq, szRow, szRow_append, D.sz, List.length_map, MType.sz_def] at h
  omega
theorem MArm.bounds_g {x : MArm} (h : x.sz ≤ 4194304) : x.fConstructor.length ≤ 4194304 ∧ x.fVars.length ≤ 4194304 ∧ x.fBody.sz ≤ 4194304 := by
  simp only [MArm.sz, MArm.enc_eq, szRow, szRow_append, D.sz, List.length_map, MExpr.sz_def] at h
  omega
end Go.Ab
namespace Go.Proofs.Ytceaigchkgifgaa
open Go Go.Ab
theorem implEqualExpr_all : ∀ n : Nat, ∀ x : MExpr, SizeOf.sizeOf x < n → ∀ y : MExpr, x.sz ≤ 4194304 → PCall Try.prog 29 [x.v, y.v] (.c (.d (.b (dec (x = y)))))
  | 0 => fun x h => by omega
  | n + 1 => by
    have ih := implEqualExpr_all n
    intro x hn y hsz S
    have lArgs := MExpr.lt_Args x
    have lArms := MExpr.lt_Arms x
    have hb0 := MExpr.bounds_g hsz
    have hargs := equalFuncExpr_ok 29 x.fArgs y.fArgs (by omega) (fun u hu v => by
      obtain ⟨i, hi, e⟩ := List.getElem_of_mem hu
      have := List.sizeOf_lt_of_mem hu
      exact ih u (by omega) v (by rw [← e]; exact MExpr.arg_g hi hsz))
    have harms := equalFuncArm_ok 57 x.fArms y.fArms (by omega) (fun u hu v => by
      obtain ⟨i, hi, e⟩ := List.getElem_of_mem hu
      have hs := List.sizeOf_lt_of_mem hu
      have hz : u.sz ≤ 4194304 := by rw [← e]; exact MExpr.arm_g hi hsz
      have hz' := MArm.bounds_g hz
      have lBody := MArm.lt_Body u
      intro S
      refine acall_cw (rs := [.tmp 4]) Try.checked.mixed Try.func57 Try.ntmps57 rfl rfl rfl rfl rfl ?_
      simp -implicitDefEqProofs (disch := omega) only [go_sem]
      with_reducible refine split2 (fun hb => ?_) (fun hb => ?_) <;> have h := hb <;> (try simp only [wf_preprocess] at h) <;> simp -implicitDefEqProofs (disch := omega) only [go_sem, hb] <;> (repeat (with_reducible refine And.intro ?_ ?_; focus first | omega | rfl | assumption | exact ⟨_, rfl, rfl⟩ | (simp; omega) | (simp; done)))
      · have h1 := h
        refine call_w (equalS_ok u.fVars v.fVars (by omega)) ?_
        simp -implicitDefEqProofs (disch := omega) only [go_sem] <;> (repeat (with_reducible refine And.intro ?_ ?_; focus first | omega | rfl | assumption | exact ⟨_, rfl, rfl⟩ | (simp; omega) | (simp; done)))
        with_reducible refine split2 (fun hb => ?_) (fun hb => ?_) <;> have h := hb <;> (try simp only [wf_preprocess] at h) <;> simp -implicitDefEqProofs (disch := omega) only [go_sem, hb] <;> (repeat (with_reducible refine And.intro ?_ ?_; focus first | omega | rfl | assumption | exact ⟨_, rfl, rfl⟩ | (simp; omega) | (simp; done)))
        · have h2 := h
          refine call_w (ih u.fBody (by omega) v.fBody (by omega)) ?_
          simp -implicitDefEqProofs (disch := omega) only [go_sem] <;> (repeat (with_reducible refine And.intro ?_ ?_; focus first | omega | rfl | assumption | exact ⟨_, rfl, rfl⟩ | (simp; omega) | (simp; done)))
          exact bool_eq (dec_congr ⟨fun e => MArm.ext h1 h2 e, fun e => by rw [e]⟩)
        · exact bool_eq (dec_false (fun e => h (by rw [e]))).symm
      · exact bool_eq (dec_false (fun e => h (by rw [e]))).symm)
    refine acall_cw (rs := [.tmp 4]) Try.checked.mixed Try.func29 Try.ntmps29 rfl rfl rfl rfl rfl ?_
    simp -implicitDefEqProofs (disch := omega) only [go_sem]
    with_reducible refine split2 (fun hb => ?_) (fun hb => ?_) <;> have h := hb <;> (try simp only [wf_preprocess] at h) <;> simp -implicitDefEqProofs (disch := omega) only [go_sem, hb] <;> (repeat (with_reducible refine And.intro ?_ ?_; focus first | omega | rfl | assumption | exact ⟨_, rfl, rfl⟩ | (simp; omega) | (simp; done)))
    · have h1 := h
      with_reducible refine split2 (fun hb => ?_) (fun hb => ?_) <;> have h := hb <;> (try simp only [wf_preprocess] at h) <;> simp -implicitDefEqProofs (disch := omega) only [go_sem, hb] <;> (repeat (with_reducible refine And.intro ?_ ?_; focus first | omega | rfl | assumption | exact ⟨_, rfl, rfl⟩ | (simp; omega) | (simp; done)))
      · have h2 := h
        with_reducible refine split2 (fun hb => ?_) (fun hb => ?_) <;> have h := hb <;> (try simp only [wf_preprocess] at h) <;> simp -implicitDefEqProofs (disch := omega) only [go_sem, hb] <;> (repeat (with_reducible refine And.intro ?_ ?_; focus first | omega | rfl | assumption | exact ⟨_, rfl, rfl⟩ | (simp; omega) | (simp; done)))
        · have h3 := h
          with_reducible refine split2 (fun hb => ?_) (fun hb => ?_) <;> have h := hb <;> (try simp only [wf_preprocess] at h) <;> simp -implicitDefEqProofs (disch := omega) only [go_sem, hb] <;> (repeat (with_reducible refine And.intro ?_ ?_; focus first | omega | rfl | assumption | exact ⟨_, rfl, rfl⟩ | (simp; omega) | (simp; done)))
          · have h4 := h
            refine call_w (implEqualType_ok x.fType y.fType (by omega)) ?_
            simp -implicitDefEqProofs (disch := omega) only [go_sem] <;> (repeat (with_reducible refine And.intro ?_ ?_; focus first | omega | rfl | assumption | exact ⟨_, rfl, rfl⟩ | (simp; omega) | (simp; done)))
            with_reducible refine split2 (fun hb => ?_) (fun hb => ?_) <;> have h := hb <;> (try simp only [wf_preprocess] at h) <;> simp -implicitDefEqProofs (disch := omega) only [go_sem, hb] <;> (repeat (with_reducible refine And.intro ?_ ?_; focus first | omega | rfl | assumption | exact ⟨_, rfl, rfl⟩ | (simp; omega) | (simp; done)))
            · have h5 := h
              refine call_w (hargs) ?_
              simp -implicitDefEqProofs (disch := omega) only [go_sem] <;> (repeat (with_reducible refine And.intro ?_ ?_; focus first | omega | rfl | assumption | exact ⟨_, rfl, rfl⟩ | (simp; omega) | (simp; done)))
              with_reducible refine split2 (fun hb => ?_) (fun hb => ?_) <;> have h := hb <;> (try simp only [wf_preprocess] at h) <;> simp -implicitDefEqProofs (disch := omega) only [go_sem, hb] <;> (repeat (with_reducible refine And.intro ?_ ?_; focus first | omega | rfl | assumption | exact ⟨_, rfl, rfl⟩ | (simp; omega) | (simp; done)))
              · have h6 := h
                refine call_w (harms) ?_
                simp -implicitDefEqProofs (disch := omega) only [go_sem] <;> (repeat (with_reducible refine And.intro ?_ ?_; focus first | omega | rfl | assumption | exact ⟨_, rfl, rfl⟩ | (simp; omega) | (simp; done)))
                exact bool_eq (dec_congr ⟨fun e => MExpr.ext h1 h2 h3 h4 h5 h6 e, fun e => by rw [e]⟩)
              · exact bool_eq (dec_false (fun e => h (by rw [e]))).symm
            · exact bool_eq (dec_false (fun e => h (by rw [e]))).symm
          · exact bool_eq (dec_false (fun e => h (by rw [e]))).symm
        · exact bool_eq (dec_false (fun e => h (by rw [e]))).symm
      · exact bool_eq (dec_false (fun e => h (by rw [e]))).symm
    · exact bool_eq (dec_false (fun e => h (by rw [e]))).symm
theorem implEqualExpr_ok (x y : MExpr) (h : x.sz ≤ 4194304) : PCall Try.prog 29 [x.v, y.v] (.c (.d (.b (dec (x = y))))) := implEqualExpr_all _ x (Nat.lt_succ_self _) y h
end Go.Proofs.Ytceaigchkgifgaa

namespace Go.Proofs.Ytceaigchkgifgaa
open Go Go.Ab
theorem drawFree_ok {bs : List Int} (hB : Bytes bs) : PCall Try.prog 19 [.c (.d (.sl (bs.map encB)))] (bentX (newD bs)).1.v := fun S => by
  obtain ⟨q, hq⟩ : ∃ q, q = bentX (newD bs) := ⟨_, rfl⟩
  rw [← hq]
  refine acall_cw (rs := [.cell 2 38]) Try.checked.mixed Try.func19 Try.ntmps19 rfl rfl rfl rfl rfl ?_
  simp -implicitDefEqProofs (disch := omega) only [go_sem]
  refine call_d rfl (l1New_ok hB _ _) ?_
  simp -implicitDefEqProofs (disch := omega) only [go_sem]
  refine call_d rfl (l11Bent_ok hB (newD bs) 0 1 _ rfl) ?_
  rw [← hq]
  simp -implicitDefEqProofs (disch := omega) only [go_sem]
  first | done | rfl
end Go.Proofs.Ytceaigchkgifgaa
namespace Go.Proofs.Ytceaigchkgifgaa.fnExpr
open Go Go.Ab
theorem law (x0 : List Int) (b0 : ∀ x ∈ x0, 0 ≤ x ∧ x ≤ 255) : ACall Try.prog 5 [.c (.d (.sl (x0.map encB)))] [] (fun r _ => r = .c (.d (.b true))) := by
  refine acall_cwm (rs := [.tmp 2]) Try.checked.mixed Try.func5 Try.ntmps5 rfl rfl rfl rfl rfl ?_
  simp -implicitDefEqProofs (disch := omega) only [go_sem]
  refine call_w (big_ok x0) ?_
  simp -implicitDefEqProofs (disch := omega) only [go_sem]
  with_reducible refine split2 (fun hb => ?_) (fun hb => ?_) <;> have h := hb <;> (try simp only [wf_preprocess] at h) <;> simp -implicitDefEqProofs (disch := omega) only [go_sem, hb] <;> (repeat (with_reducible refine And.intro ?_ ?_; focus first | omega | rfl | assumption | exact ⟨_, rfl, rfl⟩ | (simp; omega) | (simp; done)))
  have hB : Bytes x0 := ⟨by omega, b0⟩
  have hz := bentX_sz (newD x0)
  refine call_w (drawFree_ok hB) ?_
  generalize (bentX (newD x0)).1 = e at *
  have hsz : e.sz ≤ 4194304 := by omega
  have hcn := MExpr.cnt_le e
  have hfl := freeE_len e [] []
  have hcl := callE_len e []
  have n0 : dec (freeE e [] []).Nodup = true := dec_true (freeE_nodup e [] [] List.nodup_nil)
  have e0 : dec (freeE e [] [] = freeE e [] []) = true := dec_true rfl
  have e1 : dec (callE e = callE e) = true := dec_true rfl
  simp only [List.length_nil] at hfl hcl
  simp -implicitDefEqProofs (disch := omega) only [go_sem]
  refine call_w (implFreeVars_ok e hsz) ?_
  simp -implicitDefEqProofs (disch := omega) only [go_sem]
  refine call_w (specFreeVars_ok e hsz) ?_
  simp -implicitDefEqProofs (disch := omega) only [go_sem]
  refine call_w (equalStrings_ok _ (freeE e [] []) (by omega)) ?_
  simp -implicitDefEqProofs (disch := omega) only [go_sem, e0]
  refine call_w (implDistinct_ok (freeE e [] []) (by omega)) ?_
  simp -implicitDefEqProofs (disch := omega) only [go_sem, n0]
  refine call_w (implValidExpr_ok e hsz) ?_
  simp -implicitDefEqProofs (disch := omega) only [go_sem]
  refine call_w (specValidExpr_ok e hsz) ?_
  simp -implicitDefEqProofs (disch := omega) only [go_sem]
  refine call_w (implCalled_ok e hsz) ?_
  simp -implicitDefEqProofs (disch := omega) only [go_sem]
  refine call_w (specCalled_ok e hsz) ?_
  simp -implicitDefEqProofs (disch := omega) only [go_sem]
  refine call_w (equalStrings_ok _ (callE e) (by unfold callE; omega)) ?_
  simp -implicitDefEqProofs (disch := omega) only [go_sem, e1]
  refine ⟨by rfl, ?_⟩
  have hv : (letE e).v = .agg [.d (.i .i64 8), .d (.s []), .d (.s [120]), .d (.i .i64 0), .d (.i .i64 0), .d (.s []), .d (.sl []), .d (.sl [[.i .i64 1, .s [], .s [], .i .i64 1, .i .i64 0, .s [], .sl [], .sl [], .sl []], [.i .i64 e.fKind, .s e.fTrait, .s e.fName, .i .i64 e.fN, .i .i64 e.fType.fKind, .s e.fType.fName, .sl (e.fType.fArgs.map MType.enc), .sl (e.fArgs.map MExpr.enc), .sl (e.fArms.map MArm.enc)]]), .d (.sl [])] := by
    unfold letE
    rw [v_mkE]
    simp only [List.map_cons, List.map_nil, MExpr.enc_eq, MType.enc_eq]
    rfl
  have hls : (letE e).sz ≤ 4194304 := by
    unfold letE
    simp only [sz_mkE, List.map_cons, List.map_nil, szRows, MExpr.sz_def, List.length_cons, List.length_nil]
    have : (MType.mk 0 [] []).sz = 0 := sz_zT
    omega
  have f1 := implFreeVars_ok (letE e) hls
  have f2 := implExprSize_ok (letE e) hls
  rw [hv] at f1 f2
  rw [letE_cnt] at f2
  have hll := freeE_len (letE e) [] []
  have hlc := MExpr.cnt_le (letE e)
  simp only [List.length_nil] at hll
  have d1 : dec ([120] ∈ freeE (letE e) [] []) = false := dec_false (letE_free e)
  have d2 : dec (e = e) = true := dec_true rfl
  simp -implicitDefEqProofs (disch := omega) only [go_sem]
  (repeat (with_reducible refine And.intro ?_ ?_; focus first | omega | rfl | assumption | exact ⟨_, rfl, rfl⟩ | (simp; omega) | (simp; done)))
  refine call_w f1 ?_
  simp -implicitDefEqProofs (disch := omega) only [go_sem]
  refine call_w (contains_ok _ [120] (by omega)) ?_
  simp -implicitDefEqProofs (disch := omega) only [go_sem, d1]
  refine call_w f2 ?_
  simp -implicitDefEqProofs (disch := omega) only [go_sem]
  refine call_w (implExprSize_ok e hsz) ?_
  simp -implicitDefEqProofs (disch := omega) only [go_sem]
  refine call_w (implEqualExpr_ok e e hsz) ?_
  simp -implicitDefEqProofs (disch := omega) only [go_sem, d2]
  refine ⟨by rfl, ?_⟩
  simp -implicitDefEqProofs (disch := omega) only [go_sem]
end Go.Proofs.Ytceaigchkgifgaa.fnExpr

namespace Go.Ab
theorem wt_pos {P : Program} {n : Nat} {t : TypeId} {ds : List D} (h : WT P n t ds) : ∃ m, n = m + 1 := by
  cases n with
  | zero => exact h.elim
  | succ m => exact ⟨m, rfl⟩
theorem wt_int {P : Program} {n : Nat} {t : TypeId} {k : IntKind} {ds : List D} (ht : P.underlying t = some (.int k)) (h : WT P n t ds) : ∃ x, ds = [.i k x] ∧ (Lit.int k x).wf = true := by
  obtain ⟨m, rfl⟩ := wt_pos h
  simp only [WT, ht] at h; exact h
theorem wt_slice {P : Program} {n : Nat} {t e : TypeId} {ds : List D} (ht : P.underlying t = some (.slice e)) (h : WT P n t ds) : ∃ es m, m < n ∧ ds = [.sl es] ∧ ∀ x ∈ es, WT P m e x := by
  obtain ⟨m, rfl⟩ := wt_pos h
  simp only [WT, ht] at h
  obtain ⟨es, h1, _, h2⟩ := h
  exact ⟨es, m, by omega, h1, fun x hx => (h2 x hx).2⟩
theorem wtf_fit {P : Program} {W : TypeId → List D → Prop} (hW : ∀ t ds, W t ds → FitL ds) : ∀ (fs : List Field) (ds : List D), WTF P W fs ds → FitL ds
  | [], ds, h => by
    have h : ds = [] := h
    rw [h]; exact fitL_nil
  | f :: fs, ds, h => by
    obtain ⟨a, b, rfl, _, h1, h2⟩ := h
    exact fitL_append.2 ⟨hW _ _ h1, wtf_fit hW fs b h2⟩
theorem wt_fit {P : Program} : ∀ (n : Nat) (t : TypeId) (ds : List D), WT P n t ds → FitL ds
  | 0, t, ds, h => h.elim
  | n + 1, t, ds, h => by
    simp only [WT] at h
    split at h
    · obtain ⟨b, rfl⟩ := h; exact fitL_cons.2 ⟨.b _, fitL_nil⟩
    · obtain ⟨b, rfl, _⟩ := h; exact fitL_cons.2 ⟨.i _ _, fitL_nil⟩
    · obtain ⟨l, rfl, hl⟩ := h; exact fitL_cons.2 ⟨.s _ hl, fitL_nil⟩
    · obtain ⟨es, rfl, hl, hh⟩ := h
      exact fitL_cons.2 ⟨.sl _ hl fun e he d hd => wt_fit n _ e (hh e he).2 d hd, fitL_nil⟩
    · exact wtf_fit (wt_fit n) _ _ h
    · exact h.elim
end Go.Ab
namespace Go.Proofs.Ytceaigchkgifgaa
open Go Go.Ab
end Go.Proofs.Ytceaigchkgifgaa

