/-
  ABSTRACT VALUES FOR A WALK, PART 2: what is represented stays represented while the world goes on. Plain lemmas.
-/
import Derived.Test.YtjfhgcnoielpfaaAbA
set_option linter.unusedSimpArgs false
set_option linter.unusedVariables false
namespace Go.Ab

def Near (w : World) (σ : Nat → Nat) (w' : World) (σ' : Nat → Nat) : Prop :=
  ∀ b c t fz, w.heap[b]? = some (.cells c t fz) → σ b ≤ σ' b ∧ ∃ c', w'.heap[b]? = some (.cells c' t fz) ∧ c'.size = c.size ∧ ∀ i, i < σ b → c'[i]? = c[i]?

theorem Near.refl (w : World) (σ : Nat → Nat) : Near w σ w σ := fun _ c _ _ h => ⟨Nat.le_refl _, c, h, rfl, fun _ _ => rfl⟩

theorem Near.trans {w σ w' σ' w'' σ''} (h : Near w σ w' σ') (k : Near w' σ' w'' σ'') : Near w σ w'' σ'' := by
  intro b c t fz hb
  obtain ⟨h1, c', h2, h3, h4⟩ := h b c t fz hb
  obtain ⟨k1, c'', k2, k3, k4⟩ := k b c' t fz h2
  exact ⟨Nat.le_trans h1 k1, c'', k2, k3.trans h3, fun i hi => (k4 i (Nat.lt_of_lt_of_le hi h1)).trans (h4 i hi)⟩

theorem RepD.mono {w σ w' σ'} (hn : Near w σ w' σ') {d : D} {v : Value} (h : RepD w σ d v) : RepD w' σ' d v := by
  induction h with
  | b x => exact .b x
  | i k n => exact .i k n
  | s l => exact .s l
  | o v h => exact .o v h
  | nil a cap => exact .nil a cap
  | sl b off cap esz es vals c t fz hcap hlen hb hσ hc hv ih =>
    obtain ⟨h1, c', h2, h3, h4⟩ := hn b c t fz hb
    exact .sl b off cap esz es vals c' t fz hcap hlen h2 (Nat.le_trans hσ h1) (fun j hj => by rw [h4 _ (by omega)]; exact hc j hj) ih

theorem RepP.mono {w σ w' σ'} (hn : Near w σ w' σ') {cs : List D} {a : Addr} (h : RepP w σ cs a) : RepP w' σ' cs a := by
  obtain ⟨c, t, fz, hs, hb, hl, hc⟩ := h
  obtain ⟨h1, c', h2, h3, h4⟩ := hn _ c t fz hb
  refine ⟨c', t, fz, hs, h2, Nat.le_trans hl h1, fun j d hj => ?_⟩
  obtain ⟨v, hv, hd⟩ := hc j d hj
  have hjl : j < cs.length := (List.getElem?_eq_some_iff.1 hj).1
  exact ⟨v, by rw [h4 _ (by omega)]; exact hv, hd.mono hn⟩

theorem KeepO.refl (o : Obj) (h : Option Value) : KeepO o h o h := by
  cases o with
  | dead => exact .inl rfl
  | box cs => exact .inr ⟨⟨cs, rfl⟩, rfl⟩
  | tok esz es => exact .inr ⟨esz, es, rfl, Nat.le_refl _, fun _ => rfl⟩
  | mrow esz es => exact .inr ⟨⟨es, rfl⟩, rfl⟩
  | mp m => exact .inr ⟨⟨m, rfl⟩, rfl⟩

theorem Keep.refl (S : Store) (β : Hs) : Keep S β S β := fun _ o h => ⟨o, h, .refl _ _⟩

theorem KeepO.trans {o o' o'' : Obj} {h h' h'' : Option Value} (a : KeepO o h o' h') (b : KeepO o' h' o'' h'') : KeepO o h o'' h'' := by
  rcases b with rfl | b
  · exact .inl rfl
  rcases a with rfl | a
  · exact .inl b
  refine .inr ?_
  cases o with
  | dead => subst a; exact b
  | box cs => obtain ⟨⟨cs', rfl⟩, rfl⟩ := a; exact b
  | tok esz es =>
    obtain ⟨esz', es', rfl, h1, h2⟩ := a
    obtain ⟨esz'', es'', rfl, k1, k2⟩ := b
    exact ⟨esz'', es'', rfl, Nat.le_trans h1 k1, fun e => (k2 (by omega)).trans (h2 (by omega))⟩
  | mrow esz es => obtain ⟨⟨es', rfl⟩, rfl⟩ := a; exact b
  | mp m => obtain ⟨⟨m', rfl⟩, rfl⟩ := a; exact b

theorem Keep.trans {S β S' β' S'' β''} (a : Keep S β S' β') (b : Keep S' β' S'' β'') : Keep S β S'' β'' := by
  intro k o h
  obtain ⟨o', h', ho⟩ := a k o h
  obtain ⟨o'', h'', ho'⟩ := b k o' h'
  exact ⟨o'', h'', ho.trans ho'⟩

theorem keep_box {o : Obj} {h h' : Option Value} {o' : Obj} (k : KeepO o h o' h') {cs' : List C} (e : o' = .box cs') : (∃ cs, o = .box cs) ∧ h' = h := by
  subst e
  rcases k with k | k
  · cases k
  · cases o with
    | dead => cases k
    | box cs => exact ⟨⟨cs, rfl⟩, k.2⟩
    | tok => obtain ⟨_, _, k, _⟩ := k; cases k
    | mrow => obtain ⟨⟨_, k⟩, _⟩ := k; cases k
    | mp => obtain ⟨⟨_, k⟩, _⟩ := k; cases k

theorem keep_tok {o : Obj} {h h' : Option Value} {o' : Obj} (k : KeepO o h o' h') {esz' : Nat} {es' : List (List D)} (e : o' = .tok esz' es') :
    ∃ esz es, o = .tok esz es ∧ es.length ≤ es'.length ∧ (es.length = es'.length → h' = h) := by
  subst e
  rcases k with k | k
  · cases k
  · cases o with
    | dead => cases k
    | box => obtain ⟨⟨_, k⟩, _⟩ := k; cases k
    | tok esz es => obtain ⟨_, _, k, k1, k2⟩ := k; cases k; exact ⟨esz, es, rfl, k1, k2⟩
    | mrow => obtain ⟨⟨_, k⟩, _⟩ := k; cases k
    | mp => obtain ⟨⟨_, k⟩, _⟩ := k; cases k

theorem keep_mrow {o : Obj} {h h' : Option Value} {o' : Obj} (k : KeepO o h o' h') {esz' : Nat} {es' : List (List D)} (e : o' = .mrow esz' es') : (∃ es, o = .mrow esz' es) ∧ h' = h := by
  subst e
  rcases k with k | k
  · cases k
  · cases o with
    | dead => cases k
    | box => obtain ⟨⟨_, k⟩, _⟩ := k; cases k
    | tok => obtain ⟨_, _, k, _⟩ := k; cases k
    | mrow esz es => obtain ⟨⟨_, k⟩, e⟩ := k; cases k; exact ⟨⟨es, rfl⟩, e⟩
    | mp => obtain ⟨⟨_, k⟩, _⟩ := k; cases k

theorem keep_mp {o : Obj} {h h' : Option Value} {o' : Obj} (k : KeepO o h o' h') {m' : List (List UInt8)} (e : o' = .mp m') : (∃ m, o = .mp m) ∧ h' = h := by
  subst e
  rcases k with k | k
  · cases k
  · cases o with
    | dead => cases k
    | box => obtain ⟨⟨_, k⟩, _⟩ := k; cases k
    | tok => obtain ⟨_, _, k, _⟩ := k; cases k
    | mrow => obtain ⟨⟨_, k⟩, _⟩ := k; cases k
    | mp m => exact ⟨⟨m, rfl⟩, k.2⟩

theorem RepC.mono {w σ w' σ'} {S : Store} {β : Hs} {S' : Store} {β' : Hs} (hn : Near w σ w' σ') (hk : Keep S β S' β') {c : C} {v : Value} (h : RepC w σ S β c v) : RepC w' σ' S' β' c v := by
  cases c with
  | d x => exact RepD.mono hn h
  | any => exact True.intro
  | fsl es => exact ⟨RepD.mono hn h.1, h.2⟩
  | tsl k es =>
    obtain ⟨h1, o, ho, h2⟩ := h
    obtain ⟨o', ho', hko⟩ := hk k o ho
    refine ⟨h1.mono hn, o', ho', fun esz es' e => ?_⟩
    obtain ⟨esz0, es0, e0, l0, q0⟩ := keep_tok hko e
    obtain ⟨l1, q1⟩ := h2 esz0 es0 e0
    exact ⟨Nat.le_trans l1 l0, fun e' => (q0 (by omega)).trans (q1 (by omega))⟩
  | ptr k off =>
    obtain ⟨o, ho, h2⟩ := h
    obtain ⟨o', ho', hko⟩ := hk k o ho
    refine ⟨o', ho', fun cs e => ?_⟩
    obtain ⟨⟨cs0, e0⟩, q⟩ := keep_box hko e
    obtain ⟨b, hb, hv⟩ := h2 cs0 e0
    exact ⟨b, q.trans hb, hv⟩
  | rptr cs => obtain ⟨a, ha, hp⟩ := h; exact ⟨a, ha, hp.mono hn⟩
  | eptr k i off =>
    obtain ⟨o, ho, h2⟩ := h
    obtain ⟨o', ho', hko⟩ := hk k o ho
    refine ⟨o', ho', fun esz es e => ?_⟩
    obtain ⟨⟨es0, e0⟩, q⟩ := keep_mrow hko e
    obtain ⟨b, n, cap, hb, hv⟩ := h2 esz es0 e0
    exact ⟨b, n, cap, q.trans hb, hv⟩
  | msl k =>
    obtain ⟨o, ho, h2⟩ := h
    obtain ⟨o', ho', hko⟩ := hk k o ho
    refine ⟨o', ho', fun esz es e => ?_⟩
    obtain ⟨⟨es0, e0⟩, q⟩ := keep_mrow hko e
    exact q.trans (h2 esz es0 e0)
  | fn f caps =>
    obtain ⟨vs, hv, hs, h2⟩ := h
    refine ⟨vs, hv, hs, fun j k off e => ?_⟩
    obtain ⟨u, hu, h1c, o, ho, h3⟩ := h2 j k off e
    obtain ⟨o', ho', hko⟩ := hk k o ho
    refine ⟨u, hu, h1c, o', ho', fun cs e => ?_⟩
    obtain ⟨⟨cs0, e0⟩, q⟩ := keep_box hko e
    obtain ⟨b, hb, hv⟩ := h3 cs0 e0
    exact ⟨b, q.trans hb, hv⟩
  | mp k =>
    obtain ⟨o, ho, h2⟩ := h
    obtain ⟨o', ho', hko⟩ := hk k o ho
    refine ⟨o', ho', fun m e => ?_⟩
    obtain ⟨⟨m0, e0⟩, q⟩ := keep_mp hko e
    exact q.trans (h2 m0 e0)

theorem RepCs.mono {w σ w' σ'} {S : Store} {β : Hs} {S' : Store} {β' : Hs} (hn : Near w σ w' σ') (hk : Keep S β S' β') {cs : List C} {vs : List Value} (h : RepCs w σ S β cs vs) : RepCs w' σ' S' β' cs vs :=
  ⟨h.1, fun j x hx => let ⟨v, hv, hc, ho⟩ := h.2 j x hx; ⟨v, hv, hc.mono hn hk, ho⟩⟩

theorem RepV.mono {w σ w' σ'} {S : Store} {β : Hs} {S' : Store} {β' : Hs} (hn : Near w σ w' σ') (hk : Keep S β S' β') {x : V} {v : Value} (h : RepV w σ S β x v) : RepV w' σ' S' β' x v := by
  cases x with
  | c x => exact ⟨h.1.mono hn hk, h.2⟩
  | agg cs => obtain ⟨a, ha, hc⟩ := h; exact ⟨a, ha, hc.mono hn hk⟩
  | tup xs =>
    obtain ⟨a, ha, hl, h2⟩ := h
    refine ⟨a, ha, hl, fun j y hy => ?_⟩
    obtain ⟨u, hu, h3⟩ := h2 j y hy
    refine ⟨u, hu, ?_⟩
    obtain ⟨t, cs⟩ := y
    cases t with
    | true => obtain ⟨a', ha', hc⟩ := h3; exact ⟨a', ha', hc.mono hn hk⟩
    | false => obtain ⟨x, hx, hc, ho⟩ := h3; exact ⟨x, hx, hc.mono hn hk, ho⟩
  | any => exact True.intro

theorem Keep.drop {S β S' β'} (h : Keep S β S' β') (n : Nat) : Keep (S.drop n) (β.drop n) (S'.drop n) (β'.drop n) := by
  intro k o ho
  rw [getO_drop] at ho
  obtain ⟨o', ho', hk⟩ := h _ o ho
  exact ⟨o', by rw [getO_drop]; exact ho', by rw [getO_drop, getO_drop]; exact hk⟩

/-- An object whose block has not been touched stays what it was. -/
theorem RepObj.mono {w σ w' σ'} {S : Store} {β : Hs} {S' : Store} {β' : Hs} (hn : Near w σ w' σ') (hk : Keep S β S' β') {o : Obj} {h : Value}
    (hf : ∀ b, blk o h = some b → w'.heap[b]? = w.heap[b]? ∧ σ' b = σ b) (hr : RepObj w σ S β o h) : RepObj w' σ' S' β' o h := by
  cases o with
  | dead => exact True.intro
  | box cs =>
    obtain ⟨b, c, t, rfl, hb, hs, hc⟩ := hr
    obtain ⟨f1, f2⟩ := hf b rfl
    exact ⟨b, c, t, rfl, f1.trans hb, f2.trans hs, hc.mono hn hk⟩
  | tok esz es =>
    obtain ⟨h1, h2, a, cap, rfl, h3, h4⟩ := hr
    refine ⟨h1.mono hn, h2, a, cap, rfl, h3, ?_⟩
    by_cases hcap : cap = es.length
    · exact .inl hcap
    rcases h4 with h4 | ⟨b, off, c, t, rfl, hb, hs, hl⟩
    · exact .inl h4
    · obtain ⟨f1, f2⟩ := hf b (by simp [blk, hcap])
      exact .inr ⟨b, off, c, t, rfl, f1.trans hb, f2.trans hs, hl⟩
  | mrow esz es =>
    obtain ⟨b, c, t, cap, rfl, hcap, hb, hs, hl, hz, hc⟩ := hr
    obtain ⟨f1, f2⟩ := hf b rfl
    exact ⟨b, c, t, cap, rfl, hcap, f1.trans hb, f2.trans hs, hl, hz, fun j x hx => let ⟨v, hv, hd⟩ := hc j x hx; ⟨v, hv, hd.mono hn⟩⟩
  | mp m =>
    obtain ⟨b, es, cl, rfl, hb, hs, he⟩ := hr
    obtain ⟨f1, f2⟩ := hf b rfl
    exact ⟨b, es, cl, rfl, f1.trans hb, f2.trans hs, he⟩

/-- The world has grown and nothing that was there has turned. -/
structure Grow (w : World) (σ : Nat → Nat) (w' : World) (σ' : Nat → Nat) : Prop where
  size : w.heap.size ≤ w'.heap.size
  os : w'.os = w.os
  output : w'.output = w.output
  old : ∀ b, b < w.heap.size → w'.heap[b]? = w.heap[b]? ∧ σ' b = σ b
  live : ∀ b, b < w'.heap.size ∨ σ' b = 0

theorem Grow.refl {w : World} {σ : Nat → Nat} (hl : ∀ b, b < w.heap.size ∨ σ b = 0) : Grow w σ w σ := ⟨Nat.le_refl _, rfl, rfl, fun _ _ => ⟨rfl, rfl⟩, hl⟩

theorem lt_of_some {w : World} {b : Nat} {o : Go.Obj} (h : w.heap[b]? = some o) : b < w.heap.size := (Array.getElem?_eq_some_iff.1 h).1

theorem Grow.near {w σ w' σ'} (h : Grow w σ w' σ') : Near w σ w' σ' := by
  intro b c t fz hb
  obtain ⟨h1, h2⟩ := h.old b (lt_of_some hb)
  exact ⟨Nat.le_of_eq h2.symm, c, h1.trans hb, rfl, fun _ _ => rfl⟩

theorem Grow.trans {w σ w' σ' w'' σ''} (h : Grow w σ w' σ') (k : Grow w' σ' w'' σ'') : Grow w σ w'' σ'' :=
  ⟨Nat.le_trans h.size k.size, k.os.trans h.os, k.output.trans h.output, fun b hb => by
    obtain ⟨h1, h2⟩ := h.old b hb
    obtain ⟨k1, k2⟩ := k.old b (Nat.lt_of_lt_of_le hb h.size)
    exact ⟨k1.trans h1, k2.trans h2⟩, k.live⟩

theorem blk_some {w σ S β} {o : Obj} {h : Value} (hr : RepObj w σ S β o h) {b : Nat} (hb : blk o h = some b) : b < w.heap.size := by
  cases o with
  | dead => cases hb
  | box cs => obtain ⟨b', c, t, rfl, hb', _⟩ := hr; cases hb; exact lt_of_some hb'
  | tok esz es =>
    obtain ⟨h1, h2, a, cap, rfl, h3, h4⟩ := hr
    cases a with
    | none => cases hb
    | some a =>
      simp only [blk] at hb
      split at hb
      · cases hb
      · rename_i hne
        rcases h4 with h4 | ⟨b', off, c, t, e, hb', _⟩
        · exact absurd h4 hne
        · cases e; cases hb; exact lt_of_some hb'
  | mrow esz es => obtain ⟨b', c, t, cap, rfl, _, hb', _⟩ := hr; cases hb; exact lt_of_some hb'
  | mp m => obtain ⟨b', es, cl, rfl, hb', _⟩ := hr; cases hb; exact lt_of_some hb'

theorem RepS.own_lt {w σ S β} (hs : RepS w σ S β) {b : Nat} (h : Own S β b) : b < w.heap.size := by
  obtain ⟨k, o, hv, ho, hh, hb⟩ := h
  obtain ⟨hv', hh', hr⟩ := hs.obj k o ho
  rw [hh] at hh'
  cases hh'
  exact blk_some hr hb

theorem RepS.grow {w σ w' σ'} {S : Store} {β : Hs} (hg : Grow w σ w' σ') (hs : RepS w σ S β) : RepS w' σ' S β := by
  refine ⟨fun k o ho => ?_, hs.apart, hs.shape, hg.live⟩
  obtain ⟨h, hh, hr⟩ := hs.obj k o ho
  exact ⟨h, hh, hr.mono hg.near (Keep.refl _ _) fun b hb => hg.old b (blk_some hr hb)⟩

theorem Step.of_grow {w σ w' σ'} {S : Store} {β : Hs} (hg : Grow w σ w' σ') : Step S β σ w S β σ' w' :=
  ⟨hg.size, hg.os, hg.output, fun b hb _ => hg.old b hb, hg.near, fun _ h => .inl h⟩

theorem Step.trans {S β σ w S' β' σ' w' S'' β'' σ'' w''} (h : Step S β σ w S' β' σ' w') (k : Step S' β' σ' w' S'' β'' σ'' w'') : Step S β σ w S'' β'' σ'' w'' :=
  ⟨Nat.le_trans h.size k.size, k.os.trans h.os, k.output.trans h.output,
   fun b hb ho => by
    obtain ⟨h1, h2⟩ := h.far b hb ho
    obtain ⟨k1, k2⟩ := k.far b (Nat.lt_of_lt_of_le hb h.size) (fun o => (h.own b o).elim ho (fun x => absurd hb (by omega)))
    exact ⟨k1.trans h1, k2.trans h2⟩,
   Near.trans h.near k.near,
   fun b o => (k.own b o).elim (fun o => h.own b o) (fun x => .inr (Nat.le_trans h.size x))⟩

end Go.Ab
