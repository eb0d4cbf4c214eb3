/-
  ABSTRACT VALUES FOR A WALK, PART 22: from the row's reading of an argument to data. 'WT': data of a Go type; 'closedB': a list of types without pointers, maps and the like.
-/
import Derived.Test.YtjfhgcnoielpfaaAbZ
import Derived.Carry
import Derived.WideKeyArgs
set_option linter.unusedSimpArgs false
set_option linter.unusedVariables false
namespace Go.Ab

inductive D.Fit : D → Prop
  | b (x) : Fit (.b x)
  | i (k n) : Fit (.i k n)
  | s (l) (h : l.length ≤ 9223372036854775807) : Fit (.s l)
  | sl (es) (h : es.length ≤ 9223372036854775807) (hh : ∀ e ∈ es, ∀ d ∈ e, Fit d) : Fit (.sl es)
  | o (v) : Fit (.o v)

def FitL (cs : List D) : Prop := ∀ d ∈ cs, d.Fit

theorem fit_s {l : List UInt8} (h : (D.s l).Fit) : l.length ≤ 9223372036854775807 := by cases h with | s _ h => exact h
theorem fit_sl {es : List (List D)} (h : (D.sl es).Fit) : es.length ≤ 9223372036854775807 ∧ ∀ e ∈ es, FitL e := by
  cases h with
  | sl _ h hh => exact ⟨h, hh⟩
theorem fitL_nil : FitL [] := fun d h => by cases h
theorem fitL_nil_iff : FitL [] ↔ True := ⟨fun _ => trivial, fun _ => fitL_nil⟩
theorem fitL_cons {d : D} {ds : List D} : FitL (d :: ds) ↔ d.Fit ∧ FitL ds := by simp [FitL]
theorem fitL_append {a b : List D} : FitL (a ++ b) ↔ FitL a ∧ FitL b := by
  simp only [FitL, List.mem_append]
  exact ⟨fun h => ⟨fun d hd => h d (.inl hd), fun d hd => h d (.inr hd)⟩, fun h d hd => hd.elim (h.1 d) (h.2 d)⟩

/-- Fields one behind the other. -/
def WTF (P : Program) (W : TypeId → List D → Prop) : List Field → List D → Prop
  | [], ds => ds = []
  | f :: fs, ds => ∃ a b, ds = a ++ b ∧ a.length = P.cellsOf f.type ∧ W f.type a ∧ WTF P W fs b

/-- Data of a type. -/
def WT (P : Program) : Nat → TypeId → List D → Prop
  | 0, _, _ => False
  | n + 1, t, ds =>
    match P.underlying t with
    | some .bool => ∃ b, ds = [.b b]
    | some (.int k) => ∃ x, ds = [.i k x] ∧ (Lit.int k x).wf = true
    | some .string => ∃ l, ds = [.s l] ∧ l.length ≤ 9223372036854775807
    | some (.slice e) => ∃ es, ds = [.sl es] ∧ es.length ≤ 9223372036854775807 ∧ ∀ x ∈ es, x.length = P.cellsOf e ∧ WT P n e x
    | some (.struct fs) => WTF P (WT P n) fs.toList ds
    | _ => False

def tiles (P : Program) : List Field → Nat → Nat → Bool
  | [], a, b => a == b
  | f :: fs, a, b => f.offset == a && tiles P fs (a + P.cellsOf f.type) b

def closedB (P : Program) (L : List TypeId) : Bool :=
  L.all fun t => match P.underlying t with
    | some .bool | some (.int _) | some .string => P.cellsOf t == 1
    | some (.slice e) => P.cellsOf t == 1 && L.contains e && decide (0 < P.cellsOf e)
    | some (.struct fs) => tiles P fs.toList 0 (P.cellsOf t) && fs.toList.all fun f => L.contains f.type
    | _ => false

/-- All cells of all blocks, as fast. -/
def allFast (w : World) (b : Nat) : Nat := match w.heap[b]? with
  | some (.cells c _ _) => c.size
  | _ => 0

def RepL (w : World) (ds : List D) (vs : List Value) : Prop := ds.length = vs.length ∧ ∀ (j : Nat) (d : D), ds[j]? = some d → ∃ v, vs[j]? = some v ∧ RepD w (allFast w) d v ∧ v.oneCell' = true

theorem RepL.append {w : World} {a b : List D} {xs ys : List Value} (h1 : RepL w a xs) (h2 : RepL w b ys) : RepL w (a ++ b) (xs ++ ys) := by
  refine ⟨by simp [h1.1, h2.1], fun j d hj => ?_⟩
  rw [List.getElem?_append] at hj ⊢
  have := h1.1
  split at hj
  · rw [if_pos (by omega)]; exact h1.2 j d hj
  · rw [if_neg (by omega), ← h1.1]; exact h2.2 _ d hj

theorem RepL.one {w : World} {d : D} {v : Value} (h : RepD w (allFast w) d v) (h1 : v.oneCell' = true) : RepL w [d] [v] := by
  refine ⟨rfl, fun j x hj => ?_⟩
  cases j with
  | zero => cases hj; exact ⟨v, rfl, h, h1⟩
  | succ j => simp at hj

theorem mapM_all {α β : Type} (f : α → Option β) : ∀ (l : List α) (ys : List β), l.mapM f = some ys → ys.length = l.length ∧ ∀ (j : Nat) (x : α), l[j]? = some x → ∃ y, f x = some y ∧ ys[j]? = some y
  | [], ys, h => by
    simp at h; subst h
    exact ⟨rfl, fun j x hj => by simp at hj⟩
  | a :: l, ys, h => by
    rw [List.mapM_cons] at h
    cases ha : f a with
    | none => rw [ha] at h; cases h
    | some y =>
      cases hl : l.mapM f with
      | none => rw [ha, hl] at h; cases h
      | some zs =>
        rw [ha, hl] at h
        cases h
        obtain ⟨h1, h2⟩ := mapM_all f l zs hl
        refine ⟨by simp [h1], fun j x hj => ?_⟩
        cases j with
        | zero => cases hj; exact ⟨y, ha, rfl⟩
        | succ j => exact h2 j x hj

section
variable {H : Type} {enc : TypeId × Value → H} {P : Program} {w : World} {L : List TypeId}

theorem cells_spot {a : Addr} {n : Nat} {vs : List Value} (hn : 0 < n) (h : w.cells? 0 a n = some vs) : a.spot = none ∧ vs.length = n ∧ ∃ c t fz, w.heap[a.block]? = some (.cells c t fz) ∧ ∀ j, j < n → ∃ v, vs[j]? = some v ∧ c[a.off + j]? = some v := by
  unfold World.cells? at h
  rw [if_pos (Nat.zero_le _)] at h
  obtain ⟨h1, h2⟩ := mapM_all _ _ _ h
  rw [List.length_range] at h1
  obtain ⟨v0, hv0, _⟩ := h2 0 0 (by simp [hn])
  have hadd0 : a.add 0 = a := by simp [Addr.add]
  rw [hadd0] at hv0
  unfold World.cell? at hv0
  cases hb : w.heap[a.block]? with
  | none => rw [hb] at hv0; cases hv0
  | some ob =>
    rw [hb] at hv0
    cases ob with
    | map _ _ => cases hv0
    | cells c t fz =>
      have hs : a.spot = none := by
        cases hsp : a.spot with
        | none => rfl
        | some x => rw [hsp] at hv0; simp at hv0
      refine ⟨hs, h1, c, t, fz, rfl, fun j hj => ?_⟩
      obtain ⟨v, hv, hvs⟩ := h2 j j (by simp [hj])
      refine ⟨v, hvs, ?_⟩
      unfold World.cell? at hv
      by_cases hj0 : j = 0
      · subst hj0
        rw [hadd0, hb] at hv
        simp [hs] at hv
        simpa using hv
      · simp [Addr.add, hj0, hb] at hv
        exact hv
    | _ => cases hv0


theorem choose_list {α : Type} {p : Nat → α → Prop} : ∀ n : Nat, (∀ i, i < n → ∃ x, p i x) → ∃ l : List α, l.length = n ∧ ∀ (i : Nat) (x : α), l[i]? = some x → p i x
  | 0, _ => ⟨[], rfl, fun i x h => by simp at h⟩
  | n + 1, h => by
    obtain ⟨l, hl, hp⟩ := choose_list n fun i hi => h i (by omega)
    obtain ⟨x, hx⟩ := h n (by omega)
    refine ⟨l ++ [x], by simp [hl], fun i y hy => ?_⟩
    rw [List.getElem?_append] at hy
    split at hy
    · exact hp i y hy
    · rename_i hlt
      have hi : i - l.length < 1 := by
        have := (List.getElem?_eq_some_iff.1 hy).1
        simpa using this
      have : i = n := by omega
      subst this
      rw [show i - l.length = 0 from by omega] at hy
      cases hy
      exact hx

theorem closed_at (hc : closedB P L = true) {t : TypeId} (ht : t ∈ L) : (match P.underlying t with
    | some .bool | some (.int _) | some .string => P.cellsOf t == 1
    | some (.slice e) => P.cellsOf t == 1 && L.contains e && decide (0 < P.cellsOf e)
    | some (.struct fs) => tiles P fs.toList 0 (P.cellsOf t) && fs.toList.all fun f => L.contains f.type
    | _ => false) = true := List.all_eq_true.1 hc t ht

theorem trod_fields {n : Nat} {fs : List Field} {cs : List Value} : ∀ (off : Nat), off ≤ cs.length → tiles P fs off cs.length = true →
    (∀ f ∈ fs, ∃ ds, WT P n f.type ds ∧ RepL w ds ((cs.drop f.offset).take (P.cellsOf f.type))) → ∃ ds, WTF P (WT P n) fs ds ∧ RepL w ds (cs.drop off) := by
  induction fs with
  | nil =>
    intro off _ ht _
    have : off = cs.length := by simpa [tiles] using ht
    exact ⟨[], rfl, by simp [this, RepL]⟩
  | cons f fs ih =>
    intro off ho ht h
    simp only [tiles, Bool.and_eq_true, beq_iff_eq] at ht
    obtain ⟨a, ha1, ha2⟩ := h f (by simp)
    have hle : ∀ (fs : List Field) (o : Nat), tiles P fs o cs.length = true → o ≤ cs.length := by
      intro fs
      induction fs with
      | nil => intro o h; have : o = cs.length := by simpa [tiles] using h
               omega
      | cons g gs ih => intro o h; simp only [tiles, Bool.and_eq_true] at h; have := ih _ h.2; omega
    have hle' := hle fs _ ht.2
    obtain ⟨b, hb1, hb2⟩ := ih (off + P.cellsOf f.type) hle' ht.2 fun g hg => h g (by simp [hg])
    rw [ht.1] at ha2
    refine ⟨a ++ b, ⟨a, b, rfl, ?_, ha1, hb1⟩, ?_⟩
    · rw [ha2.1]; simp; omega
    · have := ha2.append hb2
      rw [← List.drop_drop, List.take_append_drop] at this
      exact this

theorem trod_data (hc : closedB P L = true) {sp : Nat → Bool} {held : Bool} : ∀ (fuel : Nat) (t : TypeId) (cs : List Value) (x : DataW H × List MemPlace), t ∈ L →
    DataW.trod enc P w 0 sp held fuel t cs = some x → ∃ ds, WT P fuel t ds ∧ RepL w ds cs
  | 0, t, cs, x, _, h => by simp [DataW.trod] at h
  | n + 1, t, cs, x, ht, h => by
    have hcl := closed_at hc ht
    cases hu : P.underlying t with
    | none => rw [hu] at hcl; cases hcl
    | some u =>
      rw [hu] at hcl
      cases u with
      | bool =>
        obtain ⟨b, rfl, _⟩ := DataW.trod_bool hu h
        exact ⟨[.b b], by simp only [WT, hu]; exact ⟨b, rfl⟩, RepL.one (.b b) rfl⟩
      | int k =>
        obtain ⟨m, rfl, _, hw⟩ := DataW.trod_int hu h
        exact ⟨[.i k m], by simp only [WT, hu]; exact ⟨m, rfl, hw⟩, RepL.one (.i k m) rfl⟩
      | string =>
        obtain ⟨s, rfl, _, hs⟩ := DataW.trod_string hu h
        have hl : s.data.toList.length ≤ 9223372036854775807 := by
          have h1 : s.data.toList.length = s.size := by rw [Array.length_toList]; rfl
          rw [h1]; exact hs
        refine ⟨[.s s.data.toList], ?_, RepL.one ?_ rfl⟩
        · simp only [WT, hu]; exact ⟨_, rfl, hl⟩
        · exact .s s.data.toList
      | slice e =>
        simp only [Bool.and_eq_true, beq_iff_eq, decide_eq_true_eq, List.contains_iff_mem] at hcl
        obtain ⟨⟨h1, he⟩, hpos⟩ := hcl
        rcases DataW.trod_slice hu h with ⟨rfl, _⟩ | ⟨a, len, cap, elems, rest, m, hm, rfl, _, _, hlc, hcm, hel, hget, _, _⟩
        · exact ⟨[.sl []], by simp only [WT, hu]; exact ⟨[], rfl, by simp, fun x hx => by cases hx⟩, RepL.one (.nil _ _) rfl⟩
        · cases hm
          have hall : ∀ i, i < len → ∃ ds : List D, ds.length = P.cellsOf e ∧ WT P n e ds ∧ ∃ vs, w.cells? 0 (a.add (i * P.cellsOf e)) (P.cellsOf e) = some vs ∧ RepL w ds vs := by
            intro i hi
            have hg := hget i hi
            cases hcs : w.cells? 0 (a.add (i * P.cellsOf e)) (P.cellsOf e) with
            | none =>
              rw [hcs] at hg
              have : i < elems.length := by omega
              rw [List.getElem?_eq_getElem this] at hg
              cases hg
            | some vs =>
              rw [hcs] at hg
              have hlt : i < elems.length := by omega
              rw [List.getElem?_eq_getElem hlt] at hg
              obtain ⟨ds, hd1, hd2⟩ := trod_data hc n e vs _ he hg
              have hv := (cells_spot hpos hcs).2.1
              exact ⟨ds, by rw [hd2.1, hv], hd1, vs, rfl, hd2⟩
          obtain ⟨es, hes, hp⟩ := choose_list len hall
          have hwt : WT P (n + 1) t [.sl es] := by
            simp only [WT, hu]
            refine ⟨es, rfl, by have : cap ≤ 9223372036854775807 := hcm
                                omega, fun x hx => ?_⟩
            obtain ⟨i, hi⟩ := List.getElem?_of_mem hx
            exact ⟨(hp i x hi).1, (hp i x hi).2.1⟩
          refine ⟨[.sl es], hwt, ?_⟩
          cases hes0 : es with
          | nil =>
            have h0 : len = 0 := by rw [← hes, hes0]; rfl
            subst h0
            exact RepL.one (.nil _ _) rfl
          | cons e0 es0 =>
            have hlpos : 0 < len := by rw [← hes, hes0]; simp
            have hlen : ∀ x ∈ es, x.length = P.cellsOf e := fun x hx => by
              obtain ⟨i, hi⟩ := List.getElem?_of_mem hx
              exact (hp i x hi).1
            obtain ⟨ds0, _, _, vs0, hvs0, _⟩ := hall 0 hlpos
            have hadd0 : a.add (0 * P.cellsOf e) = a := by simp [Addr.add]
            rw [hadd0] at hvs0
            obtain ⟨hsp, _, c, tt, fz, hblk, _⟩ := cells_spot hpos hvs0
            have hcell : ∀ i r, i < len → r < P.cellsOf e → ∃ (x : List D) (v : Value) (d : D), es[i]? = some x ∧ x[r]? = some d ∧ c[a.off + (i * P.cellsOf e + r)]? = some v ∧ RepD w (allFast w) d v := by
              intro i r hi hr
              have hlt : i < es.length := by omega
              obtain ⟨hx1, hx2, vs, hvs, hrep⟩ := hp i es[i] (List.getElem?_eq_getElem hlt)
              obtain ⟨_, hvl, c', t', fz', hblk', hcc⟩ := cells_spot hpos hvs
              have hb' : (a.add (i * P.cellsOf e)).block = a.block := by unfold Addr.add; split <;> rfl
              have ho' : (a.add (i * P.cellsOf e)).off = a.off + i * P.cellsOf e := by unfold Addr.add; split <;> simp_all
              rw [hb', hblk] at hblk'
              cases hblk'
              obtain ⟨v, hv1, hv2⟩ := hcc r hr
              have hdr : r < es[i].length := by omega
              obtain ⟨v', hv', hd', _⟩ := hrep.2 r es[i][r] (List.getElem?_eq_getElem hdr)
              rw [hv1] at hv'; cases hv'
              refine ⟨es[i], v, es[i][r], List.getElem?_eq_getElem hlt, List.getElem?_eq_getElem hdr, ?_, hd'⟩
              rw [ho'] at hv2
              rw [← Nat.add_assoc]; exact hv2
            have hbound : a.off + len * P.cellsOf e ≤ c.size := by
              obtain ⟨_, v, _, _, _, hv, _⟩ := hcell (len - 1) (P.cellsOf e - 1) (by omega) (by omega)
              have := (Array.getElem?_eq_some_iff.1 hv).1
              have e1 : (len - 1) * P.cellsOf e + P.cellsOf e = len * P.cellsOf e := by
                rw [← Nat.succ_mul]; congr 1; omega
              omega
            have key : RepD w (allFast w) (.sl es) (.slice (some ⟨a.block, a.off, none⟩) es.length cap) := by
              refine .sl a.block a.off cap (P.cellsOf e) es (fun j => (c[a.off + j]?).getD undef) c tt fz (by omega) hlen hblk ?_ (fun j hj => ?_) (fun j d hj => ?_)
              · unfold allFast; rw [hblk, hes]; exact hbound
              · have : a.off + j < c.size := by rw [hes] at hj; omega
                rw [Array.getElem?_eq_getElem this]; rfl
              · have hfl : es.flatten.length = es.length * P.cellsOf e := flat_len es _ hlen
                have hjl : j < es.length * P.cellsOf e := by rw [← hfl]; exact (List.getElem?_eq_some_iff.1 hj).1
                have hi : j / P.cellsOf e < len := by rw [← hes]; exact (Nat.div_lt_iff_lt_mul hpos).2 hjl
                obtain ⟨x, v, d', hx, hd', hv, hr⟩ := hcell (j / P.cellsOf e) (j % P.cellsOf e) hi (Nat.mod_lt _ hpos)
                have hlt' : j / P.cellsOf e < es.length := by omega
                have hfg := flat_get es (P.cellsOf e) hlen (j / P.cellsOf e) (j % P.cellsOf e) hlt' (Nat.mod_lt _ hpos)
                have hj' : j / P.cellsOf e * P.cellsOf e + j % P.cellsOf e = j := by rw [Nat.mul_comm]; exact Nat.div_add_mod j _
                rw [hj', hj] at hfg
                rw [List.getElem?_eq_getElem hlt'] at hx
                cases hx
                rw [hd'] at hfg
                cases hfg
                rw [hj'] at hv
                rw [hv]
                exact hr
            rw [← hes0]
            refine RepL.one ?_ rfl
            have ha : a = ⟨a.block, a.off, none⟩ := by cases a; simp at hsp; simp [hsp]
            rw [ha, ← hes]
            exact key
      | struct fs =>
        simp only [Bool.and_eq_true] at hcl
        obtain ⟨htl, hfs⟩ := hcl
        obtain ⟨xs, m, hm, rfl, hlen, hxs, hfld⟩ := DataW.trod_struct hu h
        cases hm
        rw [← hlen] at htl
        obtain ⟨ds, h1, h2⟩ := trod_fields (w := w) (n := n) (cs := cs) 0 (Nat.zero_le _) htl fun f hf => by
          obtain ⟨i, hi⟩ := List.getElem?_of_mem hf
          have hi' : fs[i]? = some f := by simpa using hi
          have hg := hfld i f hi'
          have hlt : i < xs.length := by
            rw [hxs]; exact (Array.getElem?_eq_some_iff.1 hi').1
          rw [List.getElem?_eq_getElem hlt] at hg
          have hfL : f.type ∈ L := by
            have := List.all_eq_true.1 hfs f hf
            simpa using this
          exact trod_data hc n f.type _ _ hfL hg
        refine ⟨ds, by simp only [WT, hu]; exact h1, ?_⟩
        rw [List.drop_zero] at h2
        exact h2
      | _ => cases hcl

end
end Go.Ab
