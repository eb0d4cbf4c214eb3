/-
  SEVERAL TEXTS IN ONE (merged by program): contracts and models, each with its own heading.
-/
import Derived.Test.YtceaigchkgifgaaPartQpB
import Derived.Carry
import Derived.WideKeyArgs
import Derived.ProofKit
import Derived.OpenShut
import Derived.WalkKit
import Derived.Test.YtceaigchkgifgaaChecked
import Derived.Eval
import Derived.KernelRfl
set_option linter.unusedSimpArgs false
set_option linter.unusedVariables false
set_option maxRecDepth 4000
namespace Go.Ab
section
variable {P : Program} {S : Store}
def upCaps (n : Nat) (caps : List (Key × Nat)) : List (Key × Nat) := caps.map fun y => (upK n y.1, y.2)
theorem upCaps_nil {n : Nat} : upCaps n [] = [] := rfl
theorem upCaps_cons {n l j off : Nat} {caps : List (Key × Nat)} : upCaps n (((l, j), off) :: caps) = ((n + l, j), off) :: upCaps n caps := rfl
theorem upCaps_up {m n : Nat} {caps : List (Key × Nat)} : upCaps m (upCaps n caps) = upCaps (m + n) caps := by
  unfold upCaps
  rw [List.map_map]
  refine List.map_congr_left fun y _ => ?_
  simp only [Function.comp, upK, Prod.mk.injEq, and_true]
  omega
theorem refs_upCaps {n m g : Nat} {caps : List (Key × Nat)} : C.refs n (.fn g (upCaps (m + 1) caps)) = true := by
  simp only [C.refs, upCaps, List.all_map, List.all_eq_true]
  intro x _
  have h : 0 < m + 1 + x.1.1 := by omega
  simp [Function.comp, refK, upK, h]
theorem refs_upCaps1 {n : Nat} {caps : List (Key × Nat)} : ((upCaps 1 caps).all fun x => refK n x.fst) = true := refs_upCaps (m := 0) (g := 0)
theorem getO_app : ∀ (F S : Store) (l j : Nat), getO (F ++ S) (F.length + l, j) = getO S (l, j)
  | [], S, l, j => by simp
  | fr :: F, S, l, j => by
    rw [List.cons_append, List.length_cons, show F.length + 1 + l = (F.length + l) + 1 from by omega, getO_succ, getO_app F S l j]
theorem setO_app (x : Obj) : ∀ (F S : Store) (l j : Nat), setO (F ++ S) (F.length + l, j) x = F ++ setO S (l, j) x
  | [], S, l, j => by simp
  | fr :: F, S, l, j => by
    rw [List.cons_append, List.length_cons, show F.length + 1 + l = (F.length + l) + 1 from by omega, setO, setO_app x F S l j, List.cons_append]
theorem getO_app0 {F S : Store} {j : Nat} : getO (F ++ S) (F.length, j) = getO S (0, j) := getO_app F S 0 j
theorem setO_app0 {F S : Store} {j : Nat} {x : Obj} : setO (F ++ S) (F.length, j) x = F ++ setO S (0, j) x := setO_app x F S 0 j
attribute [go_sem] getO_app0 setO_app0 upCaps_nil upCaps_cons
def FPure (P : Program) (g : Nat) (caps : List (Key × Nat)) (S : Store) (xs : List V) (r : V) : Prop :=
  ∀ F : Store, ACall P g (xs ++ capV (upCaps F.length caps)) (F ++ S) (fun r' S' => r' = r ∧ S' = F ++ S)
theorem FPure.push {g : Nat} {caps : List (Key × Nat)} {xs : List V} {r : V} (h : FPure P g caps S xs r) (fr : List Obj) : FPure P g (upCaps 1 caps) (fr :: S) xs r := fun F => by
  have := h (F ++ [fr])
  rw [upCaps_up]
  simpa using this
theorem FPure.of_pure {g : Nat} {xs : List V} {r : V} (h : PCall P g xs r) : FPure P g [] S xs r := fun F => by
  have := h (F ++ S)
  simpa [upCaps, capV] using this
def FStep (P : Program) (g : Nat) (caps : List (Key × Nat)) {α X : Type} (st : α → Store) (I : Nat → α → Prop) (f : α → X → α) (xv : X → V) (ok : X → Prop) : Prop :=
  ∀ n a u, I (n + 1) a → ok u → I n (f a u) ∧ ∀ F : Store, ACall P g (xv u :: capV (upCaps F.length caps)) (F ++ st a) (fun r' S' => r' = .tup [] ∧ S' = F ++ st (f a u))
theorem FStep.push {g : Nat} {caps : List (Key × Nat)} {α X : Type} {st : α → Store} {I : Nat → α → Prop} {f : α → X → α} {xv : X → V} {ok : X → Prop} (h : FStep P g caps st I f xv ok) (fr : List Obj) :
    FStep P g (upCaps 1 caps) (fun a => fr :: st a) I f xv ok := fun n a u ha hu => ⟨(h n a u ha hu).1, fun F => by
  have := (h n a u ha hu).2 (F ++ [fr])
  rw [upCaps_up]
  simpa using this⟩
end
end Go.Ab

namespace Go.Ab
inductive D.Fit : D → Prop
  | b (x) : Fit (.b x)
  | i (k n) : Fit (.i k n)
  | s (l) (h : l.length ≤ 9223372036854775807) : Fit (.s l)
  | sl (es) (h : es.length ≤ 9223372036854775807) (hh : ∀ e ∈ es, ∀ d ∈ e, Fit d) : Fit (.sl es)
  | o (v) : Fit (.o v)
def FitL (cs : List D) : Prop := ∀ d ∈ cs, d.Fit
theorem fitL_nil : FitL [] := fun d h => by cases h
theorem fitL_cons {d : D} {ds : List D} : FitL (d :: ds) ↔ d.Fit ∧ FitL ds := by simp [FitL]
theorem fitL_append {a b : List D} : FitL (a ++ b) ↔ FitL a ∧ FitL b := by
  simp only [FitL, List.mem_append]
  exact ⟨fun h => ⟨fun d hd => h d (.inl hd), fun d hd => h d (.inr hd)⟩, fun h d hd => hd.elim (h.1 d) (h.2 d)⟩
def WTF (P : Program) (W : TypeId → List D → Prop) : List Field → List D → Prop
  | [], ds => ds = []
  | f :: fs, ds => ∃ a b, ds = a ++ b ∧ a.length = P.cellsOf f.type ∧ W f.type a ∧ WTF P W fs b
def WT (P : Program) : Nat → TypeId → List D → Prop
  | 0, _, _ => False
  | n + 1, t, ds =>
    match P.underlying t with
    | some .bool => ∃ b, ds = [.b b]
    | some (.int k) => ∃ x, ds = [.i k x] ∧ (Lit.int k x).wf = true
    | some .string => ∃ l, ds = [.s l] ∧ l.length ≤ 9223372036854775807
    | some (.slice e) => ∃ es, ds = [.sl es] ∧ es.length ≤ 9223372036854775807 ∧ ∀ x ∈ es, x.length = P.cellsOf e ∧ WT P n e x
    | some (.struct fs) => WTF P (WT P n) fs.toList ds
    | _ => False
def tiles (P : Program) : List Field → Nat → Nat → Bool
  | [], a, b => a == b
  | f :: fs, a, b => f.offset == a && tiles P fs (a + P.cellsOf f.type) b
def closedB (P : Program) (L : List TypeId) : Bool :=
  L.all fun t => match P.underlying t with
    | some .bool | some (.int _) | some .string => P.cellsOf t == 1
    | some (.slice e) => P.cellsOf t == 1 && L.contains e && decide (0 < P.cellsOf e)
    | some (.struct fs) => tiles P fs.toList 0 (P.cellsOf t) && fs.toList.all fun f => L.contains f.type
    | _ => false
def allFast (w : World) (b : Nat) : Nat := match w.heap[b]? with
  | some (.cells c _ _) => c.size
  | _ => 0
def RepL (w : World) (ds : List D) (vs : List Value) : Prop := ds.length = vs.length ∧ ∀ (j : Nat) (d : D), ds[j]? = some d → ∃ v, vs[j]? = some v ∧ RepD w (allFast w) d v ∧ v.oneCell' = true
theorem RepL.append {w : World} {a b : List D} {xs ys : List Value} (h1 : RepL w a xs) (h2 : RepL w b ys) : RepL w (a ++ b) (xs ++ ys) := by
  refine ⟨by simp [h1.1, h2.1], fun j d hj => ?_⟩
  rw [List.getElem?_append] at hj ⊢
  have := h1.1
  split at hj
  · rw [if_pos (by omega)]; exact h1.2 j d hj
  · rw [if_neg (by omega), ← h1.1]; exact h2.2 _ d hj
theorem RepL.one {w : World} {d : D} {v : Value} (h : RepD w (allFast w) d v) (h1 : v.oneCell' = true) : RepL w [d] [v] := by
  refine ⟨rfl, fun j x hj => ?_⟩
  cases j with
  | zero => cases hj; exact ⟨v, rfl, h, h1⟩
  | succ j => simp at hj
theorem mapM_all {α β : Type} (f : α → Option β) : ∀ (l : List α) (ys : List β), l.mapM f = some ys → ys.length = l.length ∧ ∀ (j : Nat) (x : α), l[j]? = some x → ∃ y, f x = some y ∧ ys[j]? = some y
  | [], ys, h => by
    simp at h; subst h
    exact ⟨rfl, fun j x hj => by simp at hj⟩
  | a :: l, ys, h => by
    rw [List.mapM_cons] at h
    cases ha : f a with
    | none => rw [ha] at h; cases h
    | some y =>
      cases hl : l.mapM f with
      | none => rw [ha, hl] at h; cases h
      | some zs =>
        rw [ha, hl] at h
        cases h
        obtain ⟨h1, h2⟩ := mapM_all f l zs hl
        refine ⟨by simp [h1], fun j x hj => ?_⟩
        cases j with
        | zero => cases hj; exact ⟨y, ha, rfl⟩
        | succ j => exact h2 j x hj
section
variable {H : Type} {enc : TypeId × Value → H} {P : Program} {w : World} {L : List TypeId}
theorem cells_spot {a : Addr} {n : Nat} {vs : List Value} (hn : 0 < n) (h : w.cells? 0 a n = some vs) : a.spot = none ∧ vs.length = n ∧ ∃ c t fz, w.heap[a.block]? = some (.cells c t fz) ∧ ∀ j, j < n → ∃ v, vs[j]? = some v ∧ c[a.off + j]? = some v := by
  unfold World.cells? at h
  rw [if_pos (Nat.zero_le _)] at h
  obtain ⟨h1, h2⟩ := mapM_all _ _ _ h
  rw [List.length_range] at h1
  obtain ⟨v0, hv0, _⟩ := h2 0 0 (by simp [hn])
  have hadd0 : a.add 0 = a := by simp [Addr.add]
  rw [hadd0] at hv0
  unfold World.cell? at hv0
  cases hb : w.heap[a.block]? with
  | none => rw [hb] at hv0; cases hv0
  | some ob =>
    rw [hb] at hv0
    cases ob with
    | map _ _ => cases hv0
    | cells c t fz =>
      have hs : a.spot = none := by
        cases hsp : a.spot with
        | none => rfl
        | some x => rw [hsp] at hv0; simp at hv0
      refine ⟨hs, h1, c, t, fz, rfl, fun j hj => ?_⟩
      obtain ⟨v, hv, hvs⟩ := h2 j j (by simp [hj])
      refine ⟨v, hvs, ?_⟩
      unfold World.cell? at hv
      by_cases hj0 : j = 0
      · subst hj0
        rw [hadd0, hb] at hv
        simp [hs] at hv
        simpa using hv
      · simp [Addr.add, hj0, hb] at hv
        exact hv
    | _ => cases hv0
theorem choose_list {α : Type} {p : Nat → α → Prop} : ∀ n : Nat, (∀ i, i < n → ∃ x, p i x) → ∃ l : List α, l.length = n ∧ ∀ (i : Nat) (x : α), l[i]? = some x → p i x
  | 0, _ => ⟨[], rfl, fun i x h => by simp at h⟩
  | n + 1, h => by
    obtain ⟨l, hl, hp⟩ := choose_list n fun i hi => h i (by omega)
    obtain ⟨x, hx⟩ := h n (by omega)
    refine ⟨l ++ [x], by simp [hl], fun i y hy => ?_⟩
    rw [List.getElem?_append] at hy
    split at hy
    · exact hp i y hy
    · rename_i hlt
      have hi : i - l.length < 1 := by
        have := (List.getElem?_eq_some_iff.1 hy).1
        simpa using this
      have : i = n := by omega
      subst this
      rw [show i - l.length = 0 from by omega] at hy
      cases hy
      exact hx
theorem closed_at (hc : closedB P L = true) {t : TypeId} (ht : t ∈ L) : (match P.underlying t with
    | some .bool | some (.int _) | some .string => P.cellsOf t == 1
    | some (.slice e) => P.cellsOf t == 1 && L.contains e && decide (0 < P.cellsOf e)
    | some (.struct fs) => tiles P fs.toList 0 (P.cellsOf t) && fs.toList.all fun f => L.contains f.type
    | _ => false) = true := List.all_eq_true.1 hc t ht
theorem trod_fields {n : Nat} {fs : List Field} {cs : List Value} : ∀ (off : Nat), off ≤ cs.length → tiles P fs off cs.length = true →
    (∀ f ∈ fs, ∃ ds, WT P n f.type ds ∧ RepL w ds ((cs.drop f.offset).take (P.cellsOf f.type))) → ∃ ds, WTF P (WT P n) fs ds ∧ RepL w ds (cs.drop off) := by
  induction fs with
  | nil =>
    intro off _ ht _
    have : off = cs.length := by simpa [tiles] using ht
    exact ⟨[], rfl, by simp [this, RepL]⟩
  | cons f fs ih =>
    intro off ho ht h
    simp only [tiles, Bool.and_eq_true, beq_iff_eq] at ht
    obtain ⟨a, ha1, ha2⟩ := h f (by simp)
    have hle : ∀ (fs : List Field) (o : Nat), tiles P fs o cs.length = true → o ≤ cs.length := by
      intro fs
      induction fs with
      | nil => intro o h; have : o = cs.length := by simpa [tiles] using h
               omega
      | cons g gs ih => intro o h; simp only [tiles, Bool.and_eq_true] at h; have := ih _ h.2; omega
    have hle' := hle fs _ ht.2
    obtain ⟨b, hb1, hb2⟩ := ih (off + P.cellsOf f.type) hle' ht.2 fun g hg => h g (by simp [hg])
    rw [ht.1] at ha2
    refine ⟨a ++ b, ⟨a, b, rfl, ?_, ha1, hb1⟩, ?_⟩
    · rw [ha2.1]; simp; omega
    · have := ha2.append hb2
      rw [← List.drop_drop, List.take_append_drop] at this
      exact this
theorem trod_data (hc : closedB P L = true) {sp : Nat → Bool} {held : Bool} : ∀ (fuel : Nat) (t : TypeId) (cs : List Value) (x : DataW H × List MemPlace), t ∈ L →
    DataW.trod enc P w 0 sp held fuel t cs = some x → ∃ ds, WT P fuel t ds ∧ RepL w ds cs
  | 0, t, cs, x, _, h => by simp [DataW.trod] at h
  | n + 1, t, cs, x, ht, h => by
    have hcl := closed_at hc ht
    cases hu : P.underlying t with
    | none => rw [hu] at hcl; cases hcl
    | some u =>
      rw [hu] at hcl
      cases u with
      | bool =>
        obtain ⟨b, rfl, _⟩ := DataW.trod_bool hu h
        exact ⟨[.b b], by simp only [WT, hu]; exact ⟨b, rfl⟩, RepL.one (.b b) rfl⟩
      | int k =>
        obtain ⟨m, rfl, _, hw⟩ := DataW.trod_int hu h
        exact ⟨[.i k m], by simp only [WT, hu]; exact ⟨m, rfl, hw⟩, RepL.one (.i k m) rfl⟩
      | string =>
        obtain ⟨s, rfl, _, hs⟩ := DataW.trod_string hu h
        have hl : s.data.toList.length ≤ 9223372036854775807 := by
          have h1 : s.data.toList.length = s.size := by rw [Array.length_toList]; rfl
          rw [h1]; exact hs
        refine ⟨[.s s.data.toList], ?_, RepL.one ?_ rfl⟩
        · simp only [WT, hu]; exact ⟨_, rfl, hl⟩
        · exact .s s.data.toList
      | slice e =>
        simp only [Bool.and_eq_true, beq_iff_eq, decide_eq_true_eq, List.contains_iff_mem] at hcl
        obtain ⟨⟨h1, he⟩, hpos⟩ := hcl
        rcases DataW.trod_slice hu h with ⟨rfl, _⟩ | ⟨a, len, cap, elems, rest, m, hm, rfl, _, _, hlc, hcm, hel, hget, _, _⟩
        · exact ⟨[.sl []], by simp only [WT, hu]; exact ⟨[], rfl, by simp, fun x hx => by cases hx⟩, RepL.one (.nil _ _) rfl⟩
        · cases hm
          have hall : ∀ i, i < len → ∃ ds : List D, ds.length = P.cellsOf e ∧ WT P n e ds ∧ ∃ vs, w.cells? 0 (a.add (i * P.cellsOf e)) (P.cellsOf e) = some vs ∧ RepL w ds vs := by
            intro i hi
            have hg := hget i hi
            cases hcs : w.cells? 0 (a.add (i * P.cellsOf e)) (P.cellsOf e) with
            | none =>
              rw [hcs] at hg
              have : i < elems.length := by omega
              rw [List.getElem?_eq_getElem this] at hg
              cases hg
            | some vs =>
              rw [hcs] at hg
              have hlt : i < elems.length := by omega
              rw [List.getElem?_eq_getElem hlt] at hg
              obtain ⟨ds, hd1, hd2⟩ := trod_data hc n e vs _ he hg
              have hv := (cells_spot hpos hcs).2.1
              exact ⟨ds, by rw [hd2.1, hv], hd1, vs, rfl, hd2⟩
          obtain ⟨es, hes, hp⟩ := choose_list len hall
          have hwt : WT P (n + 1) t [.sl es] := by
            simp only [WT, hu]
            refine ⟨es, rfl, by have : cap ≤ 9223372036854775807 := hcm
                                omega, fun x hx => ?_⟩
            obtain ⟨i, hi⟩ := List.getElem?_of_mem hx
            exact ⟨(hp i x hi).1, (hp i x hi).2.1⟩
          refine ⟨[.sl es], hwt, ?_⟩
          cases hes0 : es with
          | nil =>
            have h0 : len = 0 := by rw [← hes, hes0]; rfl
            subst h0
            exact RepL.one (.nil _ _) rfl
          | cons e0 es0 =>
            have hlpos : 0 < len := by rw [← hes, hes0]; simp
            have hlen : ∀ x ∈ es, x.length = P.cellsOf e := fun x hx => by
              obtain ⟨i, hi⟩ := List.getElem?_of_mem hx
              exact (hp i x hi).1
            obtain ⟨ds0, _, _, vs0, hvs0, _⟩ := hall 0 hlpos
            have hadd0 : a.add (0 * P.cellsOf e) = a := by simp [Addr.add]
            rw [hadd0] at hvs0
            obtain ⟨hsp, _, c, tt, fz, hblk, _⟩ := cells_spot hpos hvs0
            have hcell : ∀ i r, i < len → r < P.cellsOf e → ∃ (x : List D) (v : Value) (d : D), es[i]? = some x ∧ x[r]? = some d ∧ c[a.off + (i * P.cellsOf e + r)]? = some v ∧ RepD w (allFast w) d v := by
              intro i r hi hr
              have hlt : i < es.length := by omega
              obtain ⟨hx1, hx2, vs, hvs, hrep⟩ := hp i es[i] (List.getElem?_eq_getElem hlt)
              obtain ⟨_, hvl, c', t', fz', hblk', hcc⟩ := cells_spot hpos hvs
              have hb' : (a.add (i * P.cellsOf e)).block = a.block := by unfold Addr.add; split <;> rfl
              have ho' : (a.add (i * P.cellsOf e)).off = a.off + i * P.cellsOf e := by unfold Addr.add; split <;> simp_all
              rw [hb', hblk] at hblk'
              cases hblk'
              obtain ⟨v, hv1, hv2⟩ := hcc r hr
              have hdr : r < es[i].length := by omega
              obtain ⟨v', hv', hd', _⟩ := hrep.2 r es[i][r] (List.getElem?_eq_getElem hdr)
              rw [hv1] at hv'; cases hv'
              refine ⟨es[i], v, es[i][r], List.getElem?_eq_getElem hlt, List.getElem?_eq_getElem hdr, ?_, hd'⟩
              rw [ho'] at hv2
              rw [← Nat.add_assoc]; exact hv2
            have hbound : a.off + len * P.cellsOf e ≤ c.size := by
              obtain ⟨_, v, _, _, _, hv, _⟩ := hcell (len - 1) (P.cellsOf e - 1) (by omega) (by omega)
              have := (Array.getElem?_eq_some_iff.1 hv).1
              have e1 : (len - 1) * P.cellsOf e + P.cellsOf e = len * P.cellsOf e := by
                rw [← Nat.succ_mul]; congr 1; omega
              omega
            have key : RepD w (allFast w) (.sl es) (.slice (some ⟨a.block, a.off, none⟩) es.length cap) := by
              refine .sl a.block a.off cap (P.cellsOf e) es (fun j => (c[a.off + j]?).getD undef) c tt fz (by omega) hlen hblk ?_ (fun j hj => ?_) (fun j d hj => ?_)
              · unfold allFast; rw [hblk, hes]; exact hbound
              · have : a.off + j < c.size := by rw [hes] at hj; omega
                rw [Array.getElem?_eq_getElem this]; rfl
              · have hfl : es.flatten.length = es.length * P.cellsOf e := flat_len es _ hlen
                have hjl : j < es.length * P.cellsOf e := by rw [← hfl]; exact (List.getElem?_eq_some_iff.1 hj).1
                have hi : j / P.cellsOf e < len := by rw [← hes]; exact (Nat.div_lt_iff_lt_mul hpos).2 hjl
                obtain ⟨x, v, d', hx, hd', hv, hr⟩ := hcell (j / P.cellsOf e) (j % P.cellsOf e) hi (Nat.mod_lt _ hpos)
                have hlt' : j / P.cellsOf e < es.length := by omega
                have hfg := flat_get es (P.cellsOf e) hlen (j / P.cellsOf e) (j % P.cellsOf e) hlt' (Nat.mod_lt _ hpos)
                have hj' : j / P.cellsOf e * P.cellsOf e + j % P.cellsOf e = j := by rw [Nat.mul_comm]; exact Nat.div_add_mod j _
                rw [hj', hj] at hfg
                rw [List.getElem?_eq_getElem hlt'] at hx
                cases hx
                rw [hd'] at hfg
                cases hfg
                rw [hj'] at hv
                rw [hv]
                exact hr
            rw [← hes0]
            refine RepL.one ?_ rfl
            have ha : a = ⟨a.block, a.off, none⟩ := by cases a; simp at hsp; simp [hsp]
            rw [ha, ← hes]
            exact key
      | struct fs =>
        simp only [Bool.and_eq_true] at hcl
        obtain ⟨htl, hfs⟩ := hcl
        obtain ⟨xs, m, hm, rfl, hlen, hxs, hfld⟩ := DataW.trod_struct hu h
        cases hm
        rw [← hlen] at htl
        obtain ⟨ds, h1, h2⟩ := trod_fields (w := w) (n := n) (cs := cs) 0 (Nat.zero_le _) htl fun f hf => by
          obtain ⟨i, hi⟩ := List.getElem?_of_mem hf
          have hi' : fs[i]? = some f := by simpa using hi
          have hg := hfld i f hi'
          have hlt : i < xs.length := by
            rw [hxs]; exact (Array.getElem?_eq_some_iff.1 hi').1
          rw [List.getElem?_eq_getElem hlt] at hg
          have hfL : f.type ∈ L := by
            have := List.all_eq_true.1 hfs f hf
            simpa using this
          exact trod_data hc n f.type _ _ hfL hg
        refine ⟨ds, by simp only [WT, hu]; exact h1, ?_⟩
        rw [List.drop_zero] at h2
        exact h2
      | _ => cases hcl
end
end Go.Ab

namespace Go.Ab
open Go.ChangeShapes Go.WideShapes Go.ChangeAt Go.RowKit
section
variable {H : Type} {enc : TypeId × Value → H} {P : Program} {W W' : World} {L : List TypeId} {t : TypeId} {v : Value} {base : Nat}
theorem arg_cell {d : D} (hv : v.cells.toList = [v]) (hL : RepL W [d] v.cells.toList) : RepV W (allFast W) [] [] (.c (.d d)) v := by
  obtain ⟨u, h1, h2, h3⟩ := hL.2 0 d rfl
  rw [hv] at h1
  cases h1
  exact ⟨h2, h3⟩
theorem arg_slice {e : TypeId} {d : D} (ht : P.underlying t = some (.slice e)) (hok : Value.okWide P W .any base t v) (hL : RepL W [d] v.cells.toList) : RepV W (allFast W) [] [] (.c (.d d)) v := by
  obtain ⟨a, n, m, rfl⟩ := okWide_slice ht hok
  exact arg_cell rfl hL
theorem repVs_nil : RepVs W (allFast W) [] [] [] [] := ⟨rfl, fun j x h => by simp at h⟩
theorem repVs_cons {x : V} {xs : List V} {vs : List Value} (h1 : RepV W (allFast W) [] [] x v) (h2 : RepVs W (allFast W) [] [] xs vs) : RepVs W (allFast W) [] [] (x :: xs) (v :: vs) := by
  refine ⟨by simp [h2.1], fun j y hj => ?_⟩
  cases j with
  | zero => cases hj; exact ⟨v, rfl, h1⟩
  | succ j => exact h2.2 j y hj
theorem repS_nil (W : World) (hg : Glob W (allFast W)) : RepS W (allFast W) [] [] where
  glob := hg
  obj := fun k o h => by rw [getO_nil] at h; cases h
  apart := fun k k' o o' h h' b h1 => by rw [getO_nil] at h1; cases h1
  shape := ⟨rfl, fun l fr h => by simp at h⟩
  live := fun b => by
    by_cases h : b < W.heap.size
    · exact .inl h
    · right
      unfold allFast
      rw [Array.getElem?_eq_none (by omega)]
theorem no_own {b : Nat} : ¬ Own [] [] b := fun ⟨k, o, h, h1, _⟩ => by rw [getO_nil] at h1; cases h1
theorem trodAll_stays (hl : laidOutB P = true) (hsame : ∀ b, b < W.heap.size → W'.heap[b]? = W.heap[b]?) (sp : Nat → Bool) : ∀ (ts : List TypeId) (vs : List Value) (ds : List (DataW H)) (ps : List MemPlace),
    (ts.all fun t => P.readableRec t && decide (t < P.types.size)) = true → (∀ p ∈ ps, p.block < W.heap.size ∧ sp p.block = true) →
      DataW.TrodAll enc P W 0 (fun _ => true) true ts vs ds ps → DataW.TrodAll enc P W' 0 sp true ts vs ds ps
  | [], [], [], ps, _, _, h => h
  | t :: ts, v :: vs, d :: ds, ps, hr, hlt, h => by
    simp only [List.all_cons, Bool.and_eq_true, decide_eq_true_eq] at hr
    obtain ⟨p, q, h1, h2, rfl⟩ := h
    refine ⟨p, q, WideElems.Trod_stays hl hr.1.1 hr.1.2 h1 (fun x hx => ?_) (fun x hx => (hlt x (by simp [hx])).2), trodAll_stays hl hsame sp ts vs ds q hr.2 (fun x hx => hlt x (by simp [hx])) h2, rfl⟩
    have hb := (hlt x (by simp [hx])).1
    cases x with
    | cell b o => exact World.cell?_of_block (w := W) (hsame b hb)
    | map b => exact hsame b hb
  | [], [], _ :: _, ps, _, _, h => h.elim
  | [], _ :: _, _, ps, _, _, h => h.elim
  | _ :: _, [], _, ps, _, _, h => h.elim
  | _ :: _, _ :: _, [], ps, _, _, h => h.elim
theorem law_post {f : FuncId} {fn : Func} {s : ChangeSpec} {args : Array Value} {ds gs : List (DataW H)} {before : List MemPlace} {vs : List V} {tb : TypeId} (hl : laidOutB P = true)
    (hr : (fn.params.toList.all fun t => P.readableRec t && decide (t < P.types.size)) = true) (hvars : s.vars = []) (hres : fn.resultTypes = #[tb]) (htb : P.underlying tb = some .bool)
    (hs1 : (s.fn H (ds ++ gs)).results = [.lit (.bool true)]) (hs2 : (s.fn H (ds ++ gs)).args = ds) (hs3 : (s.fn H (ds ++ gs)).vars = [])
    (hW : DataW.Whole enc P fn.params.toList s.vars false W args.toList ds gs before) (hargs : RepVs W (allFast W) [] [] vs args.toList)
    (hcall : ACall P f vs [] fun r _ => r = .c (.d (.b true))) (hglob : Glob W (allFast W) := by (intro g p hm; exact absurd hm List.not_mem_nil)) :
    Calls P f args W fun e W' => ∃ v, e = .returned v ∧ s.post enc P fn false true false false W args v W' := by
  have hc := hcall.2 W (allFast W) [] args.toList (repS_nil W hglob) hargs
  have e1 : args.toList.toArray = args := by simp
  rw [e1] at hc
  refine hc.mono fun e W' ⟨v, r, S', σ', β', he, hS', hk, hst, hv, hp⟩ => ?_
  subst hp
  obtain ⟨hv, _⟩ := hv
  cases hv
  refine ⟨_, he, ?_⟩
  have hsame : ∀ b, b < W.heap.size → W'.heap[b]? = W.heap[b]? := fun b hb => (hst.far b hb no_own).1
  have hlt := fun p hp => hW.lt p hp
  have hW0 := hW
  obtain ⟨pa, q, hA, hV, rfl, hz, hn⟩ := hW
  rw [hvars] at hV
  have hq : gs = [] ∧ q = [] := by
    obtain ⟨h1, h2⟩ := trodVars_none hV
    exact ⟨h1, h2⟩
  obtain ⟨rfl, rfl⟩ := hq
  rw [List.append_nil] at *
  refine ⟨ds, [], pa, [], pa, [], ?_, ?_, ?_, ?_, ?_, fun h => by cases h⟩
  · simpa using hW0
  · rw [List.append_nil, hs1, hres]
    exact trodAll_cons_mk (shut_bool htb _) trodAll_mk0
  · rw [List.append_nil, hs2]
    exact trodAll_stays hl hsame _ _ _ _ _ hr (fun p hp => ⟨hlt p hp, by simpa using hlt p hp⟩) hA
  · rw [List.append_nil, hs3, hvars]
    rfl
  · refine ⟨hst.os, hst.output, fun i hi => ?_⟩
    rw [hsame i hi]
    split <;> simp_all
end
end Go.Ab

namespace Go.Ab
mutual
def D.sz : D → Nat
  | .s l => l.length
  | .sl es => es.length + szRows es
  | .b _ => 0
  | .i _ _ => 0
  | .o _ => 0
  | .ol _ es => es.length + szRows es
def szRow : List D → Nat
  | [] => 0
  | d :: ds => d.sz + szRow ds
def szRows : List (List D) → Nat
  | [] => 0
  | r :: rs => szRow r + szRows rs
end
theorem szRow_append : ∀ (a b : List D), szRow (a ++ b) = szRow a + szRow b
  | [], b => by simp [szRow]
  | d :: ds, b => by rw [List.cons_append, szRow, szRow_append ds b, szRow]; omega
def sub1 (left : Int) (n : Nat) : Int := if left - n < 0 then -1 else left - n
theorem sub1_nn {l : Int} {a : Nat} (h : ¬ sub1 l a < 0) : sub1 l a = l - a ∧ 0 ≤ l - a := by
  unfold sub1 at *
  split at h
  · omega
  · rename_i h'; exact ⟨if_neg h', by omega⟩
theorem sub1_neg {l : Int} {a : Nat} (h : sub1 l a < 0) : l - a < 0 := by
  unfold sub1 at *
  split at h <;> omega
theorem sub1_no {l : Int} {a : Nat} (h : l - a < 0) : sub1 l a = -1 := if_pos h
theorem sub1_yes {l : Int} {a : Nat} (h : 0 ≤ l - a) : sub1 l a = l - a := if_neg (by omega)
theorem int_eq {k : IntKind} {a b : Int} (h : a = b) : V.c (.d (.i k a)) = V.c (.d (.i k b)) := by rw [h]
theorem bool_eq {a b : Bool} (h : a = b) : V.c (.d (.b a)) = V.c (.d (.b b)) := by rw [h]
noncomputable def dec (p : Prop) : Bool := @decide p (Classical.propDecidable p)
theorem dec_true {p : Prop} (h : p) : dec p = true := by simp [dec, h]
theorem dec_false {p : Prop} (h : ¬ p) : dec p = false := by simp [dec, h]
theorem of_dec {p : Prop} (h : dec p = true) : p := by simpa [dec] using h
theorem of_dec_false {p : Prop} (h : dec p = false) : ¬ p := by simpa [dec] using h
theorem dec_eq_true {p : Prop} : (dec p = true) = p := by simp [dec]
theorem dec_eq_false {p : Prop} : (dec p = false) = ¬ p := by simp [dec]
attribute [wf_preprocess] dec_eq_true dec_eq_false
theorem dec_congr {p q : Prop} (h : p ↔ q) : dec p = dec q := by rw [propext h]
theorem dec_True : dec True = true := dec_true trivial
theorem dec_False : dec False = false := dec_false id
attribute [go_sem] dec_True dec_False
theorem decide_dec {p : Prop} [Decidable p] : decide p = dec p := by by_cases h : p <;> simp [dec, h]
theorem szRows_mem {r : List D} : ∀ {rs : List (List D)}, r ∈ rs → szRow r ≤ szRows rs
  | a :: rs, h => by
    rw [szRows]
    rcases List.mem_cons.1 h with rfl | h
    · omega
    · have := szRows_mem h; omega
def Filled (z i : Nat) (R rows : List (List D)) : Prop := R.length = rows.length ∧ (∀ r ∈ R, r.length = z) ∧ ∀ j, j < i → R[j]? = rows[j]?
theorem Filled.start {z : Nat} {rows : List (List D)} {zero : List D} {n : Nat} (hn : n = rows.length) (h : zero.length = z) : Filled z 0 (List.replicate n zero) rows := by
  subst hn
  exact ⟨by simp, fun r hr => by rw [List.eq_of_mem_replicate hr]; exact h, fun j h => by omega⟩
theorem Filled.step {z i : Nat} {R rows : List (List D)} {row : List D} (h : Filled z i R rows) (hi : rows[i]? = some row) (hr : row.length = z) : Filled z (i + 1) (R.set i (spliceD (R.getD i []) 0 row)) rows := by
  obtain ⟨h1, h2, h3⟩ := h
  have hlt : i < rows.length := (List.getElem?_eq_some_iff.1 hi).1
  have hs : spliceD (R.getD i []) 0 row = row := by
    have hm : R.getD i [] ∈ R := by
      rw [List.getD_eq_getElem?_getD, List.getElem?_eq_getElem (by omega)]
      exact List.getElem_mem _
    have := h2 _ hm
    unfold spliceD
    rw [List.take_zero, List.nil_append, Nat.zero_add, hr, List.drop_eq_nil_of_le (by omega), List.append_nil]
  rw [hs]
  refine ⟨by simpa using h1, fun r hr' => ?_, fun j hj => ?_⟩
  · rcases List.mem_or_eq_of_mem_set hr' with h | h
    · exact h2 r h
    · rw [h]; exact hr
  · by_cases e : j = i
    · subst e
      rw [hi, List.getElem?_set_self (by omega)]
    · rw [List.getElem?_set_ne (by omega)]
      exact h3 j (by omega)
theorem Filled.done {z i : Nat} {R rows : List (List D)} (h : Filled z i R rows) (hi : rows.length ≤ i) : R = rows := by
  obtain ⟨h1, h2, h3⟩ := h
  refine List.ext_getElem? fun j => ?_
  by_cases hj : j < i
  · exact h3 j hj
  · rw [List.getElem?_eq_none (by omega), List.getElem?_eq_none (by omega)]
end Go.Ab

namespace Go.Ab
def encS (s : List UInt8) : List D := [.s s]
def encI (n : Int) : List D := [.i .i64 n]
inductive MType where
  | mk (fKind : Int) (fName : List UInt8) (fArgs : List MType)
def MType.fKind : MType → Int | .mk x _ _ => x
def MType.fName : MType → List UInt8 | .mk _ x _ => x
def MType.fArgs : MType → List MType | .mk _ _ x => x
theorem MType.eta (x : MType) : MType.mk x.fKind x.fName x.fArgs = x := by cases x; rfl
theorem MType.ext {x y : MType} (h0 : x.fKind = y.fKind) (h1 : x.fName = y.fName) (h2 : x.fArgs = y.fArgs) : x = y := by
  rw [← MType.eta x, ← MType.eta y, h0, h1, h2]
mutual
def MType.enc : MType → List D
  | .mk a0 a1 a2 => [.i .i64 a0, .s a1, .sl (MType.encs a2)]
def MType.encs : List MType → List (List D)
  | [] => []
  | x :: xs => x.enc :: MType.encs xs
end
theorem MType.encs_map : ∀ l, MType.encs l = l.map MType.enc
  | [] => rfl
  | x :: xs => by rw [MType.encs, List.map_cons, MType.encs_map xs]
theorem MType.enc_eq (x : MType) : x.enc = [.i .i64 x.fKind, .s x.fName, .sl (x.fArgs.map MType.enc)] := by
  cases x; simp only [MType.enc, MType.encs_map, MType.fKind, MType.fName, MType.fArgs]
abbrev MType.v (x : MType) : V := .agg [.d (.i .i64 x.fKind), .d (.s x.fName), .d (.sl (x.fArgs.map MType.enc))]
theorem MType.v_eq (x : MType) : .agg (x.enc.map .d) = x.v := by
  simp only [MType.enc_eq, List.map_cons, List.map_nil, List.cons_append, List.nil_append, List.map_append]
theorem MType.enc_length (x : MType) : x.enc.length = 3 := by
  simp only [MType.enc_eq, List.length_append, List.length_cons, List.length_nil]
def MType.sz (x : MType) : Nat := szRow x.enc
theorem MType.sz_def (x : MType) : szRow x.enc = x.sz := rfl
theorem MType.lt_Args (x : MType) : SizeOf.sizeOf x.fArgs < SizeOf.sizeOf x := by cases x; simp [MType.fArgs]; omega
structure MBinding where
  fVar : List UInt8
  fType : MType
def MBinding.enc (x : MBinding) : List D := [.s x.fVar] ++ (x.fType.enc)
theorem MBinding.enc_eq (x : MBinding) : x.enc = [.s x.fVar] ++ (x.fType.enc) := rfl
theorem MBinding.eta (x : MBinding) : MBinding.mk x.fVar x.fType = x := rfl
theorem MBinding.ext' {x y : MBinding} (h0 : x.fVar = y.fVar) (h1 : x.fType = y.fType) : x = y := by
  cases x; cases y; simp_all
abbrev MBinding.v (x : MBinding) : V := .agg [.d (.s x.fVar), .d (.i .i64 x.fType.fKind), .d (.s x.fType.fName), .d (.sl (x.fType.fArgs.map MType.enc))]
theorem MBinding.v_eq (x : MBinding) : .agg (x.enc.map .d) = x.v := by
  simp only [MBinding.enc_eq, MType.enc_eq, List.map_cons, List.map_nil, List.cons_append, List.nil_append, List.map_append]
theorem MBinding.enc_length (x : MBinding) : x.enc.length = 4 := by
  simp only [MBinding.enc_eq, MType.enc_length, List.length_append, List.length_cons, List.length_nil]
def MBinding.sz (x : MBinding) : Nat := szRow x.enc
theorem MBinding.sz_def (x : MBinding) : szRow x.enc = x.sz := rfl
structure MBound where
  fTrait : List UInt8
  fType : MType
def MBound.enc (x : MBound) : List D := [.s x.fTrait] ++ (x.fType.enc)
theorem MBound.enc_eq (x : MBound) : x.enc = [.s x.fTrait] ++ (x.fType.enc) := rfl
theorem MBound.eta (x : MBound) : MBound.mk x.fTrait x.fType = x := rfl
theorem MBound.ext' {x y : MBound} (h0 : x.fTrait = y.fTrait) (h1 : x.fType = y.fType) : x = y := by
  cases x; cases y; simp_all
abbrev MBound.v (x : MBound) : V := .agg [.d (.s x.fTrait), .d (.i .i64 x.fType.fKind), .d (.s x.fType.fName), .d (.sl (x.fType.fArgs.map MType.enc))]
theorem MBound.v_eq (x : MBound) : .agg (x.enc.map .d) = x.v := by
  simp only [MBound.enc_eq, MType.enc_eq, List.map_cons, List.map_nil, List.cons_append, List.nil_append, List.map_append]
theorem MBound.enc_length (x : MBound) : x.enc.length = 4 := by
  simp only [MBound.enc_eq, MType.enc_length, List.length_append, List.length_cons, List.length_nil]
def MBound.sz (x : MBound) : Nat := szRow x.enc
theorem MBound.sz_def (x : MBound) : szRow x.enc = x.sz := rfl
mutual
inductive MExpr where
  | mk (fKind : Int) (fTrait : List UInt8) (fName : List UInt8) (fN : Int) (fType : MType) (fArgs : List MExpr) (fArms : List MArm)
inductive MArm where
  | mk (fConstructor : List UInt8) (fVars : List (List UInt8)) (fBody : MExpr)
end
def MExpr.fKind : MExpr → Int | .mk x _ _ _ _ _ _ => x
def MExpr.fTrait : MExpr → List UInt8 | .mk _ x _ _ _ _ _ => x
def MExpr.fName : MExpr → List UInt8 | .mk _ _ x _ _ _ _ => x
def MExpr.fN : MExpr → Int | .mk _ _ _ x _ _ _ => x
def MExpr.fType : MExpr → MType | .mk _ _ _ _ x _ _ => x
def MExpr.fArgs : MExpr → List MExpr | .mk _ _ _ _ _ x _ => x
def MExpr.fArms : MExpr → List MArm | .mk _ _ _ _ _ _ x => x
theorem MExpr.eta (x : MExpr) : MExpr.mk x.fKind x.fTrait x.fName x.fN x.fType x.fArgs x.fArms = x := by cases x; rfl
theorem MExpr.ext {x y : MExpr} (h0 : x.fKind = y.fKind) (h1 : x.fTrait = y.fTrait) (h2 : x.fName = y.fName) (h3 : x.fN = y.fN) (h4 : x.fType = y.fType) (h5 : x.fArgs = y.fArgs) (h6 : x.fArms = y.fArms) : x = y := by
  rw [← MExpr.eta x, ← MExpr.eta y, h0, h1, h2, h3, h4, h5, h6]
def MArm.fConstructor : MArm → List UInt8 | .mk x _ _ => x
def MArm.fVars : MArm → List (List UInt8) | .mk _ x _ => x
def MArm.fBody : MArm → MExpr | .mk _ _ x => x
theorem MArm.eta (x : MArm) : MArm.mk x.fConstructor x.fVars x.fBody = x := by cases x; rfl
theorem MArm.ext {x y : MArm} (h0 : x.fConstructor = y.fConstructor) (h1 : x.fVars = y.fVars) (h2 : x.fBody = y.fBody) : x = y := by
  rw [← MArm.eta x, ← MArm.eta y, h0, h1, h2]
mutual
def MExpr.enc : MExpr → List D
  | .mk a0 a1 a2 a3 a4 a5 a6 => [.i .i64 a0, .s a1, .s a2, .i .i64 a3] ++ (a4.enc ++ ([.sl (MExpr.encs a5), .sl (MArm.encs a6)]))
def MExpr.encs : List MExpr → List (List D)
  | [] => []
  | x :: xs => x.enc :: MExpr.encs xs
def MArm.enc : MArm → List D
  | .mk a0 a1 a2 => [.s a0, .sl (a1.map encS)] ++ (MExpr.enc a2)
def MArm.encs : List MArm → List (List D)
  | [] => []
  | x :: xs => x.enc :: MArm.encs xs
end
theorem MExpr.encs_map : ∀ l, MExpr.encs l = l.map MExpr.enc
  | [] => rfl
  | x :: xs => by rw [MExpr.encs, List.map_cons, MExpr.encs_map xs]
theorem MArm.encs_map : ∀ l, MArm.encs l = l.map MArm.enc
  | [] => rfl
  | x :: xs => by rw [MArm.encs, List.map_cons, MArm.encs_map xs]
theorem MExpr.enc_eq (x : MExpr) : x.enc = [.i .i64 x.fKind, .s x.fTrait, .s x.fName, .i .i64 x.fN] ++ (x.fType.enc ++ ([.sl (x.fArgs.map MExpr.enc), .sl (x.fArms.map MArm.enc)])) := by
  cases x; simp only [MExpr.enc, MExpr.encs_map, MArm.encs_map, MExpr.fKind, MExpr.fTrait, MExpr.fName, MExpr.fN, MExpr.fType, MExpr.fArgs, MExpr.fArms]
theorem MArm.enc_eq (x : MArm) : x.enc = [.s x.fConstructor, .sl (x.fVars.map encS)] ++ (x.fBody.enc) := by
  cases x; simp only [MArm.enc, MExpr.encs_map, MArm.encs_map, MArm.fConstructor, MArm.fVars, MArm.fBody]
abbrev MExpr.v (x : MExpr) : V := .agg [.d (.i .i64 x.fKind), .d (.s x.fTrait), .d (.s x.fName), .d (.i .i64 x.fN), .d (.i .i64 x.fType.fKind), .d (.s x.fType.fName), .d (.sl (x.fType.fArgs.map MType.enc)), .d (.sl (x.fArgs.map MExpr.enc)), .d (.sl (x.fArms.map MArm.enc))]
theorem MExpr.v_eq (x : MExpr) : .agg (x.enc.map .d) = x.v := by
  simp only [MExpr.enc_eq, MType.enc_eq, List.map_cons, List.map_nil, List.cons_append, List.nil_append, List.map_append]
theorem MExpr.enc_length (x : MExpr) : x.enc.length = 9 := by
  simp only [MExpr.enc_eq, MType.enc_length, List.length_append, List.length_cons, List.length_nil]
def MExpr.sz (x : MExpr) : Nat := szRow x.enc
theorem MExpr.sz_def (x : MExpr) : szRow x.enc = x.sz := rfl
theorem MExpr.lt_Args (x : MExpr) : SizeOf.sizeOf x.fArgs < SizeOf.sizeOf x := by cases x; simp [MExpr.fArgs]; omega
theorem MExpr.lt_Arms (x : MExpr) : SizeOf.sizeOf x.fArms < SizeOf.sizeOf x := by cases x; simp [MExpr.fArms]; omega
abbrev MArm.v (x : MArm) : V := .agg [.d (.s x.fConstructor), .d (.sl (x.fVars.map encS)), .d (.i .i64 x.fBody.fKind), .d (.s x.fBody.fTrait), .d (.s x.fBody.fName), .d (.i .i64 x.fBody.fN), .d (.i .i64 x.fBody.fType.fKind), .d (.s x.fBody.fType.fName), .d (.sl (x.fBody.fType.fArgs.map MType.enc)), .d (.sl (x.fBody.fArgs.map MExpr.enc)), .d (.sl (x.fBody.fArms.map MArm.enc))]
theorem MArm.v_eq (x : MArm) : .agg (x.enc.map .d) = x.v := by
  simp only [MArm.enc_eq, MExpr.enc_eq, MType.enc_eq, List.map_cons, List.map_nil, List.cons_append, List.nil_append, List.map_append]
theorem MArm.enc_length (x : MArm) : x.enc.length = 11 := by
  simp only [MArm.enc_eq, MExpr.enc_length, List.length_append, List.length_cons, List.length_nil]
def MArm.sz (x : MArm) : Nat := szRow x.enc
theorem MArm.sz_def (x : MArm) : szRow x.enc = x.sz := rfl
theorem MArm.lt_Body (x : MArm) : SizeOf.sizeOf x.fBody < SizeOf.sizeOf x := by cases x; simp [MArm.fBody]; omega
inductive MSExpr where
  | mk (fAtom : List UInt8) (fList : List MSExpr)
def MSExpr.fAtom : MSExpr → List UInt8 | .mk x _ => x
def MSExpr.fList : MSExpr → List MSExpr | .mk _ x => x
theorem MSExpr.eta (x : MSExpr) : MSExpr.mk x.fAtom x.fList = x := by cases x; rfl
theorem MSExpr.ext {x y : MSExpr} (h0 : x.fAtom = y.fAtom) (h1 : x.fList = y.fList) : x = y := by
  rw [← MSExpr.eta x, ← MSExpr.eta y, h0, h1]
mutual
def MSExpr.enc : MSExpr → List D
  | .mk a0 a1 => [.s a0, .sl (MSExpr.encs a1)]
def MSExpr.encs : List MSExpr → List (List D)
  | [] => []
  | x :: xs => x.enc :: MSExpr.encs xs
end
theorem MSExpr.encs_map : ∀ l, MSExpr.encs l = l.map MSExpr.enc
  | [] => rfl
  | x :: xs => by rw [MSExpr.encs, List.map_cons, MSExpr.encs_map xs]
theorem MSExpr.enc_eq (x : MSExpr) : x.enc = [.s x.fAtom, .sl (x.fList.map MSExpr.enc)] := by
  cases x; simp only [MSExpr.enc, MSExpr.encs_map, MSExpr.fAtom, MSExpr.fList]
abbrev MSExpr.v (x : MSExpr) : V := .agg [.d (.s x.fAtom), .d (.sl (x.fList.map MSExpr.enc))]
theorem MSExpr.v_eq (x : MSExpr) : .agg (x.enc.map .d) = x.v := by
  simp only [MSExpr.enc_eq, List.map_cons, List.map_nil, List.cons_append, List.nil_append, List.map_append]
theorem MSExpr.enc_length (x : MSExpr) : x.enc.length = 2 := by
  simp only [MSExpr.enc_eq, List.length_append, List.length_cons, List.length_nil]
def MSExpr.sz (x : MSExpr) : Nat := szRow x.enc
theorem MSExpr.sz_def (x : MSExpr) : szRow x.enc = x.sz := rfl
structure MSignature where
  fName : List UInt8
  fParams : List MType
  fResult : MType
  fHasDefault : Bool
  fVars : List (List UInt8)
  fBody : MExpr
def MSignature.enc (x : MSignature) : List D := [.s x.fName, .sl (x.fParams.map MType.enc)] ++ (x.fResult.enc ++ ([.b x.fHasDefault, .sl (x.fVars.map encS)] ++ (x.fBody.enc)))
theorem MSignature.enc_eq (x : MSignature) : x.enc = [.s x.fName, .sl (x.fParams.map MType.enc)] ++ (x.fResult.enc ++ ([.b x.fHasDefault, .sl (x.fVars.map encS)] ++ (x.fBody.enc))) := rfl
theorem MSignature.eta (x : MSignature) : MSignature.mk x.fName x.fParams x.fResult x.fHasDefault x.fVars x.fBody = x := rfl
theorem MSignature.ext' {x y : MSignature} (h0 : x.fName = y.fName) (h1 : x.fParams = y.fParams) (h2 : x.fResult = y.fResult) (h3 : x.fHasDefault = y.fHasDefault) (h4 : x.fVars = y.fVars) (h5 : x.fBody = y.fBody) : x = y := by
  cases x; cases y; simp_all
abbrev MSignature.v (x : MSignature) : V := .agg [.d (.s x.fName), .d (.sl (x.fParams.map MType.enc)), .d (.i .i64 x.fResult.fKind), .d (.s x.fResult.fName), .d (.sl (x.fResult.fArgs.map MType.enc)), .d (.b x.fHasDefault), .d (.sl (x.fVars.map encS)), .d (.i .i64 x.fBody.fKind), .d (.s x.fBody.fTrait), .d (.s x.fBody.fName), .d (.i .i64 x.fBody.fN), .d (.i .i64 x.fBody.fType.fKind), .d (.s x.fBody.fType.fName), .d (.sl (x.fBody.fType.fArgs.map MType.enc)), .d (.sl (x.fBody.fArgs.map MExpr.enc)), .d (.sl (x.fBody.fArms.map MArm.enc))]
theorem MSignature.v_eq (x : MSignature) : .agg (x.enc.map .d) = x.v := by
  simp only [MSignature.enc_eq, MExpr.enc_eq, MType.enc_eq, List.map_cons, List.map_nil, List.cons_append, List.nil_append, List.map_append]
theorem MSignature.enc_length (x : MSignature) : x.enc.length = 16 := by
  simp only [MSignature.enc_eq, MExpr.enc_length, MType.enc_length, List.length_append, List.length_cons, List.length_nil]
def MSignature.sz (x : MSignature) : Nat := szRow x.enc
theorem MSignature.sz_def (x : MSignature) : szRow x.enc = x.sz := rfl
structure MTrait where
  fName : List UInt8
  fSupertraits : List (List UInt8)
  fAuto : Bool
  fAssoc : Bool
  fSignatures : List MSignature
def MTrait.enc (x : MTrait) : List D := [.s x.fName, .sl (x.fSupertraits.map encS), .b x.fAuto, .b x.fAssoc, .sl (x.fSignatures.map MSignature.enc)]
theorem MTrait.enc_eq (x : MTrait) : x.enc = [.s x.fName, .sl (x.fSupertraits.map encS), .b x.fAuto, .b x.fAssoc, .sl (x.fSignatures.map MSignature.enc)] := rfl
theorem MTrait.eta (x : MTrait) : MTrait.mk x.fName x.fSupertraits x.fAuto x.fAssoc x.fSignatures = x := rfl
theorem MTrait.ext' {x y : MTrait} (h0 : x.fName = y.fName) (h1 : x.fSupertraits = y.fSupertraits) (h2 : x.fAuto = y.fAuto) (h3 : x.fAssoc = y.fAssoc) (h4 : x.fSignatures = y.fSignatures) : x = y := by
  cases x; cases y; simp_all
abbrev MTrait.v (x : MTrait) : V := .agg [.d (.s x.fName), .d (.sl (x.fSupertraits.map encS)), .d (.b x.fAuto), .d (.b x.fAssoc), .d (.sl (x.fSignatures.map MSignature.enc))]
theorem MTrait.v_eq (x : MTrait) : .agg (x.enc.map .d) = x.v := by
  simp only [MTrait.enc_eq, List.map_cons, List.map_nil, List.cons_append, List.nil_append, List.map_append]
theorem MTrait.enc_length (x : MTrait) : x.enc.length = 5 := by
  simp only [MTrait.enc_eq, List.length_append, List.length_cons, List.length_nil]
def MTrait.sz (x : MTrait) : Nat := szRow x.enc
theorem MTrait.sz_def (x : MTrait) : szRow x.enc = x.sz := rfl
structure MConstructor where
  fName : List UInt8
  fFields : List MType
def MConstructor.enc (x : MConstructor) : List D := [.s x.fName, .sl (x.fFields.map MType.enc)]
theorem MConstructor.enc_eq (x : MConstructor) : x.enc = [.s x.fName, .sl (x.fFields.map MType.enc)] := rfl
theorem MConstructor.eta (x : MConstructor) : MConstructor.mk x.fName x.fFields = x := rfl
theorem MConstructor.ext' {x y : MConstructor} (h0 : x.fName = y.fName) (h1 : x.fFields = y.fFields) : x = y := by
  cases x; cases y; simp_all
abbrev MConstructor.v (x : MConstructor) : V := .agg [.d (.s x.fName), .d (.sl (x.fFields.map MType.enc))]
theorem MConstructor.v_eq (x : MConstructor) : .agg (x.enc.map .d) = x.v := by
  simp only [MConstructor.enc_eq, List.map_cons, List.map_nil, List.cons_append, List.nil_append, List.map_append]
theorem MConstructor.enc_length (x : MConstructor) : x.enc.length = 2 := by
  simp only [MConstructor.enc_eq, List.length_append, List.length_cons, List.length_nil]
def MConstructor.sz (x : MConstructor) : Nat := szRow x.enc
theorem MConstructor.sz_def (x : MConstructor) : szRow x.enc = x.sz := rfl
structure MDataType where
  fName : List UInt8
  fVars : List (List UInt8)
  fConstructors : List MConstructor
def MDataType.enc (x : MDataType) : List D := [.s x.fName, .sl (x.fVars.map encS), .sl (x.fConstructors.map MConstructor.enc)]
theorem MDataType.enc_eq (x : MDataType) : x.enc = [.s x.fName, .sl (x.fVars.map encS), .sl (x.fConstructors.map MConstructor.enc)] := rfl
theorem MDataType.eta (x : MDataType) : MDataType.mk x.fName x.fVars x.fConstructors = x := rfl
theorem MDataType.ext' {x y : MDataType} (h0 : x.fName = y.fName) (h1 : x.fVars = y.fVars) (h2 : x.fConstructors = y.fConstructors) : x = y := by
  cases x; cases y; simp_all
abbrev MDataType.v (x : MDataType) : V := .agg [.d (.s x.fName), .d (.sl (x.fVars.map encS)), .d (.sl (x.fConstructors.map MConstructor.enc))]
theorem MDataType.v_eq (x : MDataType) : .agg (x.enc.map .d) = x.v := by
  simp only [MDataType.enc_eq, List.map_cons, List.map_nil, List.cons_append, List.nil_append, List.map_append]
theorem MDataType.enc_length (x : MDataType) : x.enc.length = 3 := by
  simp only [MDataType.enc_eq, List.length_append, List.length_cons, List.length_nil]
def MDataType.sz (x : MDataType) : Nat := szRow x.enc
theorem MDataType.sz_def (x : MDataType) : szRow x.enc = x.sz := rfl
structure MMethod where
  fName : List UInt8
  fVars : List (List UInt8)
  fBody : MExpr
def MMethod.enc (x : MMethod) : List D := [.s x.fName, .sl (x.fVars.map encS)] ++ (x.fBody.enc)
theorem MMethod.enc_eq (x : MMethod) : x.enc = [.s x.fName, .sl (x.fVars.map encS)] ++ (x.fBody.enc) := rfl
theorem MMethod.eta (x : MMethod) : MMethod.mk x.fName x.fVars x.fBody = x := rfl
theorem MMethod.ext' {x y : MMethod} (h0 : x.fName = y.fName) (h1 : x.fVars = y.fVars) (h2 : x.fBody = y.fBody) : x = y := by
  cases x; cases y; simp_all
abbrev MMethod.v (x : MMethod) : V := .agg [.d (.s x.fName), .d (.sl (x.fVars.map encS)), .d (.i .i64 x.fBody.fKind), .d (.s x.fBody.fTrait), .d (.s x.fBody.fName), .d (.i .i64 x.fBody.fN), .d (.i .i64 x.fBody.fType.fKind), .d (.s x.fBody.fType.fName), .d (.sl (x.fBody.fType.fArgs.map MType.enc)), .d (.sl (x.fBody.fArgs.map MExpr.enc)), .d (.sl (x.fBody.fArms.map MArm.enc))]
theorem MMethod.v_eq (x : MMethod) : .agg (x.enc.map .d) = x.v := by
  simp only [MMethod.enc_eq, MExpr.enc_eq, MType.enc_eq, List.map_cons, List.map_nil, List.cons_append, List.nil_append, List.map_append]
theorem MMethod.enc_length (x : MMethod) : x.enc.length = 11 := by
  simp only [MMethod.enc_eq, MExpr.enc_length, List.length_append, List.length_cons, List.length_nil]
def MMethod.sz (x : MMethod) : Nat := szRow x.enc
theorem MMethod.sz_def (x : MMethod) : szRow x.enc = x.sz := rfl
structure MInstance where
  fTrait : List UInt8
  fVars : List (List UInt8)
  fHead : MType
  fWhere : List MBound
  fDefault : Bool
  fHasAssoc : Bool
  fAssoc : MType
  fMethods : List MMethod
def MInstance.enc (x : MInstance) : List D := [.s x.fTrait, .sl (x.fVars.map encS)] ++ (x.fHead.enc ++ ([.sl (x.fWhere.map MBound.enc), .b x.fDefault, .b x.fHasAssoc] ++ (x.fAssoc.enc ++ ([.sl (x.fMethods.map MMethod.enc)]))))
theorem MInstance.enc_eq (x : MInstance) : x.enc = [.s x.fTrait, .sl (x.fVars.map encS)] ++ (x.fHead.enc ++ ([.sl (x.fWhere.map MBound.enc), .b x.fDefault, .b x.fHasAssoc] ++ (x.fAssoc.enc ++ ([.sl (x.fMethods.map MMethod.enc)])))) := rfl
theorem MInstance.eta (x : MInstance) : MInstance.mk x.fTrait x.fVars x.fHead x.fWhere x.fDefault x.fHasAssoc x.fAssoc x.fMethods = x := rfl
theorem MInstance.ext' {x y : MInstance} (h0 : x.fTrait = y.fTrait) (h1 : x.fVars = y.fVars) (h2 : x.fHead = y.fHead) (h3 : x.fWhere = y.fWhere) (h4 : x.fDefault = y.fDefault) (h5 : x.fHasAssoc = y.fHasAssoc) (h6 : x.fAssoc = y.fAssoc) (h7 : x.fMethods = y.fMethods) : x = y := by
  cases x; cases y; simp_all
abbrev MInstance.v (x : MInstance) : V := .agg [.d (.s x.fTrait), .d (.sl (x.fVars.map encS)), .d (.i .i64 x.fHead.fKind), .d (.s x.fHead.fName), .d (.sl (x.fHead.fArgs.map MType.enc)), .d (.sl (x.fWhere.map MBound.enc)), .d (.b x.fDefault), .d (.b x.fHasAssoc), .d (.i .i64 x.fAssoc.fKind), .d (.s x.fAssoc.fName), .d (.sl (x.fAssoc.fArgs.map MType.enc)), .d (.sl (x.fMethods.map MMethod.enc))]
theorem MInstance.v_eq (x : MInstance) : .agg (x.enc.map .d) = x.v := by
  simp only [MInstance.enc_eq, MType.enc_eq, List.map_cons, List.map_nil, List.cons_append, List.nil_append, List.map_append]
theorem MInstance.enc_length (x : MInstance) : x.enc.length = 12 := by
  simp only [MInstance.enc_eq, MType.enc_length, List.length_append, List.length_cons, List.length_nil]
def MInstance.sz (x : MInstance) : Nat := szRow x.enc
theorem MInstance.sz_def (x : MInstance) : szRow x.enc = x.sz := rfl
structure MParam where
  fName : List UInt8
  fType : MType
def MParam.enc (x : MParam) : List D := [.s x.fName] ++ (x.fType.enc)
theorem MParam.enc_eq (x : MParam) : x.enc = [.s x.fName] ++ (x.fType.enc) := rfl
theorem MParam.eta (x : MParam) : MParam.mk x.fName x.fType = x := rfl
theorem MParam.ext' {x y : MParam} (h0 : x.fName = y.fName) (h1 : x.fType = y.fType) : x = y := by
  cases x; cases y; simp_all
abbrev MParam.v (x : MParam) : V := .agg [.d (.s x.fName), .d (.i .i64 x.fType.fKind), .d (.s x.fType.fName), .d (.sl (x.fType.fArgs.map MType.enc))]
theorem MParam.v_eq (x : MParam) : .agg (x.enc.map .d) = x.v := by
  simp only [MParam.enc_eq, MType.enc_eq, List.map_cons, List.map_nil, List.cons_append, List.nil_append, List.map_append]
theorem MParam.enc_length (x : MParam) : x.enc.length = 4 := by
  simp only [MParam.enc_eq, MType.enc_length, List.length_append, List.length_cons, List.length_nil]
def MParam.sz (x : MParam) : Nat := szRow x.enc
theorem MParam.sz_def (x : MParam) : szRow x.enc = x.sz := rfl
structure MFunction where
  fName : List UInt8
  fVars : List (List UInt8)
  fWhere : List MBound
  fParams : List MParam
  fResult : MType
  fBody : MExpr
def MFunction.enc (x : MFunction) : List D := [.s x.fName, .sl (x.fVars.map encS), .sl (x.fWhere.map MBound.enc), .sl (x.fParams.map MParam.enc)] ++ (x.fResult.enc ++ (x.fBody.enc))
theorem MFunction.enc_eq (x : MFunction) : x.enc = [.s x.fName, .sl (x.fVars.map encS), .sl (x.fWhere.map MBound.enc), .sl (x.fParams.map MParam.enc)] ++ (x.fResult.enc ++ (x.fBody.enc)) := rfl
theorem MFunction.eta (x : MFunction) : MFunction.mk x.fName x.fVars x.fWhere x.fParams x.fResult x.fBody = x := rfl
theorem MFunction.ext' {x y : MFunction} (h0 : x.fName = y.fName) (h1 : x.fVars = y.fVars) (h2 : x.fWhere = y.fWhere) (h3 : x.fParams = y.fParams) (h4 : x.fResult = y.fResult) (h5 : x.fBody = y.fBody) : x = y := by
  cases x; cases y; simp_all
abbrev MFunction.v (x : MFunction) : V := .agg [.d (.s x.fName), .d (.sl (x.fVars.map encS)), .d (.sl (x.fWhere.map MBound.enc)), .d (.sl (x.fParams.map MParam.enc)), .d (.i .i64 x.fResult.fKind), .d (.s x.fResult.fName), .d (.sl (x.fResult.fArgs.map MType.enc)), .d (.i .i64 x.fBody.fKind), .d (.s x.fBody.fTrait), .d (.s x.fBody.fName), .d (.i .i64 x.fBody.fN), .d (.i .i64 x.fBody.fType.fKind), .d (.s x.fBody.fType.fName), .d (.sl (x.fBody.fType.fArgs.map MType.enc)), .d (.sl (x.fBody.fArgs.map MExpr.enc)), .d (.sl (x.fBody.fArms.map MArm.enc))]
theorem MFunction.v_eq (x : MFunction) : .agg (x.enc.map .d) = x.v := by
  simp only [MFunction.enc_eq, MExpr.enc_eq, MType.enc_eq, List.map_cons, List.map_nil, List.cons_append, List.nil_append, List.map_append]
theorem MFunction.enc_length (x : MFunction) : x.enc.length = 16 := by
  simp only [MFunction.enc_eq, MExpr.enc_length, MType.enc_length, List.length_append, List.length_cons, List.length_nil]
def MFunction.sz (x : MFunction) : Nat := szRow x.enc
theorem MFunction.sz_def (x : MFunction) : szRow x.enc = x.sz := rfl
structure MPackage where
  fName : List UInt8
  fDeps : List (List UInt8)
  fTraits : List MTrait
  fDataTypes : List MDataType
  fInstances : List MInstance
  fFunctions : List MFunction
def MPackage.enc (x : MPackage) : List D := [.s x.fName, .sl (x.fDeps.map encS), .sl (x.fTraits.map MTrait.enc), .sl (x.fDataTypes.map MDataType.enc), .sl (x.fInstances.map MInstance.enc), .sl (x.fFunctions.map MFunction.enc)]
theorem MPackage.enc_eq (x : MPackage) : x.enc = [.s x.fName, .sl (x.fDeps.map encS), .sl (x.fTraits.map MTrait.enc), .sl (x.fDataTypes.map MDataType.enc), .sl (x.fInstances.map MInstance.enc), .sl (x.fFunctions.map MFunction.enc)] := rfl
theorem MPackage.eta (x : MPackage) : MPackage.mk x.fName x.fDeps x.fTraits x.fDataTypes x.fInstances x.fFunctions = x := rfl
theorem MPackage.ext' {x y : MPackage} (h0 : x.fName = y.fName) (h1 : x.fDeps = y.fDeps) (h2 : x.fTraits = y.fTraits) (h3 : x.fDataTypes = y.fDataTypes) (h4 : x.fInstances = y.fInstances) (h5 : x.fFunctions = y.fFunctions) : x = y := by
  cases x; cases y; simp_all
abbrev MPackage.v (x : MPackage) : V := .agg [.d (.s x.fName), .d (.sl (x.fDeps.map encS)), .d (.sl (x.fTraits.map MTrait.enc)), .d (.sl (x.fDataTypes.map MDataType.enc)), .d (.sl (x.fInstances.map MInstance.enc)), .d (.sl (x.fFunctions.map MFunction.enc))]
theorem MPackage.v_eq (x : MPackage) : .agg (x.enc.map .d) = x.v := by
  simp only [MPackage.enc_eq, List.map_cons, List.map_nil, List.cons_append, List.nil_append, List.map_append]
theorem MPackage.enc_length (x : MPackage) : x.enc.length = 6 := by
  simp only [MPackage.enc_eq, List.length_append, List.length_cons, List.length_nil]
def MPackage.sz (x : MPackage) : Nat := szRow x.enc
theorem MPackage.sz_def (x : MPackage) : szRow x.enc = x.sz := rfl
structure MProgram where
  fPackages : List MPackage
def MProgram.enc (x : MProgram) : List D := [.sl (x.fPackages.map MPackage.enc)]
theorem MProgram.enc_eq (x : MProgram) : x.enc = [.sl (x.fPackages.map MPackage.enc)] := rfl
theorem MProgram.eta (x : MProgram) : MProgram.mk x.fPackages = x := rfl
theorem MProgram.ext' {x y : MProgram} (h0 : x.fPackages = y.fPackages) : x = y := by
  cases x; cases y; simp_all
abbrev MProgram.v (x : MProgram) : V := .agg [.d (.sl (x.fPackages.map MPackage.enc))]
theorem MProgram.v_eq (x : MProgram) : .agg (x.enc.map .d) = x.v := by
  simp only [MProgram.enc_eq, List.map_cons, List.map_nil, List.cons_append, List.nil_append, List.map_append]
theorem MProgram.enc_length (x : MProgram) : x.enc.length = 1 := by
  simp only [MProgram.enc_eq, List.length_append, List.length_cons, List.length_nil]
def MProgram.sz (x : MProgram) : Nat := szRow x.enc
theorem MProgram.sz_def (x : MProgram) : szRow x.enc = x.sz := rfl
structure MInstanceRef where
  fPackage : Int
  fAt : Int
def MInstanceRef.enc (x : MInstanceRef) : List D := [.i .i64 x.fPackage, .i .i64 x.fAt]
theorem MInstanceRef.enc_eq (x : MInstanceRef) : x.enc = [.i .i64 x.fPackage, .i .i64 x.fAt] := rfl
theorem MInstanceRef.eta (x : MInstanceRef) : MInstanceRef.mk x.fPackage x.fAt = x := rfl
theorem MInstanceRef.ext' {x y : MInstanceRef} (h0 : x.fPackage = y.fPackage) (h1 : x.fAt = y.fAt) : x = y := by
  cases x; cases y; simp_all
abbrev MInstanceRef.v (x : MInstanceRef) : V := .agg [.d (.i .i64 x.fPackage), .d (.i .i64 x.fAt)]
theorem MInstanceRef.v_eq (x : MInstanceRef) : .agg (x.enc.map .d) = x.v := by
  simp only [MInstanceRef.enc_eq, List.map_cons, List.map_nil, List.cons_append, List.nil_append, List.map_append]
theorem MInstanceRef.enc_length (x : MInstanceRef) : x.enc.length = 2 := by
  simp only [MInstanceRef.enc_eq, List.length_append, List.length_cons, List.length_nil]
def MInstanceRef.sz (x : MInstanceRef) : Nat := szRow x.enc
theorem MInstanceRef.sz_def (x : MInstanceRef) : szRow x.enc = x.sz := rfl
attribute [go_sem] MType.enc_eq MBinding.enc_eq MBound.enc_eq MExpr.enc_eq MArm.enc_eq MSExpr.enc_eq MSignature.enc_eq MTrait.enc_eq MConstructor.enc_eq MDataType.enc_eq MMethod.enc_eq MInstance.enc_eq MParam.enc_eq MFunction.enc_eq MPackage.enc_eq MProgram.enc_eq MInstanceRef.enc_eq encS encI
end Go.Ab

namespace Go.Ab
def lookupB : List MBinding → List UInt8 → Option MType
  | [], _ => none
  | b :: bs, v => if b.fVar = v then some b.fType else lookupB bs v
mutual
noncomputable def matchT (s : List MBinding) : MType → MType → Option (List MBinding)
  | .mk k n a, t =>
    if k = 1 then
      match lookupB s n with
      | some u => if dec (u = t) = true then some s else none
      | none => some (s ++ [⟨n, t⟩])
    else if k = t.fKind ∧ n = t.fName ∧ a.length = t.fArgs.length then matchL s a t.fArgs else none
noncomputable def matchL (s : List MBinding) : List MType → List MType → Option (List MBinding)
  | [], _ => some s
  | _ :: _, [] => none
  | p :: ps, t :: ts =>
    match matchT s p t with
    | some s' => matchL s' ps ts
    | none => none
end
theorem matchT_eq (s : List MBinding) (p t : MType) : matchT s p t = if p.fKind = 1 then
      match lookupB s p.fName with
      | some u => if dec (u = t) = true then some s else none
      | none => some (s ++ [⟨p.fName, t⟩])
    else if p.fKind = t.fKind ∧ p.fName = t.fName ∧ p.fArgs.length = t.fArgs.length then matchL s p.fArgs t.fArgs else none := by
  cases p; rw [matchT]; rfl
noncomputable def matchAll (s : List MBinding) (ps ts : List MType) : Option (List MBinding) := if ps.length = ts.length then matchL s ps ts else none
mutual
def MType.cnt : MType → Nat
  | .mk _ _ a => 1 + MType.cnts a
def MType.cnts : List MType → Nat
  | [] => 0
  | t :: ts => t.cnt + MType.cnts ts
end
theorem MType.cnt_eq (t : MType) : t.cnt = 1 + MType.cnts t.fArgs := by cases t; rw [MType.cnt]; rfl
mutual
theorem cnt_le : ∀ t : MType, t.cnt ≤ 1 + t.sz
  | .mk k n a => by
    have h := cnts_le a
    rw [MType.cnt]
    have e : (MType.mk k n a).sz = n.length + (a.length + szRows (a.map MType.enc)) := by
      simp only [MType.sz, MType.enc_eq, szRow, D.sz, List.length_map, MType.fName, MType.fArgs, Nat.add_zero, Nat.zero_add]
    omega
theorem cnts_le : ∀ ts : List MType, MType.cnts ts ≤ ts.length + szRows (ts.map MType.enc)
  | [] => by simp [MType.cnts]
  | t :: ts => by
    have h1 := cnt_le t
    have h2 := cnts_le ts
    rw [MType.cnts, List.length_cons, List.map_cons, szRows, MType.sz_def]
    omega
end
mutual
theorem matchT_len : ∀ (p : MType) (s : List MBinding) (t : MType) (s' : List MBinding), matchT s p t = some s' → s'.length ≤ s.length + p.cnt
  | .mk k n a, s, t, s', h => by
    rw [matchT] at h
    rw [MType.cnt]
    split at h
    · split at h
      · split at h
        · cases h; omega
        · cases h
      · cases h; simp
    · split at h
      · have := matchL_len a s t.fArgs s' h; omega
      · cases h
theorem matchL_len : ∀ (ps : List MType) (s : List MBinding) (ts : List MType) (s' : List MBinding), matchL s ps ts = some s' → s'.length ≤ s.length + MType.cnts ps
  | [], s, ts, s', h => by rw [matchL] at h; cases h; omega
  | p :: ps, s, [], s', h => by rw [matchL] at h; cases h
  | p :: ps, s, t :: ts, s', h => by
    rw [matchL] at h
    rw [MType.cnts]
    cases hm : matchT s p t with
    | none => rw [hm] at h; cases h
    | some s1 =>
      rw [hm] at h
      have h1 := matchT_len p s t s1 hm
      have h2 := matchL_len ps s1 ts s' h
      omega
end
theorem lookup_mem {v : List UInt8} {u : MType} : ∀ {bs : List MBinding}, lookupB bs v = some u → ∃ b ∈ bs, b.fType = u
  | [], h => by cases h
  | b :: bs, h => by
    rw [lookupB] at h
    split at h
    · cases h; exact ⟨b, by simp, rfl⟩
    · obtain ⟨b', h1, h2⟩ := lookup_mem h
      exact ⟨b', by simp [h1], h2⟩
def Small (s : List MBinding) : Prop := ∀ b ∈ s, b.fType.sz ≤ 4194304
theorem small_nil : Small [] := fun b h => by simp at h
mutual
theorem matchT_small : ∀ (p : MType) (s : List MBinding) (t : MType) (s' : List MBinding), t.sz ≤ 4194304 → Small s → matchT s p t = some s' → Small s'
  | .mk k n a, s, t, s', ht, hs, h => by
    rw [matchT] at h
    split at h
    · split at h
      · split at h
        · cases h; exact hs
        · cases h
      · cases h
        intro b hb
        rcases List.mem_append.1 hb with hb | hb
        · exact hs b hb
        · simp at hb; subst hb; exact ht
    · split at h
      · refine matchL_small a s t.fArgs s' ?_ hs h
        intro x hx
        have h1 := szRows_mem (List.mem_map_of_mem (f := MType.enc) hx)
        have h2 : t.sz = t.fName.length + (t.fArgs.length + szRows (t.fArgs.map MType.enc)) := by
          simp only [MType.sz, MType.enc_eq, szRow, szRow_append, D.sz, List.length_map, Nat.add_zero, Nat.zero_add]
        rw [MType.sz_def] at h1
        omega
      · cases h
theorem matchL_small : ∀ (ps : List MType) (s : List MBinding) (ts : List MType) (s' : List MBinding), (∀ t ∈ ts, t.sz ≤ 4194304) → Small s → matchL s ps ts = some s' → Small s'
  | [], s, ts, s', ht, hs, h => by rw [matchL] at h; cases h; exact hs
  | p :: ps, s, [], s', ht, hs, h => by rw [matchL] at h; cases h
  | p :: ps, s, t :: ts, s', ht, hs, h => by
    rw [matchL] at h
    cases hm : matchT s p t with
    | none => rw [hm] at h; cases h
    | some s1 =>
      rw [hm] at h
      exact matchL_small ps s1 ts s' (fun x hx => ht x (by simp [hx])) (matchT_small p s t s1 (ht t (by simp)) hs hm) h
end
theorem matchL_drop {cur : List MBinding} {ps ts : List MType} {i : Nat} (hi : i < ps.length) (hi' : i < ts.length) (r : Option (List MBinding)) (h : matchL cur (ps.drop i) (ts.drop i) = r) :
    (match matchT cur ps[i] ts[i] with | some n => matchL n (ps.drop (i + 1)) (ts.drop (i + 1)) | none => none) = r := by
  rw [List.drop_eq_getElem_cons hi, List.drop_eq_getElem_cons hi', matchL] at h
  exact h
noncomputable def mats (p t : MType) : Bool := (matchAll [] [p] [t]).isSome
end Go.Ab

namespace Go.Ab
def mgK (n : Nat) : Key → Key
  | (0, j) => (0, n + j)
  | (l + 1, j) => (l, j)
def C.mg (n : Nat) : C → C
  | .d x => .d x
  | .any => .any
  | .tsl k es => .tsl (mgK n k) es
  | .fsl es => .fsl es
  | .ptr k off => .ptr (mgK n k) off
  | .rptr cs => .rptr cs
  | .eptr k i off => .eptr (mgK n k) i off
  | .msl k => .msl (mgK n k)
  | .fn f caps => .fn f (caps.map fun x => (mgK n x.1, x.2))
  | .mp k => .mp (mgK n k)
  | .lfl m es => .lfl m es
  | .xp k r p => .xp (mgK n k) r p
  | .xq k r p z i off => .xq (mgK n k) r p z i off
def V.mg (n : Nat) : V → V
  | .c x => .c (x.mg n)
  | .agg cs => .agg (cs.map (C.mg n))
  | .tup xs => .tup (xs.map fun y => (y.1, y.2.map (C.mg n)))
  | .any => .any
def Obj.mg (n : Nat) : Obj → Obj
  | .box cs => .box (cs.map (C.mg n))
  | o => o
section
variable {P : Program} {w : World} {σ : Nat → Nat} {own own0 : List Obj} {Ω : Store} {bo bo0 : List Value} {bΩ : Hs}
theorem owns_mg {n : Nat} {o : Obj} {h : Value} {b : Nat} : owns (o.mg n) h b ↔ owns o h b := by
  cases o with
  | box cs =>
    cases h with
    | pointer a => cases a <;> exact Iff.rfl
    | _ => exact Iff.rfl
  | _ => exact Iff.rfl
theorem mg_at {k : Key} {o : Obj} (h : getO (own :: own0 :: Ω) k = some o) :
    getO ((own0 ++ own.map (Obj.mg own0.length)) :: Ω) (mgK own0.length k) = some (if k.1 = 0 then o.mg own0.length else o) := by
  obtain ⟨l, j⟩ := k
  cases l with
  | zero =>
    rw [getO_zero] at h
    show getO _ (0, own0.length + j) = _
    rw [getO_zero, List.getElem?_append_right (by omega), show own0.length + j - own0.length = j by omega, List.getElem?_map, h]
    rfl
  | succ l =>
    rw [getO_succ] at h
    show getO _ (l, j) = some o
    cases l with
    | zero =>
      rw [getO_zero] at h ⊢
      rw [List.getElem?_append_left (List.getElem?_eq_some_iff.1 h).1]
      exact h
    | succ l => rw [getO_succ] at h ⊢; exact h
theorem mg_hs (hl : bo0.length = own0.length) {k : Key} {h : Value} (e : getO (bo :: bo0 :: bΩ) k = some h) : getO ((bo0 ++ bo) :: bΩ) (mgK own0.length k) = some h := by
  obtain ⟨l, j⟩ := k
  cases l with
  | zero =>
    rw [getO_zero] at e
    show getO _ (0, own0.length + j) = _
    rw [getO_zero, List.getElem?_append_right (by omega), show own0.length + j - bo0.length = j by omega, e]
  | succ l =>
    rw [getO_succ] at e
    show getO _ (l, j) = some h
    cases l with
    | zero =>
      rw [getO_zero] at e ⊢
      rw [List.getElem?_append_left (List.getElem?_eq_some_iff.1 e).1]
      exact e
    | succ l => rw [getO_succ] at e ⊢; exact e
theorem mg_from (hl : bo0.length = own0.length) (hlo : bo.length = own.length) {k : Key} {o : Obj} (h : getO ((own0 ++ own.map (Obj.mg own0.length)) :: Ω) k = some o) :
    ∃ k0 o0, mgK own0.length k0 = k ∧ getO (own :: own0 :: Ω) k0 = some o0 ∧ o = (if k0.1 = 0 then o0.mg own0.length else o0) ∧ getO ((bo0 ++ bo) :: bΩ) k = getO (bo :: bo0 :: bΩ) k0 := by
  obtain ⟨l, j⟩ := k
  cases l with
  | zero =>
    rw [getO_zero] at h
    by_cases hj : j < own0.length
    · rw [List.getElem?_append_left hj] at h
      refine ⟨(1, j), o, rfl, by rw [getO_succ, getO_zero]; exact h, rfl, ?_⟩
      rw [getO_zero, getO_succ, getO_zero, List.getElem?_append_left (by omega)]
    · rw [List.getElem?_append_right (by omega), List.getElem?_map] at h
      cases hx : own[j - own0.length]? with
      | none => rw [hx] at h; cases h
      | some x =>
        rw [hx] at h; cases h
        refine ⟨(0, j - own0.length), x, ?_, by rw [getO_zero]; exact hx, rfl, ?_⟩
        · show (0, own0.length + (j - own0.length)) = (0, j)
          rw [show own0.length + (j - own0.length) = j by omega]
        · rw [getO_zero, getO_zero, List.getElem?_append_right (by omega), hl]
  | succ l =>
    rw [getO_succ] at h
    exact ⟨(l + 2, j), o, rfl, by rw [getO_succ, getO_succ]; exact h, rfl, by rw [getO_succ, getO_succ, getO_succ]⟩
theorem mg_kind {n : Nat} {k : Key} {o : Obj} : (∀ esz es, IsTok (if k.1 = 0 then o.mg n else o) esz es → IsTok o esz es) ∧ (∀ esz es, (if k.1 = 0 then o.mg n else o) = .mrow esz es → o = .mrow esz es) ∧
    (∀ m, (if k.1 = 0 then o.mg n else o) = .mp m → o = .mp m) ∧ (∀ cs, (if k.1 = 0 then o.mg n else o) = .box cs → ∃ cs', o = .box cs') ∧ (∀ rs, (if k.1 = 0 then o.mg n else o) = .xf rs → o = .xf rs) := by
  by_cases e : k.1 = 0
  · simp only [if_pos e]
    cases o <;> simp [Obj.mg, IsTok]
  · simp only [if_neg e]
    exact ⟨fun _ _ h => h, fun _ _ h => h, fun _ h => h, fun cs h => ⟨cs, h⟩, fun _ h => h⟩
theorem mg_C (hl : bo0.length = own0.length) {c : C} {v : Value} (h : RepC w σ (own :: own0 :: Ω) (bo :: bo0 :: bΩ) c v) :
    RepC w σ ((own0 ++ own.map (Obj.mg own0.length)) :: Ω) ((bo0 ++ bo) :: bΩ) (c.mg own0.length) v := by
  cases c with
  | d x => exact h
  | any => exact trivial
  | fsl es => exact h
  | rptr cs => exact h
  | lfl m es => exact h
  | xp k r p =>
    obtain ⟨o, ho, h2⟩ := h
    refine ⟨_, mg_at ho, fun rs e => ?_⟩
    obtain ⟨hh, q1, q2⟩ := h2 rs (mg_kind.2.2.2.2 _ e)
    exact ⟨hh, mg_hs hl q1, q2⟩
  | xq k r p z i off =>
    obtain ⟨o, ho, h2⟩ := h
    refine ⟨_, mg_at ho, fun rs e => ?_⟩
    obtain ⟨hh, b, a, n, cap, q1, q2⟩ := h2 rs (mg_kind.2.2.2.2 _ e)
    exact ⟨hh, b, a, n, cap, mg_hs hl q1, q2⟩
  | tsl k es =>
    obtain ⟨h1, o, ho, h2⟩ := h
    refine ⟨h1, _, mg_at ho, fun esz es' e => ?_⟩
    obtain ⟨q1, q2⟩ := h2 esz es' (mg_kind.1 _ _ e)
    exact ⟨q1, fun e' => mg_hs hl (q2 e')⟩
  | ptr k off =>
    obtain ⟨o, ho, h2⟩ := h
    refine ⟨_, mg_at ho, fun cs e => ?_⟩
    obtain ⟨cs', e'⟩ := mg_kind.2.2.2.1 _ e
    obtain ⟨b, q1, q2⟩ := h2 cs' e'
    exact ⟨b, mg_hs hl q1, q2⟩
  | eptr k i off =>
    obtain ⟨o, ho, h2⟩ := h
    refine ⟨_, mg_at ho, fun esz es e => ?_⟩
    obtain ⟨b, n, cap, q1, q2⟩ := h2 esz es (mg_kind.2.1 _ _ e)
    exact ⟨b, n, cap, mg_hs hl q1, q2⟩
  | msl k =>
    obtain ⟨o, ho, h2⟩ := h
    exact ⟨_, mg_at ho, fun esz es e => mg_hs hl (h2 esz es (mg_kind.2.1 _ _ e))⟩
  | mp k =>
    obtain ⟨o, ho, h2⟩ := h
    exact ⟨_, mg_at ho, fun m e => mg_hs hl (h2 m (mg_kind.2.2.1 _ e))⟩
  | fn f caps =>
    obtain ⟨vs, e, hsz, hc⟩ := h
    refine ⟨vs, e, by rw [hsz, List.length_map], fun j k off hj => ?_⟩
    rw [List.getElem?_map] at hj
    cases hx : caps[j]? with
    | none => rw [hx] at hj; cases hj
    | some y =>
      rw [hx] at hj
      injection hj with hj
      injection hj with e1 e2
      obtain ⟨u, q1, q2, o, q3, q4⟩ := hc j y.1 y.2 hx
      refine ⟨u, q1, q2, _, by rw [← e1]; exact mg_at q3, fun cs e => ?_⟩
      obtain ⟨cs', e'⟩ := mg_kind.2.2.2.1 _ e
      obtain ⟨b, q5, q6⟩ := q4 cs' e'
      exact ⟨b, by rw [← e1]; exact mg_hs hl q5, by rw [← e2]; exact q6⟩
theorem mg_Cs (hl : bo0.length = own0.length) {cs : List C} {vs : List Value} (h : RepCs w σ (own :: own0 :: Ω) (bo :: bo0 :: bΩ) cs vs) :
    RepCs w σ ((own0 ++ own.map (Obj.mg own0.length)) :: Ω) ((bo0 ++ bo) :: bΩ) (cs.map (C.mg own0.length)) vs := by
  refine ⟨by rw [List.length_map]; exact h.1, fun j x hj => ?_⟩
  rw [List.getElem?_map] at hj
  cases hx : cs[j]? with
  | none => rw [hx] at hj; cases hj
  | some y =>
    rw [hx] at hj; cases hj
    obtain ⟨v, h1, h2, h3⟩ := h.2 j y hx
    exact ⟨v, h1, mg_C hl h2, h3⟩
theorem mg_V (hl : bo0.length = own0.length) {x : V} {v : Value} (h : RepV w σ (own :: own0 :: Ω) (bo :: bo0 :: bΩ) x v) :
    RepV w σ ((own0 ++ own.map (Obj.mg own0.length)) :: Ω) ((bo0 ++ bo) :: bΩ) (x.mg own0.length) v := by
  cases x with
  | c x => exact ⟨mg_C hl h.1, h.2⟩
  | agg cs => obtain ⟨a, ha, hc⟩ := h; exact ⟨a, ha, mg_Cs hl hc⟩
  | any => exact trivial
  | tup xs =>
    obtain ⟨a, ha, hlen, hc⟩ := h
    refine ⟨a, ha, by rw [List.length_map]; exact hlen, fun j y hj => ?_⟩
    rw [List.getElem?_map] at hj
    cases hx : xs[j]? with
    | none => rw [hx] at hj; cases hj
    | some z =>
      rw [hx] at hj; cases hj
      obtain ⟨u, hu, hr⟩ := hc j z hx
      refine ⟨u, hu, ?_⟩
      obtain ⟨b, cs⟩ := z
      cases b with
      | true => obtain ⟨a', e, hcs⟩ := hr; exact ⟨a', e, mg_Cs hl hcs⟩
      | false => obtain ⟨x1, e, hx1, ho⟩ := hr; subst e; exact ⟨_, rfl, mg_C hl hx1, ho⟩
theorem mg_keep (hl : bo0.length = own0.length) : Keep (own0 :: Ω) (bo0 :: bΩ) ((own0 ++ own.map (Obj.mg own0.length)) :: Ω) ((bo0 ++ bo) :: bΩ) := by
  rintro ⟨l, j⟩ o h
  cases l with
  | zero =>
    rw [getO_zero] at h
    have hj := (List.getElem?_eq_some_iff.1 h).1
    refine ⟨o, by rw [getO_zero, List.getElem?_append_left hj]; exact h, ?_⟩
    rw [getO_zero, getO_zero, List.getElem?_append_left (by omega)]
    exact KeepO.refl _ _
  | succ l =>
    rw [getO_succ] at h
    exact ⟨o, by rw [getO_succ]; exact h, by rw [getO_succ, getO_succ]; exact KeepO.refl _ _⟩
theorem mg_S (hS : RepS w σ (own :: own0 :: Ω) (bo :: bo0 :: bΩ)) : RepS w σ ((own0 ++ own.map (Obj.mg own0.length)) :: Ω) ((bo0 ++ bo) :: bΩ) := by
  have hlo : bo.length = own.length := by
    obtain ⟨gr, h1, h2⟩ := hS.shape.2 0 own rfl
    simp at h1; rw [h1]; exact h2
  have hl : bo0.length = own0.length := by
    obtain ⟨gr, h1, h2⟩ := hS.shape.2 1 own0 rfl
    simp at h1; rw [h1]; exact h2
  have hn : Near w σ w σ := Near.refl _ _
  refine ⟨fun k o ho => ?_, fun k k' o o' h h' b e1 e2 e3 e4 e5 e6 => ?_, ⟨by have := hS.shape.1; simpa using this, fun l fr hfr => ?_⟩, hS.live, hS.glob⟩
  · obtain ⟨k0, o0, hk, ho0, rfl, hh⟩ := mg_from (bo := bo) (bΩ := bΩ) hl hlo ho
    obtain ⟨h, h1, h2⟩ := hS.obj k0 o0 ho0
    refine ⟨h, by rw [hh]; exact h1, ?_⟩
    obtain ⟨l0, j0⟩ := k0
    cases l0 with
    | zero =>
      subst hk
      have h2 : RepObj w σ (own :: own0 :: Ω) (bo :: bo0 :: bΩ) o0 h := h2
      show RepObj w σ ((own0 ++ own.map (Obj.mg own0.length)) :: Ω) ((bo0 ++ bo) :: bΩ) (o0.mg own0.length) h
      cases o0 with
      | box cs =>
        obtain ⟨b, c, t, e, q1, q2, q3⟩ := h2
        exact ⟨b, c, t, e, q1, q2, mg_Cs hl q3⟩
      | dead => exact trivial
      | tok esz es => exact h2
      | mrow esz es => exact h2
      | mp m => exact h2
      | ltok n esz es => exact h2
      | seed n => exact trivial
      | xf rs => exact h2
    | succ l0 =>
      have hk' : k = (l0, j0) := hk.symm
      subst hk'
      have h2 : RepObj w σ ((own0 :: Ω).drop l0) ((bo0 :: bΩ).drop l0) o0 h := h2
      exact h2.mono hn ((mg_keep hl).drop l0) fun _ _ => ⟨rfl, rfl⟩
  · obtain ⟨k0, o0, hk, ho0, ho, hh⟩ := mg_from (bo := bo) (bΩ := bΩ) hl hlo e1
    obtain ⟨k1, o1, hk1, ho1, ho', hh1⟩ := mg_from (bo := bo) (bΩ := bΩ) hl hlo e4
    rw [hh] at e2
    rw [hh1] at e5
    have b0 : owns o0 h b := by
      rw [ho] at e3
      split at e3
      · rw [owns_mg] at e3; exact e3
      · exact e3
    have b1 : owns o1 h' b := by
      rw [ho'] at e6
      split at e6
      · rw [owns_mg] at e6; exact e6
      · exact e6
    have := hS.apart k0 k1 o0 o1 h h' b ho0 e2 b0 ho1 e5 b1
    rw [← hk, ← hk1, this]
  · cases l with
    | zero =>
      simp at hfr
      exact ⟨_, rfl, by rw [← hfr]; simp [hl, hlo]⟩
    | succ l => exact hS.shape.2 (l + 2) fr (by simpa using hfr)
theorem mg_own (hS : RepS w σ (own :: own0 :: Ω) (bo :: bo0 :: bΩ)) {b : Nat} (h : Own ((own0 ++ own.map (Obj.mg own0.length)) :: Ω) ((bo0 ++ bo) :: bΩ) b) : Own (own :: own0 :: Ω) (bo :: bo0 :: bΩ) b := by
  have hlo : bo.length = own.length := by
    obtain ⟨gr, h1, h2⟩ := hS.shape.2 0 own rfl
    simp at h1; rw [h1]; exact h2
  have hl : bo0.length = own0.length := by
    obtain ⟨gr, h1, h2⟩ := hS.shape.2 1 own0 rfl
    simp at h1; rw [h1]; exact h2
  obtain ⟨k, o, hv, e1, e2, e3⟩ := h
  obtain ⟨k0, o0, hk, ho0, ho, hh⟩ := mg_from (bo := bo) (bΩ := bΩ) hl hlo e1
  rw [hh] at e2
  refine ⟨k0, o0, hv, ho0, e2, ?_⟩
  rw [ho] at e3
  split at e3
  · rw [owns_mg] at e3; exact e3
  · exact e3
end
def escQ (P : Program) (rs : List ResultVar) (post : V → Store → Prop) (e : Exit) (s : St) : Prop :=
  match e with
  | .normal | .ret => (resV P rs s).1 ∧ match s.st with
    | own :: own0 :: Ω => post ((resV P rs s).2.mg own0.length) ((own0 ++ own.map (Obj.mg own0.length)) :: Ω)
    | _ => False
  | _ => False
section
variable {P : Program} {N : Nat} {s : St}
theorem acall_esc {f : FuncId} {fn : Func} {c : Code} {args : List V} {own0 : List Obj} {Ω : Store} {post : V → Store → Prop} (hf : P.funcs[f]? = some fn) (hb : fn.body = some c) (hn : (fn.name == "runtime.NumGoroutine") = false)
    (hl : args.length ≤ fn.ntmps) (h : AW P fn.ntmps c (escQ P fn.results.toList post) ⟨argTm (args.map (V.up 1)) 0, [] :: own0 :: Ω⟩) : ACall P f args (own0 :: Ω) post := by
  refine ⟨⟨fn, hf, hn, by simp [hb]⟩, fun w σ β vs hS hargs => ?_⟩
  refine calls_of_wp hf hb ?_
  have hlen : vs.length = args.length := hargs.1.symm
  have hRep : Rep fn.ntmps ⟨argTm (args.map (V.up 1)) 0, [] :: own0 :: Ω⟩ { tmps := vs.toArray ++ Array.replicate (fn.ntmps - vs.toArray.size) undef, defers := [] } w σ ([] :: β) := by
    refine ⟨by simp; omega, rfl, hS.up1, fun t => ?_⟩
    show RepV w σ ([] :: own0 :: Ω) ([] :: β) (look (argTm (args.map (V.up 1)) 0) t) _
    rw [look_argTm, if_pos (Nat.zero_le _), Nat.sub_zero, List.getElem?_map]
    cases ha : args[t]? with
    | none => exact trivial
    | some x =>
      obtain ⟨v, hv, hr⟩ := hargs.2 t x ha
      have ht := (List.getElem?_eq_some_iff.1 hv).1
      have : (vs.toArray ++ Array.replicate (fn.ntmps - vs.toArray.size) undef).getD t undef = v := by
        rw [Array.getD_eq_getD_getElem?, Array.getElem?_append_left (by simpa using ht)]
        simp [hv]
      rw [this]
      exact rep_upV (S := [] :: own0 :: Ω) (β := [] :: β) 1 hr
  refine wp_mono (h _ w σ ([] :: β) hRep) ?_
  rintro e a' w' ⟨s', σ', β', hR, hst, hkp, hq⟩
  have main : ((resV P fn.results.toList s').1 ∧ match s'.st with
    | own :: own0 :: Ω => post ((resV P fn.results.toList s').2.mg own0.length) ((own0 ++ own.map (Obj.mg own0.length)) :: Ω)
    | _ => False) →
      a'.defers = [] ∧ ∃ v, (results fn a'.tmps).run P w' = .ok v w' ∧ ∃ v_1 r S' σ' β', Ending.returned v = Ending.returned v_1 ∧ RepS w' σ' S' β' ∧ Keep (own0 :: Ω) β S' β' ∧ Step (own0 :: Ω) β σ w S' β' σ' w' ∧ RepV w' σ' S' β' r v_1 ∧ post r S' := by
    rintro ⟨q1, q2⟩
    obtain ⟨v, hv, hrep⟩ := res_sound (fn := fn) hR q1
    obtain ⟨tm, st⟩ := s'
    simp only at q2
    split at q2
    · rename_i own own1 Ω1
      obtain ⟨bo, bΩ', rfl, hlo⟩ := frames hR
      cases bΩ' with
      | nil => have := hR.S.shape.1; simp at this
      | cons bo1 bΩ1 =>
        have hl1 : bo1.length = own1.length := by
          obtain ⟨gr, h1, h2⟩ := hR.S.shape.2 1 own1 rfl
          simp at h1; rw [h1]; exact h2
        have hkp' : Keep (own0 :: Ω) β (own1 :: Ω1) (bo1 :: bΩ1) := hkp
        have hst' : Step ([] :: own0 :: Ω) ([] :: β) σ w (own :: own1 :: Ω1) (bo :: bo1 :: bΩ1) σ' w' := hst
        exact ⟨hR.defers, v, hv, v, _, _, σ', _, rfl, mg_S hR.S, hkp'.trans (mg_keep hl1), ⟨hst'.size, hst'.os, hst'.output, fun b hb ho => hst'.far b hb (fun x => ho (own_up1 x)), hst'.near, fun b hb => (hst'.own b (mg_own hR.S hb)).imp own_up1 id⟩, mg_V hl1 hrep, q2⟩
    · exact q2.elim
  cases e with
  | normal => exact main hq
  | ret => exact main hq
  | _ => exact hq.elim
def escS (P : Program) (rs : List ResultVar) (post : V → Store → Prop) (s : St) (r : R) : Prop := r.1 ∧ match s.st with
  | own :: own0 :: Ω => post (r.2.mg own0.length) ((own0 ++ own.map (Obj.mg own0.length)) :: Ω)
  | _ => False
@[congr] theorem escS_congr {rs : List ResultVar} {post : V → Store → Prop} {s s' : St} {r r' : R} (h1 : s = s') (h2 : r = r') : escS P rs post s r = escS P rs post s' r' := by rw [h1, h2]
theorem escQ_ret {rs : List ResultVar} {post : V → Store → Prop} {tm : List (Nat × V)} {S : Store} : escQ P rs post .ret ⟨tm, S⟩ = escS P rs post ⟨tm, S⟩ (resV P rs ⟨tm, S⟩) := rfl
theorem escQ_normal {rs : List ResultVar} {post : V → Store → Prop} {tm : List (Nat × V)} {S : Store} : escQ P rs post .normal ⟨tm, S⟩ = escS P rs post ⟨tm, S⟩ (resV P rs ⟨tm, S⟩) := rfl
theorem escS_mk {rs : List ResultVar} {post : V → Store → Prop} {tm : List (Nat × V)} {own own0 : List Obj} {Ω : Store} {p : Prop} {v : V} :
    escS P rs post ⟨tm, own :: own0 :: Ω⟩ (p, v) = (p ∧ post (v.mg own0.length) ((own0 ++ own.map (Obj.mg own0.length)) :: Ω)) := rfl
theorem acall_cwe {f : FuncId} {fn : Func} {c : Code} {args : List V} {own0 : List Obj} {Ω : Store} {post : V → Store → Prop} {rs : List ResultVar} (hmix : P.follows .mixedOrders = true) (hf : P.funcs[f]? = some fn) (hN : fn.ntmps = N)
    (hb : fn.body = some c) (hn : (fn.name == "runtime.NumGoroutine") = false) (hr : fn.results.toList = rs) (hl : Nat.ble args.length N = true) (hok : codeOk N c = true)
    (h : CW P N c (escQ P rs post) ⟨argTm (args.map (V.up 1)) 0, [] :: own0 :: Ω⟩) : ACall P f args (own0 :: Ω) post := by
  subst hN
  subst hr
  exact acall_esc hf hb hn (Nat.le_of_ble_eq_true hl) (cw_sound hmix c _ _ hok h)
theorem mgK_0 {n j : Nat} : mgK n (0, j) = (0, n + j) := rfl
theorem mgK_1 {n l j : Nat} : mgK n (1 + l, j) = (l, j) := by rw [Nat.add_comm]; rfl
end
attribute [go_sem ↓] escQ_ret escQ_normal
attribute [go_sem] escS_mk V.mg C.mg Obj.mg mgK_0 mgK_1
end Go.Ab

namespace Go.Ab
section
variable {P : Program} {N : Nat} {S : Store} {s : St} {tm : List (Nat × V)}
def loneK (E : Md) (R : Array Oper) (K : St → Prop) (s : St) : Prop := loneB E R s.tm = true ∧ K s
@[congr] theorem loneK_congr {E : Md} {R : Array Oper} {K : St → Prop} {s s' : St} (h2 : s = s') : loneK E R K s = loneK E R K s' := by rw [h2]
def CWL (P : Program) (N : Nat) : Code → (Exit → St → Prop) → St → Prop
  | .seq x y, Q, s => CWL P N x (thenK (CWL P N y Q) Q) s
  | .region _ R true, Q, s => dops P (autoEL R N) R R.toList s (loneK (autoEL R N) R (Q .normal))
  | .region id R false, Q, s => CW P N (.region id R false) Q s
  | .cond c x y, Q, s => CW P N (.cond c x y) Q s
  | .block id c, Q, s => CW P N (.block id c) Q s
  | .exit id, Q, s => CW P N (.exit id) Q s
  | .ret, Q, s => CW P N .ret Q s
  | .skip, Q, s => CW P N .skip Q s
  | .loop c, Q, s => CW P N (.loop c) Q s
  | _, _, _ => False
theorem cwl_seq {x y : Code} {Q : Exit → St → Prop} : CWL P N (.seq x y) Q s = CWL P N x (thenK (CWL P N y Q) Q) s := by rw [CWL]
theorem cwl_draw {id : Nat} {l : List Oper} {Q : Exit → St → Prop} : CWL P N (.region id ⟨l⟩ true) Q s = dops P (autoEL ⟨l⟩ N) ⟨l⟩ l s (loneK (autoEL ⟨l⟩ N) ⟨l⟩ (Q .normal)) := by rw [CWL]
theorem cwl_region {id : Nat} {l : List Oper} {Q : Exit → St → Prop} : CWL P N (.region id ⟨l⟩ false) Q s = CW P N (.region id ⟨l⟩ false) Q s := by rw [CWL]
theorem cwl_cond {c : Operand} {x y : Code} {Q : Exit → St → Prop} : CWL P N (.cond c x y) Q s = CW P N (.cond c x y) Q s := by rw [CWL]
theorem cwl_ret {Q : Exit → St → Prop} : CWL P N .ret Q s = CW P N .ret Q s := by rw [CWL]
theorem cwl_skip {Q : Exit → St → Prop} : CWL P N .skip Q s = CW P N .skip Q s := by rw [CWL]
end
attribute [go_sem ↓] cwl_seq cwl_draw cwl_region cwl_cond cwl_ret cwl_skip
end Go.Ab

namespace Go.Ab
section
variable {P : Program} {N : Nat} {S : Store} {s : St} {tm : List (Nat × V)}
def CWM (P : Program) (N : Nat) : Code → (Exit → St → Prop) → St → Prop
  | .seq x y, Q, s => CWM P N x (thenK (CWM P N y Q) Q) s
  | .region _ R true, Q, s => dops P (autoEL R N) R R.toList s (loneK (autoEL R N) R (Q .normal))
  | .region id R false, Q, s => CW P N (.region id R false) Q s
  | .cond c x y, Q, s => condW (ev s.tm c) (CWM P N x Q) (CWM P N y Q) s
  | .block id c, Q, s => CWM P N c (inBlk id Q) s
  | .exit id, Q, s => CW P N (.exit id) Q s
  | .ret, Q, s => CW P N .ret Q s
  | .skip, Q, s => CW P N .skip Q s
  | .loop c, Q, s => CW P N (.loop c) Q s
  | _, _, _ => False
def codeOkM (N : Nat) : Code → Bool
  | .seq x y => codeOkM N x && codeOkM N y
  | .region _ R true => drawAnyL R N
  | .cond _ x y => codeOkM N x && codeOkM N y
  | .block _ c => codeOkM N c
  | c => codeOk N c
theorem cwm_sound (hmix : P.follows .mixedOrders = true) : ∀ (c : Code) (Q : Exit → St → Prop) (s : St), codeOkM N c = true → CWM P N c Q s → AW P N c Q s
  | .seq x y, Q, s, ok, h => by
    simp only [codeOkM, Bool.and_eq_true] at ok
    refine aw_seq (AW.mono (cwm_sound hmix x _ s ok.1 h) fun e s' h' => ?_)
    cases e with
    | normal => exact cwm_sound hmix y Q s' ok.2 h'
    | _ => exact h'
  | .region _ R true, Q, s, ok, h => aw_drawAnyL hmix ok h
  | .region id R false, Q, s, ok, h => cw_sound hmix _ Q s ok h
  | .cond c x y, Q, s, ok, h => by
    simp only [codeOkM, Bool.and_eq_true] at ok
    simp only [CWM, condW] at h
    split at h
    · rename_i b hb
      exact aw_cond hb (fun e => cwm_sound hmix x Q s ok.1 (h.1 e)) (fun e => cwm_sound hmix y Q s ok.2 (h.2 e))
    · exact h.elim
  | .block id c, Q, s, ok, h => aw_block (cwm_sound hmix c _ s ok h)
  | .exit id, Q, s, ok, h => cw_sound hmix _ Q s ok h
  | .ret, Q, s, ok, h => cw_sound hmix _ Q s ok h
  | .skip, Q, s, ok, h => cw_sound hmix _ Q s ok h
  | .loop c, Q, s, ok, h => cw_sound hmix _ Q s ok h
  | .rangeFunc _ _ _ _, Q, s, ok, h => h.elim
  | .scope _, Q, s, ok, h => h.elim
  | .label _, Q, s, ok, h => h.elim
  | .goto _, Q, s, ok, h => h.elim
  | .refuse _, Q, s, ok, h => h.elim
theorem cwm_seq {x y : Code} {Q : Exit → St → Prop} : CWM P N (.seq x y) Q s = CWM P N x (thenK (CWM P N y Q) Q) s := by rw [CWM]
theorem cwm_draw {id : Nat} {l : List Oper} {Q : Exit → St → Prop} : CWM P N (.region id ⟨l⟩ true) Q s = dops P (autoEL ⟨l⟩ N) ⟨l⟩ l s (loneK (autoEL ⟨l⟩ N) ⟨l⟩ (Q .normal)) := by rw [CWM]
theorem cwm_region {id : Nat} {l : List Oper} {Q : Exit → St → Prop} : CWM P N (.region id ⟨l⟩ false) Q s = CW P N (.region id ⟨l⟩ false) Q s := by rw [CWM]
theorem cwm_cond {c : Operand} {x y : Code} {Q : Exit → St → Prop} : CWM P N (.cond c x y) Q s = condW (ev s.tm c) (CWM P N x Q) (CWM P N y Q) s := by rw [CWM]
theorem cwm_block {id : Nat} {c : Code} {Q : Exit → St → Prop} : CWM P N (.block id c) Q s = CWM P N c (inBlk id Q) s := by rw [CWM]
theorem cwm_exit {id : Nat} {Q : Exit → St → Prop} : CWM P N (.exit id) Q s = CW P N (.exit id) Q s := by rw [CWM]
theorem cwm_ret {Q : Exit → St → Prop} : CWM P N .ret Q s = CW P N .ret Q s := by rw [CWM]
theorem cwm_skip {Q : Exit → St → Prop} : CWM P N .skip Q s = CW P N .skip Q s := by rw [CWM]
theorem cwm_loop {c : Code} {Q : Exit → St → Prop} : CWM P N (.loop c) Q s = CW P N (.loop c) Q s := by rw [CWM]
theorem acall_cwm {f : FuncId} {fn : Func} {c : Code} {args : List V} {post : V → Store → Prop} {rs : List ResultVar} (hmix : P.follows .mixedOrders = true) (hf : P.funcs[f]? = some fn) (hN : fn.ntmps = N)
    (hb : fn.body = some c) (hn : (fn.name == "runtime.NumGoroutine") = false) (hr : fn.results.toList = rs) (hl : Nat.ble args.length N = true) (hok : codeOkM N c = true)
    (h : CWM P N c (retF P rs post) ⟨argTm (args.map (V.up 1)) 0, [] :: S⟩) : ACall P f args S post := by
  subst hN
  subst hr
  exact acall_enter hf hb hn (Nat.le_of_ble_eq_true hl) (aw_end frzAll_ghost (cwm_sound hmix c _ _ hok h))
end
attribute [go_sem ↓] cwm_seq cwm_draw cwm_region cwm_cond cwm_block cwm_exit cwm_ret cwm_skip cwm_loop
end Go.Ab

namespace Go.Ab
def isCur (T : List TypeId) : Op → Bool
  | .call { callee := .value _, args := _, argTypes := ts } => !(ts.toList.all fun t => T.all fun u => !(t == u))
  | _ => false
def cMd (T : List TypeId) (R : Array Oper) : Md := fun op => match tryMd R 0 op with
  | 0 => if isCur T op then 3 else 0
  | m => m
def refKey : V → Option Key
  | .c (.ptr k _) => some k
  | .c (.eptr k _ _) => some k
  | .c (.msl k) => some k
  | .c (.mp k) => some k
  | .c (.xp k _ _) => some k
  | .c (.xq k _ _ _ _ _) => some k
  | _ => none
theorem refTo_key {v : V} {k : Key} (h : RefTo v k) : refKey v = some k := by
  rcases h with ⟨_, rfl⟩ | ⟨_, _, rfl⟩ | rfl | rfl | ⟨_, _, rfl⟩ | ⟨_, _, _, _, _, rfl⟩ <;> rfl
def keyNe : Key → Key → Bool
  | (0, a), (0, b) => a != b
  | (0, _), (_ + 1, _) => true
  | (_ + 1, _), (0, _) => true
  | _, _ => false
theorem keyNe_ne {k k' : Key} (h : keyNe k k' = true) : k ≠ k' := by
  rintro rfl
  obtain ⟨l, j⟩ := k
  cases l <;> simp [keyNe] at h
def awayC (v w : V) : Bool := match refKey v, refKey w with
  | some k, some k' => keyNe k k'
  | _, _ => true
def chOps : Op → List Operand
  | .store _ a _ => [a]
  | .call { callee := .value _, args := ags, argTypes := _ } => ags.toList
  | _ => []
def loneOkC (R : Array Oper) (i : Nat) (x : Oper) (j : Nat) (y : Oper) : Bool := isCallV y.op || (match x.op with
  | .store _ _ _ => true
  | .call { callee := .value _, args := _, argTypes := _ } => true
  | _ => false) && (chOps x.op).all (settled R i) && y.op.operands.toList.all (settled R j)
def clashC (T : List TypeId) (R : Array Oper) (p i j : Nat) (x y : Oper) : Bool := !(x.apart R y) || (!(decide (j = p)) && ((isDx (cMd T R) x.op && isDx (cMd T R) y.op) || (isSx (cMd T R) x.op && !(loneOkC R i x j y)) || (isSx (cMd T R) y.op && !(loneOkC R j y i x))))
def drawOkCP (T : List TypeId) (R : Array Oper) (N p : Nat) : Bool := pendOk (cMd T R) R p &&
  (List.range R.size).all fun j =>
    (match R[j]? with
     | some o => o.after.toList.all (fun e => !Region.binds .any e || decide (e.on < j)) && (match o.dst with | some d => decide (d < N) | none => true)
     | none => true) &&
    (List.range j).all fun i =>
      match R[i]?, R[j]? with
      | some x, some y => ((masks R.toList []).getD j 0).testBit i || !(clashC T R p i j x y)
      | _, _ => true
def pOfC (T : List TypeId) (R : Array Oper) (N : Nat) : Nat := if drawOkCP T R N R.size then R.size else ((List.range R.size).find? fun p => hasAlloc R p && drawOkCP T R N p).getD R.size
def drawOkC (T : List TypeId) (R : Array Oper) (N : Nat) : Bool := drawOkCP T R N (pOfC T R N)
def loneC (E : Md) (R : Array Oper) (tm : List (Nat × V)) : Bool :=
  (List.range R.size).all fun i => match R[i]? with
    | some x => !(isSx E x.op) || (chOps x.op).all fun a => (List.range R.size).all fun j => match R[j]? with
        | some y => bitIn R i j || isDx E y.op || isCallV y.op || isMv y.op || y.op.operands.toList.all (fun z => awayC (ev tm a) (ev tm z))
        | none => true
    | none => true
def Foot (vs : List V) (S S' : Store) : Prop := ∀ k, (∃ v ∈ vs, RefTo v k) ∨ getO S' k = getO S k
def footB (T : List TypeId) (R : Array Oper) (op : Op) (tm : List (Nat × V)) (S S' : Store) : Prop := match op with
  | .call { callee := .value x, args := ags, argTypes := ts } => cMd T R (.call { callee := .value x, args := ags, argTypes := ts }) = 3 → Foot (evL tm ags.toList) S S'
  | _ => True
section
variable {P : Program} {N : Nat} {S : Store} {s : St} {tm : List (Nat × V)} {T : List TypeId} {R : Array Oper}
def dopsC (P : Program) (T : List TypeId) (R : Array Oper) : List Oper → St → (St → Prop) → Prop
  | [], s, K => K s
  | o :: os, s, K => dguardW P (cMd T R) R o s fun s' => footB T R o.op s.tm s.st s'.st ∧ dopsC P T R os s' K
theorem cMd_cases {op : Op} (h : 2 ≤ cMd T R op) : cMd T R op = 3 ∨ (List.range R.size).all (fun i => match R[i]? with
    | some o => (callFn op != callFn o.op) || inOrder R i
    | none => true) = true := by
  unfold cMd at h ⊢
  split at h
  · rename_i e
    split at h
    · rename_i hc; left; rw [if_pos hc]
    · omega
  · rename_i m hm
    right
    unfold tryMd at h
    split at h
    · rename_i hq; exact hq
    · omega
theorem in_order {o : Oper} {i j : Nat} (ho : R[i]? = some o) (hj : j < R.size) (hij : i ≠ j) (h : (List.range R.size).all (fun i => match R[i]? with
    | some o' => (callFn o.op != callFn o'.op) || inOrder R i
    | none => true) = true) : bitIn R i j = true := by
  have hi : i < R.size := (Array.getElem?_eq_some_iff.1 ho).1
  have h1 := List.all_eq_true.1 h i (List.mem_range.2 hi)
  rw [ho] at h1
  simp only [bne_self_eq_false, Bool.false_or] at h1
  have h2 := List.all_eq_true.1 h1 j (List.mem_range.2 hj)
  unfold bitIn
  have hne : ¬ j = i := fun e => hij e.symm
  simp only [hne, decide_false, Bool.false_or] at h2
  by_cases e : i < j
  · rw [if_pos e]; rwa [if_neg (by omega)] at h2
  · rw [if_neg e]; rwa [if_pos (by omega)] at h2
theorem tstep_cur {o : Oper} {s s' : St} {v : V} (ht : TStep P (cMd T R) R o s v s') (hf : footB T R o.op s.tm s.st s'.st) (hc : isCallV o.op = true) (hm : cMd T R o.op = 3) {k : Key}
    (hk : ∀ a ∈ chOps o.op, ∀ k', refKey (ev s.tm a) = some k' → k' ≠ k) : getO s'.st k = getO s.st k := by
  obtain ⟨dst, op, ty, pos, after, guard⟩ := o
  cases op with
  | call c =>
    obtain ⟨cal, args, ts⟩ := c
    cases cal with
    | value f =>
      rcases hf hm k with ⟨v, hv, hr⟩ | h
      · obtain ⟨a, ha, rfl⟩ := List.mem_map.1 hv
        exact absurd rfl (hk a ha k (refTo_key hr))
      · exact h
    | _ => cases hc
  | _ => cases hc
theorem awayC_spec {v w : V} (h : awayC v w = true) {k k' : Key} (hv : refKey v = some k') (hw : RefTo w k) : k' ≠ k := by
  unfold awayC at h
  rw [hv, refTo_key hw] at h
  exact keyNe_ne h
theorem dok_cur {st : Nat → St} {vs : Nat → V} {p : Nat} (hok : drawOkCP T R N p = true)
    (hF : ∀ i, i < R.size → ∃ o, R[i]? = some o ∧ TStep P (cMd T R) R o (st i) (vs i) (st (i + 1)) ∧ footB T R o.op (st i).tm (st i).st (st (i + 1)).st) (hl : loneC (cMd T R) R (st R.size).tm = true) : DOk (cMd T R) R N st p := by
  unfold drawOkCP at hok
  rw [Bool.and_eq_true] at hok
  have hpd := pend_ok hok.1
  obtain ⟨hed, h2⟩ := draw_parts (f := fun i j x y => clashC T R p i j x y) hok.2
  have hT : ∀ i, i < R.size → ∃ o, R[i]? = some o ∧ TStep P (cMd T R) R o (st i) (vs i) (st (i + 1)) := fun i hi => by
    obtain ⟨o, a, b, _⟩ := hF i hi
    exact ⟨o, a, b⟩
  refine ⟨?_, ?_, ?_, ?_, hpd⟩
  · intro i o e ho he hb
    have h2 := hed i o ho
    simp only [Bool.and_eq_true] at h2
    have h3 := List.all_eq_true.1 h2.1 e (by simpa using he)
    simpa [hb] using h3
  · intro i o ho d hd
    have h2 := hed i o ho
    simp only [Bool.and_eq_true, hd] at h2
    simpa using h2.2
  · intro i j x y hij hx hy hc
    rcases h2 i j x y hij hx hy with h | h
    · exact .inl h
    · unfold clashC at h
      unfold clash0 at hc
      rw [Bool.or_eq_false_iff, Bool.not_eq_false'] at h
      rw [h.1] at hc
      simp only [Bool.not_true, Bool.false_or] at hc
      by_cases e : j = p
      · exact .inr ⟨e, (Bool.and_eq_true _ _ ▸ hc).1, h.1⟩
      · have h3 := h.2
        simp only [e, decide_false, Bool.not_false, Bool.true_and, Bool.or_eq_false_iff] at h3
        rw [hc] at h3; cases h3.1.1
  · intro i j x o hij hx ho hs hD hc
    have hjp : j ≠ p := fun e => by
      subst e
      have := (alloc_dx (E := cMd T R) (hpd o ho).1).1
      rw [hD] at this; cases this
    have hip : i ≠ p := fun e => by
      subst e
      have := (alloc_dx (E := cMd T R) (hpd x hx).1).2.1
      rw [hs] at this; cases this
    cases hb : bitIn R i j with
    | true => exact .inl rfl
    | false =>
      refine .inr ?_
      rintro k ⟨hmv, z, hz, hk⟩
      have hi : i < R.size := (Array.getElem?_eq_some_iff.1 hx).1
      have hj : j < R.size := (Array.getElem?_eq_some_iff.1 ho).1
      have hlo : loneOkC R i x j o = true := by
        unfold bitIn at hb
        by_cases e : i < j
        · rw [if_pos e] at hb
          rcases h2 i j x o e hx ho with h | h
          · rw [hb] at h; cases h
          · simp only [clashC, hjp, decide_false, Bool.not_false, hs, Bool.true_and, Bool.or_eq_false_iff, Bool.not_eq_false'] at h
            exact h.2.1.2
        · rw [if_neg e] at hb
          rcases h2 j i o x (by omega) ho hx with h | h
          · rw [hb] at h; cases h
          · simp only [clashC, hip, decide_false, Bool.not_false, hs, Bool.true_and, Bool.or_eq_false_iff, Bool.not_eq_false'] at h
            exact h.2.2
      unfold loneOkC at hlo
      rw [hc, Bool.false_or, Bool.and_eq_true, Bool.and_eq_true] at hlo
      obtain ⟨⟨hop, hsa⟩, hsy⟩ := hlo
      have hz' : z ∈ o.op.operands.toList := by simpa using hz
      have hsz := List.all_eq_true.1 hsy z hz'
      have h1 := List.all_eq_true.1 hl i (List.mem_range.2 hi)
      rw [hx] at h1
      simp only [hs, Bool.not_true, Bool.false_or] at h1
      have key : ∀ a ∈ chOps x.op, ∀ k', refKey (ev (st i).tm a) = some k' → k' ≠ k := fun a ha k' hk' => by
        have h3 := List.all_eq_true.1 h1 a ha
        have h4 := List.all_eq_true.1 h3 j (List.mem_range.2 hj)
        rw [ho] at h4
        simp only [hb, hD, hc, hmv, Bool.false_or] at h4
        have h5 := List.all_eq_true.1 h4 z hz'
        rw [settled_ev hT (by omega) (List.all_eq_true.1 hsa a ha), settled_ev hT (by omega) hsz] at h5
        exact awayC_spec h5 hk' hk
      obtain ⟨x', hx', ht, hf⟩ := hF i hi
      rw [hx] at hx'; cases hx'
      split at hop
      · rename_i t a y e
        refine tstep_store e ht fun k' hk' => key a (by rw [e]; exact List.mem_singleton.2 rfl) k' ?_
        rcases hk' with ⟨_, h⟩ | ⟨_, _, h⟩ | ⟨_, _, _, _, _, h⟩ <;> rw [h] <;> rfl
      · rename_i f ags ts e
        have hcv : isCallV x.op = true := by rw [e]; rfl
        have h2m : 2 ≤ cMd T R x.op := by
          unfold isSx at hs
          have hns : isStore x.op = false := by rw [e]; rfl
          rw [hns, Bool.false_or, Bool.and_eq_true, decide_eq_true_eq] at hs
          exact hs.1
        rcases cMd_cases h2m with h3 | h3
        · exact tstep_cur ht hf hcv h3 key
        · rw [in_order hx hj hij h3] at hb; cases hb
      · cases hop
theorem aw_draw_cur {id : Nat} {Q : Exit → St → Prop} {s : St} (hmix : P.follows .mixedOrders = true) (hok : drawOkC T R N = true) (h : dopsC P T R R.toList s (fun s' => loneC (cMd T R) R s'.tm = true ∧ Q .normal s')) : AW P N (.region id R true) Q s := by
  obtain ⟨st, vs, h0, hK, hT⟩ := dops_runF (F := fun o s s' => footB T R o.op s.tm s.st s'.st) (D := fun os s => dopsC P T R os s (fun s' => loneC (cMd T R) R s'.tm = true ∧ Q .normal s')) (fun _ h => h) (fun o os s h => by
    obtain ⟨v, s', a, b⟩ := dguard_step h
    exact ⟨v, s', a, b⟩) R.size 0 (by omega) s h
  have hT' := fun i hi => hT i (Nat.zero_le i) hi
  refine aw_draw0 (vs := vs) hmix h0 hK.2 (fun i hi => ?_) (dok_cur hok hT' hK.1)
  obtain ⟨o, a, b, _⟩ := hT' i hi
  exact ⟨o, a, b⟩
def loneCK (E : Md) (R : Array Oper) (K : St → Prop) (s : St) : Prop := loneC E R s.tm = true ∧ K s
@[congr] theorem loneCK_congr {E : Md} {R : Array Oper} {K : St → Prop} {s s' : St} (h2 : s = s') : loneCK E R K s = loneCK E R K s' := by rw [h2]
def dopsCK (P : Program) (T : List TypeId) (R : Array Oper) (os : List Oper) (K : St → Prop) (s : St) : Prop := dopsC P T R os s K
def footK (P : Program) (T : List TypeId) (R : Array Oper) (op : Op) (tm : List (Nat × V)) (S : Store) (os : List Oper) (K : St → Prop) (s' : St) : Prop := footB T R op tm S s'.st ∧ dopsCK P T R os K s'
@[congr] theorem dopsC_congr {os : List Oper} {s s' : St} {K : St → Prop} (h2 : s = s') : dopsC P T R os s K = dopsC P T R os s' K := by rw [h2]
@[congr] theorem dopsCK_congr {os : List Oper} {s s' : St} {K : St → Prop} (h2 : s = s') : dopsCK P T R os K s = dopsCK P T R os K s' := by rw [h2]
@[congr] theorem footK_congr {op : Op} {os : List Oper} {s s' : St} {K : St → Prop} (h2 : s = s') : footK P T R op tm S os K s = footK P T R op tm S os K s' := by rw [h2]
theorem dopsC_nil {K : St → Prop} : dopsC P T R [] ⟨tm, S⟩ K = K ⟨tm, S⟩ := rfl
theorem dopsC_cons {o : Oper} {os : List Oper} {K : St → Prop} : dopsC P T R (o :: os) ⟨tm, S⟩ K = dguardW P (cMd T R) R o ⟨tm, S⟩ (footK P T R o.op tm S os K) := rfl
theorem dopsCK_nil {K : St → Prop} : dopsCK P T R [] K ⟨tm, S⟩ = K ⟨tm, S⟩ := rfl
theorem dopsCK_cons {o : Oper} {os : List Oper} {K : St → Prop} : dopsCK P T R (o :: os) K ⟨tm, S⟩ = dguardW P (cMd T R) R o ⟨tm, S⟩ (footK P T R o.op tm S os K) := rfl
theorem footK_mk {op : Op} {os : List Oper} {K : St → Prop} {tm' : List (Nat × V)} {S' : Store} : footK P T R op tm S os K ⟨tm', S'⟩ = (footB T R op tm S S' ∧ dopsCK P T R os K ⟨tm', S'⟩) := rfl
theorem foot_same {vs : List V} : Foot vs S S = True := by simp [Foot]
theorem foot_set {vs : List V} {k : Key} {off : Nat} {x : Obj} : Foot (.c (.ptr k off) :: vs) S (setO S k x) = True := by
  refine eq_true fun k' => ?_
  by_cases e : k = k'
  · subst e; exact .inl ⟨_, List.mem_cons_self, .inl ⟨_, rfl⟩⟩
  · exact .inr (getO_setO_ne _ _ _ _ e)
theorem foot_set1 {vs : List V} {l j off : Nat} {fr : List Obj} {x : Obj} : Foot (.c (.ptr (1 + l, j) off) :: vs) (fr :: S) (fr :: setO S (l, j) x) = True := by
  have := foot_set (S := fr :: S) (vs := vs) (k := (1 + l, j)) (off := off) (x := x)
  rwa [setO_up1] at this
theorem foot_set2 {vs : List V} {l j off : Nat} {fr : List Obj} {x y : Obj} : Foot (.c (.ptr (1 + l, j) off) :: vs) (fr :: setO S (l, j) x) (fr :: setO S (l, j) y) = True := by
  have := foot_set1 (S := setO S (l, j) x) (vs := vs) (l := l) (j := j) (off := off) (fr := fr) (x := y)
  rwa [setO_twice] at this
theorem foot_own {vs : List V} {j off : Nat} {fr fr' : List Obj} (h : fr'.set j .dead = fr.set j .dead) : Foot (.c (.ptr (0, j) off) :: vs) (fr :: S) (fr' :: S) := by
  rintro ⟨l, i⟩
  cases l with
  | succ l => exact .inr (by rw [getO_succ, getO_succ])
  | zero =>
    by_cases e : i = j
    · subst e; exact .inl ⟨_, List.mem_cons_self, .inl ⟨_, rfl⟩⟩
    · right
      have := congrArg (fun l => l[i]?) h
      simp only [List.getElem?_set_ne (Ne.symm e)] at this
      rw [getO_zero, getO_zero]; exact this
theorem imp_tr {p : Prop} : (p → True) = True := by simp
def CWC (P : Program) (N : Nat) (T : List TypeId) : Code → (Exit → St → Prop) → St → Prop
  | .seq x y, Q, s => CWC P N T x (thenK (CWC P N T y Q) Q) s
  | .region _ R true, Q, s => dopsC P T R R.toList s (loneCK (cMd T R) R (Q .normal))
  | .region id R false, Q, s => CW P N (.region id R false) Q s
  | .cond c x y, Q, s => condW (ev s.tm c) (CWC P N T x Q) (CWC P N T y Q) s
  | .block id c, Q, s => CWC P N T c (inBlk id Q) s
  | .exit id, Q, s => CW P N (.exit id) Q s
  | .ret, Q, s => CW P N .ret Q s
  | .skip, Q, s => CW P N .skip Q s
  | .loop c, Q, s => CW P N (.loop c) Q s
  | _, _, _ => False
def codeOkC (T : List TypeId) (N : Nat) : Code → Bool
  | .seq x y => codeOkC T N x && codeOkC T N y
  | .region _ R true => drawOkC T R N
  | .cond _ x y => codeOkC T N x && codeOkC T N y
  | .block _ c => codeOkC T N c
  | .loop _ => true
  | c => codeOk N c
theorem cwc_sound (hmix : P.follows .mixedOrders = true) : ∀ (c : Code) (Q : Exit → St → Prop) (s : St), codeOkC T N c = true → CWC P N T c Q s → AW P N c Q s
  | .seq x y, Q, s, ok, h => by
    simp only [codeOkC, Bool.and_eq_true] at ok
    refine aw_seq (AW.mono (cwc_sound hmix x _ s ok.1 h) fun e s' h' => ?_)
    cases e with
    | normal => exact cwc_sound hmix y Q s' ok.2 h'
    | _ => exact h'
  | .region _ R true, Q, s, ok, h => aw_draw_cur hmix ok h
  | .region id R false, Q, s, ok, h => cw_sound hmix _ Q s ok h
  | .cond c x y, Q, s, ok, h => by
    simp only [codeOkC, Bool.and_eq_true] at ok
    simp only [CWC, condW] at h
    split at h
    · rename_i b hb
      exact aw_cond hb (fun e => cwc_sound hmix x Q s ok.1 (h.1 e)) (fun e => cwc_sound hmix y Q s ok.2 (h.2 e))
    · exact h.elim
  | .block id c, Q, s, ok, h => aw_block (cwc_sound hmix c _ s ok h)
  | .exit id, Q, s, ok, h => cw_sound hmix _ Q s ok h
  | .ret, Q, s, ok, h => cw_sound hmix _ Q s ok h
  | .skip, Q, s, ok, h => cw_sound hmix _ Q s ok h
  | .loop c, Q, s, ok, h => by
    rw [CWC, cw_loop] at h
    exact h
  | .rangeFunc _ _ _ _, Q, s, ok, h => h.elim
  | .scope _, Q, s, ok, h => h.elim
  | .label _, Q, s, ok, h => h.elim
  | .goto _, Q, s, ok, h => h.elim
  | .refuse _, Q, s, ok, h => h.elim
theorem cwc_seq {x y : Code} {Q : Exit → St → Prop} : CWC P N T (.seq x y) Q s = CWC P N T x (thenK (CWC P N T y Q) Q) s := by rw [CWC]
theorem cwc_draw {id : Nat} {l : List Oper} {Q : Exit → St → Prop} : CWC P N T (.region id ⟨l⟩ true) Q s = dopsC P T ⟨l⟩ l s (loneCK (cMd T ⟨l⟩) ⟨l⟩ (Q .normal)) := by rw [CWC]
theorem cwc_region {id : Nat} {l : List Oper} {Q : Exit → St → Prop} : CWC P N T (.region id ⟨l⟩ false) Q s = CW P N (.region id ⟨l⟩ false) Q s := by rw [CWC]
theorem cwc_cond {c : Operand} {x y : Code} {Q : Exit → St → Prop} : CWC P N T (.cond c x y) Q s = condW (ev s.tm c) (CWC P N T x Q) (CWC P N T y Q) s := by rw [CWC]
theorem cwc_block {id : Nat} {c : Code} {Q : Exit → St → Prop} : CWC P N T (.block id c) Q s = CWC P N T c (inBlk id Q) s := by rw [CWC]
theorem cwc_exit {id : Nat} {Q : Exit → St → Prop} : CWC P N T (.exit id) Q s = CW P N (.exit id) Q s := by rw [CWC]
theorem cwc_ret {Q : Exit → St → Prop} : CWC P N T .ret Q s = CW P N .ret Q s := by rw [CWC]
theorem cwc_skip {Q : Exit → St → Prop} : CWC P N T .skip Q s = CW P N .skip Q s := by rw [CWC]
theorem cwc_loop {c : Code} {Q : Exit → St → Prop} : CWC P N T (.loop c) Q s = CW P N (.loop c) Q s := by rw [CWC]
theorem acall_cwc (T : List TypeId) {f : FuncId} {fn : Func} {c : Code} {args : List V} {post : V → Store → Prop} {rs : List ResultVar} (hmix : P.follows .mixedOrders = true) (hf : P.funcs[f]? = some fn) (hN : fn.ntmps = N)
    (hb : fn.body = some c) (hn : (fn.name == "runtime.NumGoroutine") = false) (hr : fn.results.toList = rs) (hl : Nat.ble args.length N = true) (hok : codeOkC T N c = true)
    (h : CWC P N T c (retF P rs post) ⟨argTm (args.map (V.up 1)) 0, [] :: S⟩) : ACall P f args S post := by
  subst hN
  subst hr
  exact acall_enter hf hb hn (Nat.le_of_ble_eq_true hl) (aw_end frzAll_ghost (cwc_sound hmix c _ _ hok h))
end
attribute [go_sem ↓] cwc_seq cwc_draw cwc_region cwc_cond cwc_block cwc_exit cwc_ret cwc_skip cwc_loop dopsC_nil dopsC_cons dopsCK_nil dopsCK_cons
attribute [go_sem] footK_mk footB foot_same foot_set1 foot_set2 imp_tr
end Go.Ab

namespace Go.Proofs.Ytceaigchkgifgaa.Fa
open Go Go.Ab
abbrev TyF (t c b : Nat) (z : List C) : Prop := Try.prog.cellsOf t = c ∧ Try.prog.bytesOf t = b ∧ (Try.prog.info? t).isSome = true ∧ zeroCs Try.prog t = some z
theorem tyF {t c b : Nat} {z : List C} (h1 : Try.prog.cellsOf t = c := by kernel_rfl) (h2 : Try.prog.bytesOf t = b := by kernel_rfl) (h3 : (Try.prog.info? t).isSome = true := by kernel_rfl) (h4 : zeroCs Try.prog t = some z := by kernel_rfl) : TyF t c b z := ⟨h1, h2, h3, h4⟩
theorem ty1 : TyF 1 1 8 [.d (.o .nilFunc)] := tyF
theorem ty2 : TyF 2 1 8 [.d (.i .i64 0)] := tyF
theorem ty3 : TyF 3 1 8 [.d (.i .i64 0)] := tyF
theorem ty4 : TyF 4 1 1 [.d (.b false)] := tyF
theorem zval4 : zeroV Try.prog 4 = some (.bool false) := by kernel_rfl
theorem ty5 : TyF 5 1 1 [.d (.i .u8 0)] := tyF
theorem ty9 : TyF 9 1 16 [.d (.s [])] := tyF
theorem ty12 : TyF 12 1 8 [.d (.i .u64 0)] := tyF
theorem ty20 : TyF 20 1 16 [.d (.o .nilIface)] := tyF
theorem ty21 : TyF 21 1 4 [.d (.i .i32 0)] := tyF
theorem ty22 : TyF 22 1 24 [.fsl []] := tyF
theorem ty23 : TyF 23 1 8 [.d (.o .nilFunc)] := tyF
theorem ty24 : TyF 24 1 24 [.fsl []] := tyF
theorem ty25 : TyF 25 3 48 [.d (.i .i64 0), .d (.s []), .fsl []] := tyF
theorem ty26 : TyF 26 3 48 [.d (.i .i64 0), .d (.s []), .fsl []] := tyF
theorem ty30 : TyF 30 1 8 [.d (.o .nilFunc)] := tyF
theorem ty31 : TyF 31 1 8 [.d (.o .nilFunc)] := tyF
theorem ty33 : TyF 33 1 24 [.fsl []] := tyF
theorem ty34 : TyF 34 1 8 [.d (.o .nilFunc)] := tyF
theorem ty35 : TyF 35 1 24 [.fsl []] := tyF
theorem ty36 : TyF 36 1 24 [.fsl []] := tyF
theorem ty38 : TyF 38 9 144 [.d (.i .i64 0), .d (.s []), .d (.s []), .d (.i .i64 0), .d (.i .i64 0), .d (.s []), .fsl [], .fsl [], .fsl []] := tyF
theorem ty42 : TyF 42 1 8 [.d (.o .nilFunc)] := tyF
theorem ty45 : TyF 45 1 8 [.d (.o .nilFunc)] := tyF
theorem ty47 : TyF 47 1 8 [.d (.o .nilFunc)] := tyF
theorem ty48 : TyF 48 1 8 [.d (.o .nilFunc)] := tyF
theorem ty52 : TyF 52 1 8 [.d (.o (.pointer none))] := tyF
theorem ty56 : TyF 56 1 8 [.d (.o (.map none))] := tyF
theorem ty59 : TyF 59 1 8 [.d (.o .nilFunc)] := tyF
theorem ty63 : TyF 63 11 184 [.d (.s []), .fsl [], .d (.i .i64 0), .d (.s []), .d (.s []), .d (.i .i64 0), .d (.i .i64 0), .d (.s []), .fsl [], .fsl [], .fsl []] := tyF
theorem ty64 : TyF 64 1 8 [.d (.o .nilFunc)] := tyF
theorem ty65 : TyF 65 1 8 [.d (.o .nilFunc)] := tyF
theorem ty66 : TyF 66 1 8 [.d (.o .nilFunc)] := tyF
theorem ty70 : TyF 70 1 24 [.fsl []] := tyF
theorem ty74 : TyF 74 4 64 [.d (.s []), .d (.i .i64 0), .d (.s []), .fsl []] := tyF
theorem ty82 : TyF 82 1 24 [.fsl []] := tyF
theorem ty85 : TyF 85 3 40 [.fsl [], .d (.i .i64 0), .d (.i .i64 0)] := tyF
theorem ty90 : TyF 90 1 8 [.d (.o .nilFunc)] := tyF
theorem ty107 : TyF 107 1 24 [.fsl []] := tyF
theorem laidOut : laidOutB Try.prog = true := by kernel_rfl
theorem own : ownKnob Try.prog.godebug = none := by kernel_rfl
attribute [go_sem] ty1 Try.underlying1 ty2 Try.underlying2 ty3 Try.underlying3 ty4 Try.underlying4 zval4 ty5 Try.underlying5 ty9 Try.underlying9 ty12 Try.underlying12 ty20 Try.underlying20 ty21 Try.underlying21 ty22 Try.underlying22 ty23 Try.underlying23 ty24 Try.underlying24 ty25 Try.underlying25 ty26 Try.underlying26 ty30 Try.underlying30 ty31 Try.underlying31 ty33 Try.underlying33 ty34 Try.underlying34 ty35 Try.underlying35 ty36 Try.underlying36 ty38 Try.underlying38 ty42 Try.underlying42 ty45 Try.underlying45 ty47 Try.underlying47 ty48 Try.underlying48 ty52 Try.underlying52 ty56 Try.underlying56 ty59 Try.underlying59 ty63 Try.underlying63 ty64 Try.underlying64 ty65 Try.underlying65 ty66 Try.underlying66 ty70 Try.underlying70 ty74 Try.underlying74 ty82 Try.underlying82 ty85 Try.underlying85 ty90 Try.underlying90 ty107 Try.underlying107
end Go.Proofs.Ytceaigchkgifgaa.Fa

namespace Go.Proofs.Ytceaigchkgifgaa
open Go Go.Ab
theorem equalStrings_ok (xs ys : List (List UInt8)) (hsz : xs.length ≤ 1073741824) : PCall Try.prog 15 [.c (.d (.sl (xs.map encS))), .c (.d (.sl (ys.map encS)))] (.c (.d (.b (dec (xs = ys))))) := by
  intro S
  refine acall_cw (rs := [.tmp 4]) Try.checked.mixed Try.func15 Try.ntmps15 rfl rfl rfl rfl rfl ?_
  simp -implicitDefEqProofs (disch := omega) only [go_sem]
  with_reducible refine split2 (fun hb => ?_) (fun hb => ?_) <;> have h := hb <;> (try simp only [wf_preprocess] at h) <;> simp -implicitDefEqProofs (disch := omega) only [go_sem, hb] <;> (repeat (with_reducible refine And.intro ?_ ?_; focus first | omega | rfl | assumption | exact ⟨_, rfl, rfl⟩ | (simp; omega) | (simp; done)))
  · exact bool_eq (dec_false (fun e => h (by rw [e]))).symm
  have hl : xs.length = ys.length := by omega
  refine loop_at (ι := Nat) Try.checked.mixed rfl [0, 1, 5] (fun y => [.c (.d (.sl (xs.map encS))), .c (.d (.sl (ys.map encS))), .c (.d (.i .i64 y))]) (fun y => [] :: S)
    (fun i => i ≤ xs.length ∧ ∀ j, j < i → xs[j]? = ys[j]?) (fun y => xs.length - y) 0 rfl rfl ⟨Nat.zero_le _, fun j h => by omega⟩ ?_
  rintro i ⟨p1, p2⟩
  simp -implicitDefEqProofs (disch := omega) only [go_sem]
  with_reducible refine split2 (fun hb => ?_) (fun hb => ?_) <;> have h := hb <;> (try simp only [wf_preprocess] at h) <;> simp -implicitDefEqProofs (disch := omega) only [go_sem, hb] <;> (repeat (with_reducible refine And.intro ?_ ?_; focus first | omega | rfl | assumption | exact ⟨_, rfl, rfl⟩ | (simp; omega) | (simp; done)))
  · have hi : i < xs.length := by omega
    have hi' : i < ys.length := by omega
    (repeat (with_reducible refine And.intro ?_ ?_; focus first | omega | rfl | assumption | exact ⟨_, rfl, rfl⟩ | (simp; omega) | (simp; done)))
    with_reducible refine split2 (fun hb => ?_) (fun hb => ?_) <;> have h := hb <;> (try simp only [wf_preprocess] at h) <;> simp -implicitDefEqProofs (disch := omega) only [go_sem, hb] <;> (repeat (with_reducible refine And.intro ?_ ?_; focus first | omega | rfl | assumption | exact ⟨_, rfl, rfl⟩ | (simp; omega) | (simp; done)))
    · exact bool_eq (dec_false (fun e => h (by simp only [e]))).symm
    refine inv_at (i + 1) (by omega) rfl rfl ⟨by omega, fun j hj => ?_⟩
    by_cases e : j = i
    · subst e
      rw [List.getElem?_eq_getElem hi, List.getElem?_eq_getElem hi', h]
    · exact p2 j (by omega)
  · have hi : i = xs.length := by omega
    refine bool_eq (dec_true (List.ext_getElem? fun j => ?_)).symm
    by_cases hj : j < i
    · exact p2 j hj
    · rw [List.getElem?_eq_none (by omega), List.getElem?_eq_none (by omega)]
end Go.Proofs.Ytceaigchkgifgaa

namespace Go.Ab
def encB (x : Int) : List D := [.i .u8 x]
theorem and255 (a : Int) : 0 ≤ andK .i64 a 255 ∧ andK .i64 a 255 ≤ 255 := by
  have h : (BitVec.ofInt IntKind.i64.bits a &&& BitVec.ofInt IntKind.i64.bits 255).toNat ≤ 255 := by
    rw [BitVec.toNat_and]
    refine Nat.le_trans Nat.and_le_right ?_
    decide
  unfold andK
  rw [IntWalk.i64_in _ (by omega)]
  omega
structure Bytes (bs : List Int) : Prop where
  len : bs.length ≤ 1048576
  rng : ∀ x ∈ bs, 0 ≤ x ∧ x ≤ 255
structure Cu (bs : List Int) where
  i : Int
  h : Int
  lo : 0 ≤ i
  hi : i ≤ bs.length
def cur {bs : List Int} (c : Cu bs) : List C := [.d (.sl (bs.map encB)), .d (.i .i64 c.i), .d (.i .i64 c.h)]
def hN (h : Int) : Int := IntKind.i64.wrap (IntKind.i64.wrap (h * 6364136223846793005) + 1442695040888963407)
def drawX (h : Int) : Int := andK .i64 (xorK .i64 (shrK .i64 (hN h) 33) (shrK .i64 (hN h) 45)) 255
def byteU {bs : List Int} (c : Cu bs) : Int × Cu bs :=
  if h : c.i < bs.length then (andK .i64 (drawX c.h + bs.getD c.i.toNat 0) 255, ⟨c.i + 1, hN c.h, by have := c.lo; omega, by omega⟩) else (drawX c.h, ⟨c.i, hN c.h, c.lo, c.hi⟩)
theorem byteU_rng {bs : List Int} (c : Cu bs) : 0 ≤ (byteU c).1 ∧ (byteU c).1 ≤ 255 := by
  unfold byteU
  split
  · exact and255 _
  · exact and255 _
def belowD {bs : List Int} (n : Int) (c : Cu bs) : Int × Cu bs := ((byteU c).1.tmod n, (byteU c).2)
theorem belowD_rng {bs : List Int} {n : Int} (c : Cu bs) (h : 1 ≤ n) : 0 ≤ (belowD n c).1 ∧ (belowD n c).1 < n :=
  ⟨Int.tmod_nonneg _ (byteU_rng c).1, Int.tmod_lt_of_pos _ (by omega)⟩
def onceD {bs : List Int} (n : Int) (c : Cu bs) : Bool × Cu bs := (decide ((belowD n c).1 = 0), (belowD n c).2)
def pickD {bs : List Int} (xs : List (List UInt8)) (c : Cu bs) : List UInt8 × Cu bs := (xs.getD (belowD xs.length c).1.toNat [], (belowD xs.length c).2)
theorem pickD_mem {bs : List Int} {xs : List (List UInt8)} (c : Cu bs) (h : 1 ≤ xs.length) : (pickD xs c).1 ∈ xs := by
  have := belowD_rng (n := xs.length) c (by omega)
  unfold pickD
  have hi : (belowD (xs.length : Int) c).1.toNat < xs.length := by omega
  simp only [List.getD, List.getElem?_eq_getElem hi, Option.getD_some]
  exact List.getElem_mem hi
end Go.Ab
namespace Go.Proofs.Ytceaigchkgifgaa
open Go Go.Ab
theorem l1Byte_ok {bs : List Int} (hB : Bytes bs) (c : Cu bs) (l j : Nat) (S : Store) (hk : getO S (l, j) = some (.box (cur c))) :
    ACall Try.prog 106 [.c (.ptr (l, j) 0)] S (fun r S' => r = .c (.d (.i .i64 (byteU c).1)) ∧ S' = setO S (l, j) (.box (cur (byteU c).2))) := by
  have h0 : 0 ≤ drawX c.h ∧ drawX c.h ≤ 255 := and255 _
  have hl := hB.len
  have g : ∀ x : Ab.Obj, getO (setO S (l, j) x) (l, j) = some x := fun x => getO_setO_eq _ _ _ _ hk
  obtain ⟨i, h, lo, hi⟩ := c
  simp only at h0
  by_cases hlt : i < bs.length
  · have hb := hB.rng (bs[i.toNat]'(by omega)) (List.getElem_mem _)
    have h1 : decide (i < (bs.length : Int)) = true := decide_eq_true hlt
    have e : bs.getD i.toNat 0 = bs[i.toNat]'(by omega) := by simp [List.getD, (show i.toNat < bs.length by omega)]
    rw [byteU, dif_pos hlt]
    simp only [e]
    unfold drawX hN at *
    refine acall_cw (rs := [.tmp 2]) Try.checked.mixed Try.func106 Try.ntmps106 rfl rfl rfl rfl rfl ?_
    simp -implicitDefEqProofs (disch := omega) only [go_sem, hk, cur, g, setO_twice, h1, encB]
    (repeat (with_reducible refine And.intro ?_ ?_; focus first | omega | rfl | assumption | exact ⟨_, rfl, rfl⟩ | (simp; omega) | (simp; done)))
    all_goals first | exact ⟨rfl, rfl⟩ | rfl | omega
  · have h1 : decide (i < (bs.length : Int)) = false := decide_eq_false hlt
    rw [byteU, dif_neg hlt]
    unfold drawX hN at *
    refine acall_cw (rs := [.tmp 2]) Try.checked.mixed Try.func106 Try.ntmps106 rfl rfl rfl rfl rfl ?_
    simp -implicitDefEqProofs (disch := omega) only [go_sem, hk, cur, g, setO_twice, h1, encB]
    first | done | exact ⟨rfl, rfl⟩ | rfl
theorem l1Below_ok {bs : List Int} (hB : Bytes bs) (c : Cu bs) (l j : Nat) (S : Store) (n : Int) (hk : getO S (l, j) = some (.box (cur c))) (h1 : 1 ≤ n) (h2 : n ≤ 256) :
    ACall Try.prog 73 [.c (.ptr (l, j) 0), .c (.d (.i .i64 n))] S (fun r S' => r = .c (.d (.i .i64 (belowD n c).1)) ∧ S' = setO S (l, j) (.box (cur (belowD n c).2))) := by
  have hx := byteU_rng c
  have d1 : decide (n ≤ 0) = false := decide_eq_false (by omega)
  have d2 : decide (n ≤ 256) = true := decide_eq_true h2
  refine acall_cw (rs := [.tmp 4]) Try.checked.mixed Try.func73 Try.ntmps73 rfl rfl rfl rfl rfl ?_
  simp -implicitDefEqProofs (disch := omega) only [go_sem, d1, d2]
  refine call_d rfl (l1Byte_ok hB c (1 + l) j ([] :: S) (by rw [getO_up1]; exact hk)) ?_
  simp -implicitDefEqProofs (disch := omega) only [go_sem, setO_up1]
  (repeat (with_reducible refine And.intro ?_ ?_; focus first | omega | rfl | assumption | exact ⟨_, rfl, rfl⟩ | (simp; omega) | (simp; done)))
  first | done | exact ⟨rfl, rfl⟩ | rfl
theorem l1Once_ok {bs : List Int} (hB : Bytes bs) (c : Cu bs) (l j : Nat) (S : Store) (n : Int) (hk : getO S (l, j) = some (.box (cur c))) (h1 : 1 ≤ n) (h2 : n ≤ 256) :
    ACall Try.prog 60 [.c (.ptr (l, j) 0), .c (.d (.i .i64 n))] S (fun r S' => r = .c (.d (.b (onceD n c).1)) ∧ S' = setO S (l, j) (.box (cur (onceD n c).2))) := by
  refine acall_cw (rs := [.tmp 4]) Try.checked.mixed Try.func60 Try.ntmps60 rfl rfl rfl rfl rfl ?_
  simp -implicitDefEqProofs (disch := omega) only [go_sem]
  refine call_d rfl (l1Below_ok hB c (1 + l) j ([] :: S) n (by rw [getO_up1]; exact hk) h1 h2) ?_
  simp -implicitDefEqProofs (disch := omega) only [go_sem, setO_up1]
  first | done | exact ⟨rfl, rfl⟩ | rfl
theorem l1Pick_ok {bs : List Int} (hB : Bytes bs) (c : Cu bs) (l j : Nat) (S : Store) (xs : List (List UInt8)) (hk : getO S (l, j) = some (.box (cur c))) (h1 : 1 ≤ xs.length) (h2 : xs.length ≤ 256) :
    ACall Try.prog 74 [.c (.ptr (l, j) 0), .c (.d (.sl (xs.map encS)))] S (fun r S' => r = .c (.d (.s (pickD xs c).1)) ∧ S' = setO S (l, j) (.box (cur (pickD xs c).2))) := by
  have hx := belowD_rng (n := xs.length) c (by omega)
  refine acall_cw (rs := [.tmp 4]) Try.checked.mixed Try.func74 Try.ntmps74 rfl rfl rfl rfl rfl ?_
  simp -implicitDefEqProofs (disch := omega) only [go_sem, encS]
  refine call_d rfl (l1Below_ok hB c (1 + l) j ([] :: S) xs.length (by rw [getO_up1]; exact hk) (by omega) (by omega)) ?_
  have hi : (belowD (xs.length : Int) c).1.toNat < xs.length := by omega
  have e : (pickD xs c).1 = xs[(belowD (xs.length : Int) c).1.toNat] := by simp only [pickD, List.getD, List.getElem?_eq_getElem hi, Option.getD_some]
  simp -implicitDefEqProofs (disch := omega) only [go_sem, encS, setO_up1]
  (repeat (with_reducible refine And.intro ?_ ?_; focus first | omega | rfl | assumption | exact ⟨_, rfl, rfl⟩ | (simp; omega) | (simp; done)))
  rw [e]
  first | done | exact ⟨rfl, rfl⟩ | rfl
end Go.Proofs.Ytceaigchkgifgaa

namespace Go.Ab
def pushL (S : Store) (os : List Obj) : Store := match S with
  | fr :: Ω => (fr ++ os) :: Ω
  | [] => []
def topL (S : Store) : Nat := match S with
  | fr :: _ => fr.length
  | [] => 0
def hasTop (S : Store) : Bool := match S with
  | _ :: _ => true
  | [] => false
theorem pushL_cons {fr : List Obj} {Ω : Store} {os : List Obj} : pushL (fr :: Ω) os = (fr ++ os) :: Ω := rfl
theorem topL_cons {fr : List Obj} {Ω : Store} : topL (fr :: Ω) = fr.length := rfl
theorem hasTop_cons {fr : List Obj} {Ω : Store} : hasTop (fr :: Ω) = true := rfl
theorem hasTop_set {k : Key} {x : Obj} : ∀ {S : Store}, hasTop (setO S k x) = hasTop S
  | [] => rfl
  | fr :: S => by
    obtain ⟨l, j⟩ := k
    cases l <;> rfl
theorem topL_set {k : Key} {x : Obj} : ∀ {S : Store}, topL (setO S k x) = topL S
  | [] => rfl
  | fr :: S => by
    obtain ⟨l, j⟩ := k
    cases l
    · show (fr.set j x).length = fr.length
      simp
    · rfl
def Esc (P : Program) (f : FuncId) (args : List V) (S : Store) (raw : V → List Obj → Store → Prop) : Prop :=
  Known P f ∧ ∀ w σ β vs, RepS w σ S β → RepVs w σ S β args vs →
    Calls P f vs.toArray w fun e w' => ∃ v r own S1 bo β1 σ', e = .returned v ∧ RepS w' σ' (own :: S1) (bo :: β1) ∧ Keep S β S1 β1 ∧ Step S β σ w (own :: S1) (bo :: β1) σ' w' ∧ RepV w' σ' (own :: S1) (bo :: β1) r v ∧ raw r own S1
def rawQ (P : Program) (rs : List ResultVar) (raw : V → List Obj → Store → Prop) (e : Exit) (s : St) : Prop :=
  match e with
  | .normal | .ret => (resV P rs s).1 ∧ match s.st with
    | own :: S1 => raw (resV P rs s).2 own S1
    | [] => False
  | _ => False
section
variable {P : Program} {N : Nat} {s : St} {S : Store}
theorem esc_enter {f : FuncId} {fn : Func} {c : Code} {args : List V} {raw : V → List Obj → Store → Prop} (hf : P.funcs[f]? = some fn) (hb : fn.body = some c) (hn : (fn.name == "runtime.NumGoroutine") = false)
    (hl : args.length ≤ fn.ntmps) (h : AW P fn.ntmps c (rawQ P fn.results.toList raw) ⟨argTm (args.map (V.up 1)) 0, [] :: S⟩) : Esc P f args S raw := by
  refine ⟨⟨fn, hf, hn, by simp [hb]⟩, fun w σ β vs hS hargs => ?_⟩
  refine calls_of_wp hf hb ?_
  have hlen : vs.length = args.length := hargs.1.symm
  have hRep : Rep fn.ntmps ⟨argTm (args.map (V.up 1)) 0, [] :: S⟩ { tmps := vs.toArray ++ Array.replicate (fn.ntmps - vs.toArray.size) undef, defers := [] } w σ ([] :: β) := by
    refine ⟨by simp; omega, rfl, hS.up1, fun t => ?_⟩
    show RepV w σ ([] :: S) ([] :: β) (look (argTm (args.map (V.up 1)) 0) t) _
    rw [look_argTm, if_pos (Nat.zero_le _), Nat.sub_zero, List.getElem?_map]
    cases ha : args[t]? with
    | none => exact trivial
    | some x =>
      obtain ⟨v, hv, hr⟩ := hargs.2 t x ha
      have ht := (List.getElem?_eq_some_iff.1 hv).1
      have : (vs.toArray ++ Array.replicate (fn.ntmps - vs.toArray.size) undef).getD t undef = v := by
        rw [Array.getD_eq_getD_getElem?, Array.getElem?_append_left (by simpa using ht)]
        simp [hv]
      rw [this]
      exact rep_upV (S := [] :: S) (β := [] :: β) 1 hr
  refine wp_mono (h _ w σ ([] :: β) hRep) ?_
  rintro e a' w' ⟨s', σ', β', hR, hst, hkp, hq⟩
  have main : ((resV P fn.results.toList s').1 ∧ match s'.st with
    | own :: S1 => raw (resV P fn.results.toList s').2 own S1
    | [] => False) →
      a'.defers = [] ∧ ∃ v, (results fn a'.tmps).run P w' = .ok v w' ∧ ∃ v1 r own S1 bo β1 σ', Ending.returned v = Ending.returned v1 ∧ RepS w' σ' (own :: S1) (bo :: β1) ∧ Keep S β S1 β1 ∧ Step S β σ w (own :: S1) (bo :: β1) σ' w' ∧ RepV w' σ' (own :: S1) (bo :: β1) r v1 ∧ raw r own S1 := by
    rintro ⟨q1, q2⟩
    obtain ⟨v, hv, hrep⟩ := res_sound (fn := fn) hR q1
    obtain ⟨tm, st⟩ := s'
    simp only at q2
    split at q2
    · rename_i own S1
      obtain ⟨bo, β1, rfl, hlo⟩ := frames hR
      have hst' : Step ([] :: S) ([] :: β) σ w (own :: S1) (bo :: β1) σ' w' := hst
      exact ⟨hR.defers, v, hv, v, _, own, S1, bo, β1, σ', rfl, hR.S, hkp, ⟨hst'.size, hst'.os, hst'.output, fun b hb ho => hst'.far b hb (fun x => ho (own_up1 x)), hst'.near, fun b hb => (hst'.own b hb).imp own_up1 id⟩, hrep, q2⟩
    · exact q2.elim
  cases e with
  | normal => exact main hq
  | ret => exact main hq
  | _ => exact hq.elim
def rawS (P : Program) (rs : List ResultVar) (raw : V → List Obj → Store → Prop) (s : St) (r : R) : Prop := r.1 ∧ match s.st with
  | own :: S1 => raw r.2 own S1
  | [] => False
@[congr] theorem rawS_congr {rs : List ResultVar} {raw : V → List Obj → Store → Prop} {s s' : St} {r r' : R} (h1 : s = s') (h2 : r = r') : rawS P rs raw s r = rawS P rs raw s' r' := by rw [h1, h2]
theorem rawQ_ret {rs : List ResultVar} {raw : V → List Obj → Store → Prop} {tm : List (Nat × V)} {S : Store} : rawQ P rs raw .ret ⟨tm, S⟩ = rawS P rs raw ⟨tm, S⟩ (resV P rs ⟨tm, S⟩) := rfl
theorem rawQ_normal {rs : List ResultVar} {raw : V → List Obj → Store → Prop} {tm : List (Nat × V)} {S : Store} : rawQ P rs raw .normal ⟨tm, S⟩ = rawS P rs raw ⟨tm, S⟩ (resV P rs ⟨tm, S⟩) := rfl
theorem rawS_mk {rs : List ResultVar} {raw : V → List Obj → Store → Prop} {tm : List (Nat × V)} {own : List Obj} {S1 : Store} {p : Prop} {v : V} : rawS P rs raw ⟨tm, own :: S1⟩ (p, v) = (p ∧ raw v own S1) := rfl
theorem esc_cw {f : FuncId} {fn : Func} {c : Code} {args : List V} {raw : V → List Obj → Store → Prop} {rs : List ResultVar} (hmix : P.follows .mixedOrders = true) (hf : P.funcs[f]? = some fn) (hN : fn.ntmps = N)
    (hb : fn.body = some c) (hn : (fn.name == "runtime.NumGoroutine") = false) (hr : fn.results.toList = rs) (hl : Nat.ble args.length N = true) (hok : codeOk N c = true)
    (h : CW P N c (rawQ P rs raw) ⟨argTm (args.map (V.up 1)) 0, [] :: S⟩) : Esc P f args S raw := by
  subst hN
  subst hr
  exact esc_enter hf hb hn (Nat.le_of_ble_eq_true hl) (cw_sound hmix c _ _ hok h)
theorem esc_cwc (T : List TypeId) {f : FuncId} {fn : Func} {c : Code} {args : List V} {raw : V → List Obj → Store → Prop} {rs : List ResultVar} (hmix : P.follows .mixedOrders = true) (hf : P.funcs[f]? = some fn) (hN : fn.ntmps = N)
    (hb : fn.body = some c) (hn : (fn.name == "runtime.NumGoroutine") = false) (hr : fn.results.toList = rs) (hl : Nat.ble args.length N = true) (hok : codeOkC T N c = true)
    (h : CWC P N T c (rawQ P rs raw) ⟨argTm (args.map (V.up 1)) 0, [] :: S⟩) : Esc P f args S raw := by
  subst hN
  subst hr
  exact esc_enter hf hb hn (Nat.le_of_ble_eq_true hl) (cwc_sound hmix c _ _ hok h)
theorem Esc.mono {f : FuncId} {args : List V} {raw raw' : V → List Obj → Store → Prop} (h : Esc P f args S raw) (hi : ∀ r own S1, raw r own S1 → raw' r own S1) : Esc P f args S raw' :=
  ⟨h.1, fun w σ β vs hS hv => (h.2 w σ β vs hS hv).mono fun e w' ⟨v, r, own, S1, bo, β1, σ', q1, q2, q3, q4, q5, q6⟩ => ⟨v, r, own, S1, bo, β1, σ', q1, q2, q3, q4, q5, hi _ _ _ q6⟩⟩
end
def SlOf (own : List Obj) (x : C) (z : Nat) (es : List (List D)) : Prop := (∃ m, own[m]? = some (.tok z es) ∧ x = .tsl (0, m) es) ∨ (x = .fsl es ∧ ∀ e ∈ es, e.length = z)
section
variable {w : World} {σ : Nat → Nat} {own fr : List Obj} {Ω : Store} {bo bf : List Value} {bΩ : Hs}
theorem slof_data {S1 : Store} {β1 : Hs} {x : C} {z : Nat} {es : List (List D)} {v : Value} (h : SlOf own x z es) (hr : RepC w σ (own :: S1) (bo :: β1) x v) : RepD w σ (.sl es) v := by
  rcases h with ⟨m, h1, rfl⟩ | ⟨rfl, _⟩
  · exact hr.1
  · exact hr.1
theorem slof_tok {S1 : Store} {β1 : Hs} {x : C} {z : Nat} {es : List (List D)} {v : Value} (hS : RepS w σ (own :: S1) (bo :: β1)) (h : SlOf own x z es) (hr : RepC w σ (own :: S1) (bo :: β1) x v) :
    (∀ S' β', RepObj w σ S' β' (.tok z es) v) ∧ ∀ b, owns (.tok z es) v b → ∃ m, own[m]? = some (.tok z es) ∧ x = .tsl (0, m) es ∧ bo[m]? = some v := by
  rcases h with ⟨m, h1, rfl⟩ | ⟨rfl, h2⟩
  · obtain ⟨hd, o, ho, hl⟩ := hr
    rw [getO_zero, h1] at ho; cases ho
    have hb := (hl _ _ (.inl rfl)).2 rfl
    obtain ⟨hv, e1, e2⟩ := hS.obj (0, m) _ (by rw [getO_zero]; exact h1)
    rw [hb] at e1; cases e1
    rw [getO_zero] at hb
    exact ⟨fun _ _ => e2, fun b _ => ⟨m, h1, rfl, hb⟩⟩
  · obtain ⟨hd, a, n, rfl⟩ := hr
    have hn : n = es.length := by cases hd <;> rfl
    subst hn
    refine ⟨fun _ _ => ⟨hd, h2, a, es.length, rfl, Nat.le_refl _, .inl rfl⟩, fun b hb => ?_⟩
    cases a with
    | none => cases hb
    | some a => simp [owns, blk] at hb
end
def plainL (cs : List C) : Bool := cs.all fun c => match c with
  | .d _ => true
  | _ => false
theorem plain_repC {w : World} {σ : Nat → Nat} {S S' : Store} {β β' : Hs} {c : C} {v : Value} (h : (match c with
  | .d _ => true
  | _ => false) = true) (hr : RepC w σ S β c v) : RepC w σ S' β' c v := by
  cases c <;> first | exact hr | (cases h; done)
theorem plain_cells {w : World} {σ : Nat → Nat} {S S' : Store} {β β' : Hs} {pre post : List C} {x x' : C} {a : List Value} (h1 : plainL pre = true) (h2 : plainL post = true) (hr : RepCs w σ S β (pre ++ x :: post) a)
    (hx : ∀ v, a[pre.length]? = some v → RepC w σ S β x v → RepC w σ S' β' x' v) : RepCs w σ S' β' (pre ++ x' :: post) a := by
  refine ⟨by simpa using hr.1, fun j y hy => ?_⟩
  rcases Nat.lt_trichotomy j pre.length with hj | hj | hj
  · rw [List.getElem?_append_left hj] at hy
    obtain ⟨v, e1, e2, e3⟩ := hr.2 j y (by rw [List.getElem?_append_left hj]; exact hy)
    exact ⟨v, e1, plain_repC (List.all_eq_true.1 h1 y (List.mem_of_getElem? hy)) e2, e3⟩
  · subst hj
    rw [List.getElem?_append_right (Nat.le_refl _), Nat.sub_self, List.getElem?_cons_zero] at hy
    cases hy
    obtain ⟨v, e1, e2, e3⟩ := hr.2 pre.length x (by rw [List.getElem?_append_right (Nat.le_refl _), Nat.sub_self]; rfl)
    exact ⟨v, e1, hx v e1 e2, e3⟩
  · rw [List.getElem?_append_right (by omega), show j - pre.length = (j - pre.length - 1) + 1 by omega, List.getElem?_cons_succ] at hy
    obtain ⟨v, e1, e2, e3⟩ := hr.2 j y (by rw [List.getElem?_append_right (by omega), show j - pre.length = (j - pre.length - 1) + 1 by omega, List.getElem?_cons_succ]; exact hy)
    exact ⟨v, e1, plain_repC (List.all_eq_true.1 h2 y (List.mem_of_getElem? hy)) e2, e3⟩
section
variable {P : Program} {S S' : Store} {f : FuncId} {args : List V}
theorem Esc.plain {pre post : List C} {z : Nat} {es : List (List D)} (h1 : plainL pre = true) (h2 : plainL post = true) (h : Esc P f args S fun r own S1 => S1 = S' ∧ ∃ x, r = .agg (pre ++ x :: post) ∧ SlOf own x z es) :
    ACall P f args S fun r S1 => r = .agg (pre ++ .d (.sl es) :: post) ∧ S1 = S' := by
  refine ⟨h.1, fun w σ β vs hS hv => (h.2 w σ β vs hS hv).mono fun e w' ⟨v, r, own, S1, bo, β1, σ', q1, q2, q3, q4, q5, q6, x, q7, q8⟩ => ?_⟩
  subst q6 q7
  obtain ⟨a, rfl, hc⟩ := q5
  exact ⟨_, .agg (pre ++ .d (.sl es) :: post), S1, σ', β1, q1, q2.down1, q3, ⟨q4.size, q4.os, q4.output, q4.far, q4.near, fun b hb => q4.own b (own_down1 hb)⟩, ⟨a, rfl, plain_cells h1 h2 hc fun v e1 e2 => slof_data q8 e2⟩, rfl, rfl⟩
theorem Esc.push {pre post : List C} {z : Nat} {es : List (List D)} (h1 : plainL pre = true) (h2 : plainL post = true) (ht : hasTop S' = true) (h : Esc P f args S fun r own S1 => S1 = S' ∧ ∃ x, r = .agg (pre ++ x :: post) ∧ SlOf own x z es) :
    ACall P f args S fun r S1 => r = .agg (pre ++ .tsl (0, topL S') es :: post) ∧ S1 = pushL S' [.tok z es] := by
  refine ⟨h.1, fun w σ β vs hS hv => (h.2 w σ β vs hS hv).mono fun e w' ⟨v, r, own, S1, bo, β1, σ', q1, q2, q3, q4, q5, q6, x, q7, q8⟩ => ?_⟩
  subst q6 q7
  obtain ⟨a, rfl, hc⟩ := q5
  obtain ⟨u, e1, e2, e3⟩ := hc.2 pre.length x (by rw [List.getElem?_append_right (Nat.le_refl _), Nat.sub_self]; rfl)
  obtain ⟨k1, k2⟩ := slof_tok q2 q8 e2
  cases S1 with
  | nil => cases ht
  | cons fr Ω =>
  have hd := q2.down1
  obtain ⟨bf, bΩ, rfl, hlen⟩ : ∃ bf bΩ, β1 = bf :: bΩ ∧ bf.length = fr.length := by
    cases β1 with
    | nil => have := hd.shape.1; simp at this
    | cons bf bΩ =>
      refine ⟨bf, bΩ, rfl, ?_⟩
      obtain ⟨gr, q1, q2⟩ := hd.shape.2 0 fr rfl
      simp at q1; rw [q1]; exact q2
  obtain ⟨l1, l2, l3⟩ := hd.lay (o := .tok z es) (h := u) hlen (k1 _ _) fun b hb ⟨k, o, hh, f1, f2, f3⟩ => by
    obtain ⟨m, g1, g2, g3⟩ := k2 b hb
    have := q2.apart (0, m) (k.1 + 1, k.2) _ o u hh b (by rw [getO_zero]; exact g1) (by rw [getO_zero]; exact g3) hb (by rw [getO_succ]; exact f1) (by rw [getO_succ]; exact f2) f3
    cases this
  refine ⟨_, .agg (pre ++ .tsl (0, topL (fr :: Ω)) es :: post), _, σ', _, q1, l1, q3.trans l2, ⟨q4.size, q4.os, q4.output, q4.far, q4.near, fun b hb => ?_⟩, ⟨a, rfl, plain_cells h1 h2 hc fun v f1 f2 => ?_⟩, rfl, rfl⟩
  · rcases l3 b hb with q | q
    · exact q4.own b (own_down1 q)
    · obtain ⟨m, g1, g2, g3⟩ := k2 b q
      exact q4.own b ⟨(0, m), _, u, by rw [getO_zero]; exact g1, by rw [getO_zero]; exact g3, q⟩
  · rw [e1] at f1; cases f1
    refine ⟨slof_data q8 e2, _, by rw [topL_cons]; exact getO_push_new _ _ _, fun esz es' e => ?_⟩
    obtain ⟨_, rfl⟩ := istok_of (lab := none) e
    exact ⟨Nat.le_refl _, fun _ => by rw [topL_cons, ← hlen, getO_push_new]⟩
end
attribute [go_sem ↓] rawQ_ret rawQ_normal
attribute [go_sem] rawS_mk pushL_cons topL_cons hasTop_cons hasTop_set topL_set
end Go.Ab

namespace Go.Proofs.Ytceaigchkgifgaa
open Go Go.Ab
end Go.Proofs.Ytceaigchkgifgaa

namespace Go.Ab
def varT (s : List UInt8) : MType := .mk 1 s []
def conT (s : List UInt8) (l : List MType) : MType := .mk 2 s l
def projT (s : List UInt8) (t : MType) : MType := .mk 3 s [t]
def dynT (s : List UInt8) : MType := .mk 4 s []
def baseL : List (List UInt8) := [[105, 110, 116], [98, 111, 111, 108], [117, 110, 105, 116]]
def listL : List (List UInt8) := [[108, 105, 115, 116], [108, 105, 115, 116], [98, 111, 120]]
def tyD {bs : List Int} (vars : List (List UInt8)) : Nat → Cu bs → MType × Cu bs
  | 0, c => if (belowD 8 c).1 < 3 ∧ 0 < vars.length then (varT (pickD vars (belowD 8 c).2).1, (pickD vars (belowD 8 c).2).2)
    else (conT (pickD baseL (belowD 8 c).2).1 [], (pickD baseL (belowD 8 c).2).2)
  | n + 1, c => if (belowD 8 c).1 < 3 ∧ 0 < vars.length then (varT (pickD vars (belowD 8 c).2).1, (pickD vars (belowD 8 c).2).2)
    else if (belowD 8 c).1 < 5 then (conT (pickD baseL (belowD 8 c).2).1 [], (pickD baseL (belowD 8 c).2).2)
    else if (belowD 8 c).1 = 5 then (conT [112, 97, 105, 114] [(tyD vars n (belowD 8 c).2).1, (tyD vars n (tyD vars n (belowD 8 c).2).2).1], (tyD vars n (tyD vars n (belowD 8 c).2).2).2)
    else (conT (pickD listL (belowD 8 c).2).1 [(tyD vars n (pickD listL (belowD 8 c).2).2).1], (tyD vars n (pickD listL (belowD 8 c).2).2).2)
def Short8 (l : List (List UInt8)) : Prop := ∀ s ∈ l, s.length ≤ 8
theorem pickD_len {bs : List Int} {xs : List (List UInt8)} (c : Cu bs) (h : Short8 xs) : (pickD xs c).1.length ≤ 8 := by
  by_cases h1 : 1 ≤ xs.length
  · exact h _ (pickD_mem c h1)
  · have : xs = [] := List.eq_nil_of_length_eq_zero (by omega)
    subst this
    simp [pickD]
theorem short_base : Short8 baseL := by unfold Short8; decide
theorem short_list : Short8 listL := by unfold Short8; decide
theorem sz_var (s : List UInt8) : (varT s).sz = s.length := by simp [varT, MType.sz, MType.enc_eq, szRow, D.sz, szRows, MType.fName, MType.fArgs]
theorem sz_con0 (s : List UInt8) : (conT s []).sz = s.length := by simp [conT, MType.sz, MType.enc_eq, szRow, D.sz, szRows, MType.fName, MType.fArgs]
theorem sz_con1 (s : List UInt8) (t : MType) : (conT s [t]).sz = s.length + 1 + t.sz := by
  have := MType.sz_def t
  simp only [conT, MType.sz, MType.enc_eq, szRow, D.sz, szRows, MType.fName, MType.fArgs, List.map_cons, List.map_nil, List.length_cons, List.length_nil] at this ⊢
  omega
theorem sz_con2 (s : List UInt8) (t u : MType) : (conT s [t, u]).sz = s.length + 2 + t.sz + u.sz := by
  have h1 := MType.sz_def t
  have h2 := MType.sz_def u
  simp only [conT, MType.sz, MType.enc_eq, szRow, D.sz, szRows, MType.fName, MType.fArgs, List.map_cons, List.map_nil, List.length_cons, List.length_nil] at h1 h2 ⊢
  omega
theorem tyD_sz {bs : List Int} {vars : List (List UInt8)} (hv : Short8 vars) : ∀ (n : Nat) (c : Cu bs), (tyD vars n c).1.sz + 10 ≤ 18 * 2 ^ n
  | 0, c => by
    rw [tyD]
    split
    · have := pickD_len (belowD 8 c).2 hv
      simp only [sz_var]; omega
    · have := pickD_len (belowD 8 c).2 short_base
      simp only [sz_con0]; omega
  | n + 1, c => by
    have ih := tyD_sz hv n (bs := bs)
    have hp : 2 ^ (n + 1) = 2 ^ n + 2 ^ n := by rw [Nat.pow_succ]; omega
    have h2 := Nat.one_le_two_pow (n := n)
    rw [tyD]
    split
    · have := pickD_len (belowD 8 c).2 hv
      simp only [sz_var]; omega
    split
    · have := pickD_len (belowD 8 c).2 short_base
      simp only [sz_con0]; omega
    split
    · have h3 := ih (belowD 8 c).2
      have h4 := ih (tyD vars n (belowD 8 c).2).2
      simp only [sz_con2, List.length_cons, List.length_nil]
      omega
    · have h3 := ih (pickD listL (belowD 8 c).2).2
      have := pickD_len (belowD 8 c).2 short_list
      simp only [sz_con1]
      omega
def tyP (t : MType) : List C := [.d (.i .i64 t.fKind), .d (.s t.fName)]
theorem tyP_plain (t : MType) : plainL (tyP t) = true := rfl
def tyRaw (t : MType) (S' : Store) (r : V) (own : List Obj) (S1 : Store) : Prop := S1 = S' ∧ ∃ x, r = .agg (tyP t ++ x :: []) ∧ SlOf own x 3 (t.fArgs.map MType.enc)
end Go.Ab
namespace Go.Proofs.Ytceaigchkgifgaa
open Go Go.Ab
theorem encT_len (l : List MType) : ∀ y ∈ l.map MType.enc, y.length = 3 := by
  intro y hy
  obtain ⟨x, _, rfl⟩ := List.mem_map.1 hy
  rw [MType.enc_eq]; rfl
theorem l4Var_ok (s : List UInt8) : PCall Try.prog 123 [.c (.d (.s s))] (.agg [.d (.i .i64 1), .d (.s s), .fsl []]) := fun S => by
  refine acall_cw (rs := [.cell 2 26]) Try.checked.mixed Try.func123 Try.ntmps123 rfl rfl rfl rfl rfl ?_
  simp -implicitDefEqProofs (disch := omega) only [go_sem]
  first | done | exact ⟨rfl, rfl⟩ | rfl
theorem l4Con_esc (s : List UInt8) (l : List MType) {es : List (List D)} (he : es = l.map MType.enc) (hl : l.length ≤ 1048576) {a : C} (ha : a = .d (.sl es) ∨ a = .fsl es) (S : Store) : Esc Try.prog 97 [.c (.d (.s s)), .c a] S (tyRaw (conT s l) S) := by
  subst he
  refine esc_cw (rs := [.cell 4 26]) Try.checked.mixed Try.func97 Try.ntmps97 rfl rfl rfl rfl rfl ?_
  have hln := encT_len l
  rcases ha with rfl | rfl
  all_goals
    simp -implicitDefEqProofs (disch := omega) only [go_sem]
    refine ⟨hln, ⟨_, rfl, rfl⟩, fun y hy => absurd hy List.not_mem_nil, by omega, rfl, _, rfl, .inl ⟨1, rfl, rfl⟩⟩
theorem tyRaw_plain {f : FuncId} {args : List V} {S S' : Store} {t : MType} (h : Esc Try.prog f args S (tyRaw t S')) : ACall Try.prog f args S (fun r S1 => r = .agg [.d (.i .i64 t.fKind), .d (.s t.fName), .d (.sl (t.fArgs.map MType.enc))] ∧ S1 = S') :=
  Esc.plain (tyP_plain t) rfl h
theorem tyRaw_push {f : FuncId} {args : List V} {S S' : Store} {t : MType} (ht : hasTop S' = true) (h : Esc Try.prog f args S (tyRaw t S')) :
    ACall Try.prog f args S (fun r S1 => r = .agg [.d (.i .i64 t.fKind), .d (.s t.fName), .tsl (0, topL S') (t.fArgs.map MType.enc)] ∧ S1 = pushL S' [.tok 3 (t.fArgs.map MType.enc)]) :=
  Esc.push (tyP_plain t) rfl ht h
theorem l4Con_push (s : List UInt8) (l : List MType) {es : List (List D)} (he : es = l.map MType.enc) (hl : l.length ≤ 1048576) {a : C} (ha : a = .d (.sl es) ∨ a = .fsl es) {own : List Ab.Obj} {Ω : Store} :
    ACall Try.prog 97 [.c (.d (.s s)), .c a] (own :: Ω) (fun r S1 => r = .agg [.d (.i .i64 2), .d (.s s), .tsl (0, own.length) es] ∧ S1 = (own ++ [.tok 3 es]) :: Ω) := by
  have := tyRaw_push (S' := own :: Ω) rfl (l4Con_esc s l he hl ha (own :: Ω))
  rw [he]
  exact this
theorem l4Con_ok (s : List UInt8) (l : List MType) {es : List (List D)} (he : es = l.map MType.enc) (hl : l.length ≤ 1048576) {a : C} (ha : a = .d (.sl es) ∨ a = .fsl es) : PCall Try.prog 97 [.c (.d (.s s)), .c a] (.agg [.d (.i .i64 2), .d (.s s), .d (.sl es)]) := fun S => by
  have := tyRaw_plain (l4Con_esc s l he hl ha S)
  rw [he]
  exact this
theorem pick_idx {bs : List Int} {xs : List (List UInt8)} (c : Cu bs) (hi : (belowD (xs.length : Int) c).1.toNat < xs.length) : xs[(belowD (xs.length : Int) c).1.toNat] = (pickD xs c).1 := by
  simp only [pickD, List.getD, List.getElem?_eq_getElem hi, Option.getD_some]
theorem l4Ty_esc {bs : List Int} (hB : Bytes bs) {vars : List (List UInt8)} (hv : vars.length ≤ 256) : ∀ (n : Nat) (c : Cu bs) (l j : Nat) (S : Store), getO S (l, j) = some (.box (cur c)) → n ≤ 1048576 →
    Esc Try.prog 95 [.c (.ptr (l, j) 0), .c (.d (.sl (vars.map encS))), .c (.d (.i .i64 n))] S (tyRaw (tyD vars n c).1 (setO S (l, j) (.box (cur (tyD vars n c).2)))) := by
  intro n
  induction n with
  | zero =>
    intro c l j S hk hn
    have g : ∀ x : Ab.Obj, getO (setO S (l, j) x) (l, j) = some x := fun x => getO_setO_eq _ _ _ _ hk
    obtain ⟨k, hkd⟩ : ∃ k, k = (belowD 8 c).1 := ⟨_, rfl⟩
    obtain ⟨c1, hc1⟩ : ∃ c1, c1 = (belowD 8 c).2 := ⟨_, rfl⟩
    rw [tyD, ← hkd, ← hc1]
    refine esc_cw (rs := [.cell 6 26]) Try.checked.mixed Try.func95 Try.ntmps95 rfl rfl rfl rfl rfl ?_
    simp -implicitDefEqProofs (disch := omega) only [go_sem]
    refine call_d rfl (l1Below_ok hB c (1 + l) j _ 8 (by rw [getO_up1]; exact hk) (by omega) (by omega)) ?_
    rw [← hkd, ← hc1]
    have d0 : decide (((0 : Nat) : Int) ≤ 0) = true := rfl
    simp -implicitDefEqProofs (disch := omega) only [go_sem, setO_up1]
    with_reducible refine split2 (fun hb => ?_) (fun hb => ?_) <;> have h := hb <;> (try simp only [wf_preprocess] at h) <;> simp -implicitDefEqProofs (disch := omega) only [go_sem, hb, d0, setO_up1] <;> (repeat (with_reducible refine And.intro ?_ ?_; focus first | omega | rfl | assumption | exact ⟨_, rfl, rfl⟩ | (simp; omega) | (simp; done)))
    rotate_left
    rw [if_neg (by omega)]
    rotate_left
    with_reducible refine split2 (fun hb => ?_) (fun hb => ?_) <;> have h := hb <;> (try simp only [wf_preprocess] at h) <;> simp -implicitDefEqProofs (disch := omega) only [go_sem, hb, d0, setO_up1] <;> (repeat (with_reducible refine And.intro ?_ ?_; focus first | omega | rfl | assumption | exact ⟨_, rfl, rfl⟩ | (simp; omega) | (simp; done)))
    · have hx := belowD_rng (n := vars.length) c1 (by omega)
      have hi : (belowD (vars.length : Int) c1).1.toNat < vars.length := by omega
      rw [if_pos ⟨by omega, by omega⟩]
      refine call_d rfl (l1Below_ok hB c1 (1 + l) j _ vars.length (by rw [getO_up1]; exact g _) (by omega) (by omega)) ?_
      simp -implicitDefEqProofs (disch := omega) only [go_sem, setO_up1, setO_twice, encS]
      (repeat (with_reducible refine And.intro ?_ ?_; focus first | omega | rfl | assumption | exact ⟨_, rfl, rfl⟩ | (simp; omega) | (simp; done)))
      rw [pick_idx c1 hi]
      refine call_w (l4Var_ok (pickD vars c1).1) ?_
      simp -implicitDefEqProofs (disch := omega) only [go_sem] <;> (repeat (with_reducible refine And.intro ?_ ?_; focus first | omega | rfl | assumption | exact ⟨_, rfl, rfl⟩ | (simp; omega) | (simp; done)))
      exact ⟨rfl, _, rfl, .inr ⟨rfl, fun e he => by cases he⟩⟩
    rw [if_neg (by omega)]
    all_goals with_reducible refine split2 (fun hb => ?_) (fun hb => ?_) <;> have h := hb <;> (try simp only [wf_preprocess] at h) <;> simp -implicitDefEqProofs (disch := omega) only [go_sem, hb, d0, setO_up1] <;> (repeat (with_reducible refine And.intro ?_ ?_; focus first | omega | rfl | assumption | exact ⟨_, rfl, rfl⟩ | (simp; omega) | (simp; done)))
    all_goals
      refine call_m [true] rfl (l1Pick_ok hB c1 (1 + l) j _ baseL (by rw [getO_up1]; exact g _) (by decide) (by decide)) ?_
      simp -implicitDefEqProofs (disch := omega) only [go_sem, setO_up1, setO_twice]
      refine call_d rfl (l4Con_push _ [] rfl (Nat.zero_le _) (.inr rfl)) ?_
      simp -implicitDefEqProofs (disch := omega) only [go_sem, setO_up1, setO_twice]
      exact ⟨rfl, _, rfl, .inl ⟨1, rfl, rfl⟩⟩
  | succ n ih =>
    intro c l j S hk hn
    have g : ∀ x : Ab.Obj, getO (setO S (l, j) x) (l, j) = some x := fun x => getO_setO_eq _ _ _ _ hk
    obtain ⟨k, hkd⟩ : ∃ k, k = (belowD 8 c).1 := ⟨_, rfl⟩
    obtain ⟨c1, hc1⟩ : ∃ c1, c1 = (belowD 8 c).2 := ⟨_, rfl⟩
    have ih1 := fun c l j S hk => tyRaw_plain (ih c l j S hk (by omega))
    rw [tyD, ← hkd, ← hc1]
    refine esc_cw (rs := [.cell 6 26]) Try.checked.mixed Try.func95 Try.ntmps95 rfl rfl rfl rfl rfl ?_
    simp -implicitDefEqProofs (disch := omega) only [go_sem]
    refine call_d rfl (l1Below_ok hB c (1 + l) j _ 8 (by rw [getO_up1]; exact hk) (by omega) (by omega)) ?_
    rw [← hkd, ← hc1]
    have d0 : decide (((n + 1 : Nat) : Int) ≤ 0) = false := decide_eq_false (by omega)
    have d1 : ((n + 1 : Nat) : Int) - 1 = (n : Int) := by omega
    simp -implicitDefEqProofs (disch := omega) only [go_sem, setO_up1]
    with_reducible refine split2 (fun hb => ?_) (fun hb => ?_) <;> have h := hb <;> (try simp only [wf_preprocess] at h) <;> simp -implicitDefEqProofs (disch := omega) only [go_sem, hb, d0, setO_up1] <;> (repeat (with_reducible refine And.intro ?_ ?_; focus first | omega | rfl | assumption | exact ⟨_, rfl, rfl⟩ | (simp; omega) | (simp; done)))
    rotate_left
    rw [if_neg (by omega)]
    rotate_left
    with_reducible refine split2 (fun hb => ?_) (fun hb => ?_) <;> have h := hb <;> (try simp only [wf_preprocess] at h) <;> simp -implicitDefEqProofs (disch := omega) only [go_sem, hb, d0, setO_up1] <;> (repeat (with_reducible refine And.intro ?_ ?_; focus first | omega | rfl | assumption | exact ⟨_, rfl, rfl⟩ | (simp; omega) | (simp; done)))
    · have hx := belowD_rng (n := vars.length) c1 (by omega)
      have hi : (belowD (vars.length : Int) c1).1.toNat < vars.length := by omega
      rw [if_pos ⟨by omega, by omega⟩]
      refine call_d rfl (l1Below_ok hB c1 (1 + l) j _ vars.length (by rw [getO_up1]; exact g _) (by omega) (by omega)) ?_
      simp -implicitDefEqProofs (disch := omega) only [go_sem, setO_up1, setO_twice, encS]
      (repeat (with_reducible refine And.intro ?_ ?_; focus first | omega | rfl | assumption | exact ⟨_, rfl, rfl⟩ | (simp; omega) | (simp; done)))
      rw [pick_idx c1 hi]
      refine call_w (l4Var_ok (pickD vars c1).1) ?_
      simp -implicitDefEqProofs (disch := omega) only [go_sem] <;> (repeat (with_reducible refine And.intro ?_ ?_; focus first | omega | rfl | assumption | exact ⟨_, rfl, rfl⟩ | (simp; omega) | (simp; done)))
      exact ⟨rfl, _, rfl, .inr ⟨rfl, fun e he => by cases he⟩⟩
    rw [if_neg (by omega)]
    all_goals
      with_reducible refine split2 (fun hb => ?_) (fun hb => ?_) <;> have h := hb <;> (try simp only [wf_preprocess] at h) <;> simp -implicitDefEqProofs (disch := omega) only [go_sem, hb, d0, setO_up1] <;> (repeat (with_reducible refine And.intro ?_ ?_; focus first | omega | rfl | assumption | exact ⟨_, rfl, rfl⟩ | (simp; omega) | (simp; done)))
      · rw [if_pos (by omega)]
        refine call_m [true] rfl (l1Pick_ok hB c1 (1 + l) j _ baseL (by rw [getO_up1]; exact g _) (by decide) (by decide)) ?_
        simp -implicitDefEqProofs (disch := omega) only [go_sem, setO_up1, setO_twice]
        refine call_d rfl (l4Con_push _ [] rfl (Nat.zero_le _) (.inr rfl)) ?_
        simp -implicitDefEqProofs (disch := omega) only [go_sem, setO_up1, setO_twice]
        exact ⟨rfl, _, rfl, .inl ⟨1, rfl, rfl⟩⟩
      rw [if_neg (by omega)]
      with_reducible refine split2 (fun hb => ?_) (fun hb => ?_) <;> have h := hb <;> (try simp only [wf_preprocess] at h) <;> simp -implicitDefEqProofs (disch := omega) only [go_sem, hb, d1, setO_up1] <;> (repeat (with_reducible refine And.intro ?_ ?_; focus first | omega | rfl | assumption | exact ⟨_, rfl, rfl⟩ | (simp; omega) | (simp; done)))
      · rw [if_pos (by omega)]
        refine call_d rfl (ih1 c1 (1 + l) j _ (by rw [getO_up1]; exact g _)) ?_
        simp -implicitDefEqProofs (disch := omega) only [go_sem, d1, setO_up1, setO_twice]
        refine call_d rfl (ih1 (tyD vars n c1).2 (1 + l) j _ (by rw [getO_up1]; exact g _)) ?_
        simp -implicitDefEqProofs (disch := omega) only [go_sem, setO_up1, setO_twice]
        (repeat (with_reducible refine And.intro ?_ ?_; focus first | omega | rfl | assumption | exact ⟨_, rfl, rfl⟩ | (simp; omega) | (simp; done)))
        refine call_d rfl (l4Con_push _ [(tyD vars n c1).1, (tyD vars n (tyD vars n c1).2).1] (by simp only [List.map_cons, List.map_nil, MType.enc_eq]) (by simp) (.inr rfl)) ?_
        simp -implicitDefEqProofs (disch := omega) only [go_sem, setO_up1, setO_twice]
        refine ⟨rfl, _, rfl, .inl ⟨1, ?_, ?_⟩⟩ <;> simp only [conT, MType.fArgs, List.map_cons, List.map_nil, MType.enc_eq] <;> rfl
      · rw [if_neg (by omega)]
        refine call_m [true] rfl (l1Pick_ok hB c1 (1 + l) j _ listL (by rw [getO_up1]; exact g _) (by decide) (by decide)) ?_
        simp -implicitDefEqProofs (disch := omega) only [go_sem, d1, setO_up1, setO_twice]
        refine call_d rfl (ih1 (pickD listL c1).2 (1 + l) j _ (by rw [getO_up1]; exact g _)) ?_
        simp -implicitDefEqProofs (disch := omega) only [go_sem, setO_up1, setO_twice]
        (repeat (with_reducible refine And.intro ?_ ?_; focus first | omega | rfl | assumption | exact ⟨_, rfl, rfl⟩ | (simp; omega) | (simp; done)))
        refine call_d rfl (l4Con_push _ [(tyD vars n (pickD listL c1).2).1] (by simp only [List.map_cons, List.map_nil, MType.enc_eq]) (by simp) (.inr rfl)) ?_
        simp -implicitDefEqProofs (disch := omega) only [go_sem, setO_up1, setO_twice]
        refine ⟨rfl, _, rfl, .inl ⟨1, ?_, ?_⟩⟩ <;> simp only [conT, MType.fArgs, List.map_cons, List.map_nil, MType.enc_eq] <;> rfl
end Go.Proofs.Ytceaigchkgifgaa

namespace Go.Proofs.Ytceaigchkgifgaa
open Go Go.Ab
end Go.Proofs.Ytceaigchkgifgaa

namespace Go.Proofs.Ytceaigchkgifgaa
open Go Go.Ab
end Go.Proofs.Ytceaigchkgifgaa

namespace Go.Proofs.Ytceaigchkgifgaa
open Go Go.Ab
theorem specEqualType_all : ∀ n : Nat, (∀ x : MType, SizeOf.sizeOf x < n → ∀ y : MType, x.sz ≤ 4194304 → PCall Try.prog 18 [x.v, y.v] (.c (.d (.b (dec (x = y)))))) ∧
    (∀ xs : List MType, SizeOf.sizeOf xs < n → ∀ ys : List MType, xs.length + szRows (xs.map MType.enc) ≤ 4194304 → PCall Try.prog 42 [.c (.d (.sl (xs.map MType.enc))), .c (.d (.sl (ys.map MType.enc)))] (.c (.d (.b (dec (xs = ys))))))
  | 0 => ⟨fun x h => by omega, fun x h => by omega⟩
  | n + 1 => by
    obtain ⟨ih, ihS⟩ := specEqualType_all n
    refine ⟨fun x hn y hsz S => ?_, fun xs hn ys hsz S => ?_⟩
    · have lArgs := MType.lt_Args x
      simp only [MType.sz, MType.enc_eq, szRow, szRow_append, D.sz, List.length_map] at hsz
      refine acall_cw (rs := [.tmp 4]) Try.checked.mixed Try.func18 Try.ntmps18 rfl rfl rfl rfl rfl ?_
      simp -implicitDefEqProofs (disch := omega) only [go_sem]
      with_reducible refine split2 (fun hb => ?_) (fun hb => ?_) <;> have h := hb <;> (try simp only [wf_preprocess] at h) <;> simp -implicitDefEqProofs (disch := omega) only [go_sem, hb] <;> (repeat (with_reducible refine And.intro ?_ ?_; focus first | omega | rfl | assumption | exact ⟨_, rfl, rfl⟩ | (simp; omega) | (simp; done)))
      · with_reducible refine split2 (fun hb => ?_) (fun hb => ?_) <;> have h := hb <;> (try simp only [wf_preprocess] at h) <;> simp -implicitDefEqProofs (disch := omega) only [go_sem, hb] <;> (repeat (with_reducible refine And.intro ?_ ?_; focus first | omega | rfl | assumption | exact ⟨_, rfl, rfl⟩ | (simp; omega) | (simp; done)))
        · (repeat (with_reducible refine And.intro ?_ ?_; focus first | omega | rfl | assumption | exact ⟨_, rfl, rfl⟩ | (simp; omega) | (simp; done)))
          refine call_w (ihS x.fArgs (by omega) y.fArgs (by omega)) ?_
          simp -implicitDefEqProofs (disch := omega) only [go_sem]
          refine bool_eq (dec_congr ⟨fun e => ?_, fun e => by rw [e]⟩)
          exact MType.ext ‹x.fKind = y.fKind› h e
        · exact bool_eq (dec_false (fun e => h (by rw [e]))).symm
      · exact bool_eq (dec_false (fun e => h (by rw [e]))).symm
    · refine acall_cw (rs := [.tmp 4]) Try.checked.mixed Try.func42 Try.ntmps42 rfl rfl rfl rfl rfl ?_
      simp -implicitDefEqProofs (disch := omega) only [go_sem]
      with_reducible refine split2 (fun hb => ?_) (fun hb => ?_) <;> have h := hb <;> (try simp only [wf_preprocess] at h) <;> simp -implicitDefEqProofs (disch := omega) only [go_sem, hb] <;> (repeat (with_reducible refine And.intro ?_ ?_; focus first | omega | rfl | assumption | exact ⟨_, rfl, rfl⟩ | (simp; omega) | (simp; done)))
      · exact bool_eq (dec_false (fun e => h (by rw [e]))).symm
      have hl : xs.length = ys.length := by omega
      refine loop_at (ι := Nat) Try.checked.mixed rfl [0, 1, 5] (fun y => [.c (.d (.sl (xs.map MType.enc))), .c (.d (.sl (ys.map MType.enc))), .c (.d (.i .i64 y))]) (fun y => [] :: S)
        (fun i => i ≤ xs.length ∧ ∀ j, j < i → xs[j]? = ys[j]?) (fun y => xs.length - y) 0 rfl rfl ⟨Nat.zero_le _, fun j h => by omega⟩ ?_
      rintro i ⟨p1, p2⟩
      simp -implicitDefEqProofs (disch := omega) only [go_sem]
      with_reducible refine split2 (fun hb => ?_) (fun hb => ?_) <;> have h := hb <;> (try simp only [wf_preprocess] at h) <;> simp -implicitDefEqProofs (disch := omega) only [go_sem, hb] <;> (repeat (with_reducible refine And.intro ?_ ?_; focus first | omega | rfl | assumption | exact ⟨_, rfl, rfl⟩ | (simp; omega) | (simp; done)))
      · have hi : i < xs.length := by omega
        have hi' : i < ys.length := by omega
        have hx : xs[i].sz ≤ szRows (xs.map MType.enc) := szRows_mem (List.mem_map_of_mem (List.getElem_mem hi))
        (repeat (with_reducible refine And.intro ?_ ?_; focus first | omega | rfl | assumption | exact ⟨_, rfl, rfl⟩ | (simp; omega) | (simp; done)))
        refine call_w (ih xs[i] (by have := List.sizeOf_lt_of_mem (List.getElem_mem hi); omega) ys[i] (by omega)) ?_
        simp -implicitDefEqProofs (disch := omega) only [go_sem]
        with_reducible refine split2 (fun hb => ?_) (fun hb => ?_) <;> have h := hb <;> (try simp only [wf_preprocess] at h) <;> simp -implicitDefEqProofs (disch := omega) only [go_sem, hb] <;> (repeat (with_reducible refine And.intro ?_ ?_; focus first | omega | rfl | assumption | exact ⟨_, rfl, rfl⟩ | (simp; omega) | (simp; done)))
        · exact bool_eq (dec_false (fun e => h (by simp only [e]))).symm
        refine inv_at (i + 1) (by omega) rfl rfl ⟨by omega, fun j hj => ?_⟩
        by_cases e : j = i
        · subst e
          rw [List.getElem?_eq_getElem hi, List.getElem?_eq_getElem hi', h]
        · exact p2 j (by omega)
      · have hi : i = xs.length := by omega
        refine bool_eq (dec_true (List.ext_getElem? fun j => ?_)).symm
        by_cases hj : j < i
        · exact p2 j hj
        · rw [List.getElem?_eq_none (by omega), List.getElem?_eq_none (by omega)]
theorem specEqualType_ok (x y : MType) (h : x.sz ≤ 4194304) : PCall Try.prog 18 [x.v, y.v] (.c (.d (.b (dec (x = y))))) := (specEqualType_all _).1 x (Nat.lt_succ_self _) y h
theorem implEqualType_all : ∀ n : Nat, (∀ x : MType, SizeOf.sizeOf x < n → ∀ y : MType, x.sz ≤ 4194304 → PCall Try.prog 54 [x.v, y.v] (.c (.d (.b (dec (x = y)))))) ∧
    (∀ xs : List MType, SizeOf.sizeOf xs < n → ∀ ys : List MType, xs.length + szRows (xs.map MType.enc) ≤ 4194304 → PCall Try.prog 94 [.c (.d (.sl (xs.map MType.enc))), .c (.d (.sl (ys.map MType.enc))), .c (.fn 54 [])] (.c (.d (.b (dec (xs = ys))))))
  | 0 => ⟨fun x h => by omega, fun x h => by omega⟩
  | n + 1 => by
    obtain ⟨ih, ihS⟩ := implEqualType_all n
    refine ⟨fun x hn y hsz S => ?_, fun xs hn ys hsz S => ?_⟩
    · have lArgs := MType.lt_Args x
      simp only [MType.sz, MType.enc_eq, szRow, szRow_append, D.sz, List.length_map] at hsz
      refine acall_cw (rs := [.tmp 4]) Try.checked.mixed Try.func54 Try.ntmps54 rfl rfl rfl rfl rfl ?_
      simp -implicitDefEqProofs (disch := omega) only [go_sem]
      with_reducible refine split2 (fun hb => ?_) (fun hb => ?_) <;> have h := hb <;> (try simp only [wf_preprocess] at h) <;> simp -implicitDefEqProofs (disch := omega) only [go_sem, hb] <;> (repeat (with_reducible refine And.intro ?_ ?_; focus first | omega | rfl | assumption | exact ⟨_, rfl, rfl⟩ | (simp; omega) | (simp; done)))
      · with_reducible refine split2 (fun hb => ?_) (fun hb => ?_) <;> have h := hb <;> (try simp only [wf_preprocess] at h) <;> simp -implicitDefEqProofs (disch := omega) only [go_sem, hb] <;> (repeat (with_reducible refine And.intro ?_ ?_; focus first | omega | rfl | assumption | exact ⟨_, rfl, rfl⟩ | (simp; omega) | (simp; done)))
        · (repeat (with_reducible refine And.intro ?_ ?_; focus first | omega | rfl | assumption | exact ⟨_, rfl, rfl⟩ | (simp; omega) | (simp; done)))
          refine call_w (ihS x.fArgs (by omega) y.fArgs (by omega)) ?_
          simp -implicitDefEqProofs (disch := omega) only [go_sem]
          refine bool_eq (dec_congr ⟨fun e => ?_, fun e => by rw [e]⟩)
          exact MType.ext ‹x.fKind = y.fKind› h e
        · exact bool_eq (dec_false (fun e => h (by rw [e]))).symm
      · exact bool_eq (dec_false (fun e => h (by rw [e]))).symm
    · refine acall_cw (rs := [.tmp 6]) Try.checked.mixed Try.func94 Try.ntmps94 rfl rfl rfl rfl rfl ?_
      simp -implicitDefEqProofs (disch := omega) only [go_sem]
      with_reducible refine split2 (fun hb => ?_) (fun hb => ?_) <;> have h := hb <;> (try simp only [wf_preprocess] at h) <;> simp -implicitDefEqProofs (disch := omega) only [go_sem, hb] <;> (repeat (with_reducible refine And.intro ?_ ?_; focus first | omega | rfl | assumption | exact ⟨_, rfl, rfl⟩ | (simp; omega) | (simp; done)))
      · exact bool_eq (dec_false (fun e => h (by rw [e]))).symm
      have hl : xs.length = ys.length := by omega
      refine loop_at (ι := Nat) Try.checked.mixed rfl [1, 2, 15, 16, 17] (fun y => [.c (.d (.sl (ys.map MType.enc))), .c (.fn 54 []), .c (.d (.sl (xs.map MType.enc))), .c (.d (.i .i64 xs.length)), .c (.d (.i .i64 y))]) (fun y => [] :: S)
        (fun i => i ≤ xs.length ∧ ∀ j, j < i → xs[j]? = ys[j]?) (fun y => xs.length - y) 0 rfl rfl ⟨Nat.zero_le _, fun j h => by omega⟩ ?_
      rintro i ⟨p1, p2⟩
      simp -implicitDefEqProofs (disch := omega) only [go_sem]
      with_reducible refine split2 (fun hb => ?_) (fun hb => ?_) <;> have h := hb <;> (try simp only [wf_preprocess] at h) <;> simp -implicitDefEqProofs (disch := omega) only [go_sem, hb] <;> (repeat (with_reducible refine And.intro ?_ ?_; focus first | omega | rfl | assumption | exact ⟨_, rfl, rfl⟩ | (simp; omega) | (simp; done)))
      · have hi : i < xs.length := by omega
        have hi' : i < ys.length := by omega
        have hx : xs[i].sz ≤ szRows (xs.map MType.enc) := szRows_mem (List.mem_map_of_mem (List.getElem_mem hi))
        (repeat (with_reducible refine And.intro ?_ ?_; focus first | omega | rfl | assumption | exact ⟨_, rfl, rfl⟩ | (simp; omega) | (simp; done)))
        refine call_w (ih xs[i] (by have := List.sizeOf_lt_of_mem (List.getElem_mem hi); omega) ys[i] (by omega)) ?_
        simp -implicitDefEqProofs (disch := omega) only [go_sem]
        with_reducible refine split2 (fun hb => ?_) (fun hb => ?_) <;> have h := hb <;> (try simp only [wf_preprocess] at h) <;> simp -implicitDefEqProofs (disch := omega) only [go_sem, hb] <;> (repeat (with_reducible refine And.intro ?_ ?_; focus first | omega | rfl | assumption | exact ⟨_, rfl, rfl⟩ | (simp; omega) | (simp; done)))
        · exact bool_eq (dec_false (fun e => h (by simp only [e]))).symm
        refine inv_drop 0 (by decide) (i + 1) (by omega) rfl rfl rfl rfl ⟨by omega, fun j hj => ?_⟩
        by_cases e : j = i
        · subst e
          rw [List.getElem?_eq_getElem hi, List.getElem?_eq_getElem hi', h]
        · exact p2 j (by omega)
      · have hi : i = xs.length := by omega
        refine bool_eq (dec_true (List.ext_getElem? fun j => ?_)).symm
        by_cases hj : j < i
        · exact p2 j hj
        · rw [List.getElem?_eq_none (by omega), List.getElem?_eq_none (by omega)]
theorem implEqualType_ok (x y : MType) (h : x.sz ≤ 4194304) : PCall Try.prog 54 [x.v, y.v] (.c (.d (.b (dec (x = y))))) := (implEqualType_all _).1 x (Nat.lt_succ_self _) y h
theorem l4Copy_all : ∀ n : Nat, (∀ x : MType, SizeOf.sizeOf x < n → x.sz ≤ 4194304 → PCall Try.prog 124 [x.v] x.v) ∧
    (∀ xs : List MType, SizeOf.sizeOf xs < n → xs.length + szRows (xs.map MType.enc) ≤ 4194304 → PCall Try.prog 134 [.c (.d (.sl (xs.map MType.enc)))] (.c (.d (.sl (xs.map MType.enc)))))
  | 0 => ⟨fun x h => by omega, fun x h => by omega⟩
  | n + 1 => by
    obtain ⟨ih, ihS⟩ := l4Copy_all n
    refine ⟨fun x hn hsz S => ?_, fun xs hn hsz S => ?_⟩
    · have lArgs := MType.lt_Args x
      simp only [MType.sz, MType.enc_eq, szRow, szRow_append, D.sz, List.length_map] at hsz
      refine acall_cw (rs := [.cell 2 26]) Try.checked.mixed Try.func124 Try.ntmps124 rfl rfl rfl rfl rfl ?_
      simp -implicitDefEqProofs (disch := omega) only [go_sem]
      refine call_w (ihS x.fArgs (by omega) (by omega)) ?_
      simp -implicitDefEqProofs (disch := omega) only [go_sem]
    · refine acall_cw (rs := [.tmp 2]) Try.checked.mixed Try.func134 Try.ntmps134 rfl rfl rfl rfl rfl ?_
      simp -implicitDefEqProofs (disch := omega) only [go_sem]
      refine aw_tok 3 3 [] rfl (by simp) ?_
      refine loop_at (ι := Nat × List (List D)) Try.checked.mixed rfl [0, 3, 4] (fun y => [.c (.d (.sl (xs.map MType.enc))), .c (.tsl (0, 0) y.2), .c (.d (.i .i64 y.1))]) (fun y => [.tok 3 y.2] :: S)
        (fun y => y.1 ≤ xs.length ∧ y.2 = (xs.map MType.enc).take y.1) (fun y => xs.length - y.1) (0, []) rfl rfl ⟨Nat.zero_le _, rfl⟩ ?_
      rintro ⟨i, es⟩ ⟨p1, p2⟩
      simp only at p1 p2
      have pl : es.length ≤ xs.length := by rw [p2]; simp; omega
      simp -implicitDefEqProofs (disch := omega) only [go_sem]
      with_reducible refine split2 (fun hb => ?_) (fun hb => ?_) <;> have h := hb <;> (try simp only [wf_preprocess] at h) <;> simp -implicitDefEqProofs (disch := omega) only [go_sem, hb] <;> (repeat (with_reducible refine And.intro ?_ ?_; focus first | omega | rfl | assumption | exact ⟨_, rfl, rfl⟩ | (simp; omega) | (simp; done)))
      · have hi : i < xs.length := by omega
        have hx : xs[i].sz ≤ szRows (xs.map MType.enc) := szRows_mem (List.mem_map_of_mem (List.getElem_mem hi))
        (repeat (with_reducible refine And.intro ?_ ?_; focus first | omega | rfl | assumption | exact ⟨_, rfl, rfl⟩ | (simp; omega) | (simp; done)))
        refine call_w (ih xs[i] (by have := List.sizeOf_lt_of_mem (List.getElem_mem hi); omega) (by omega)) ?_
        simp -implicitDefEqProofs (disch := omega) only [go_sem]
        (repeat (with_reducible refine And.intro ?_ ?_; focus first | omega | rfl | assumption | exact ⟨_, rfl, rfl⟩ | (simp; omega) | (simp; done)))
        exact inv_at (i + 1, _) (by simp only; omega) rfl rfl ⟨by simp only; omega, by rw [p2]; simp [List.take_succ_eq_append_getElem, hi, MType.enc_eq]⟩
      · have hi : i = xs.length := by omega
        rw [p2, List.take_of_length_le (by rw [List.length_map]; omega)]
theorem l4Copy_ok (x : MType) (h : x.sz ≤ 4194304) : PCall Try.prog 124 [x.v] x.v := (l4Copy_all _).1 x (Nat.lt_succ_self _) h
theorem copyType_all : ∀ n : Nat, (∀ x : MType, SizeOf.sizeOf x < n → x.sz ≤ 4194304 → PCall Try.prog 136 [x.v] x.v) ∧
    (∀ xs : List MType, SizeOf.sizeOf xs < n → xs.length + szRows (xs.map MType.enc) ≤ 4194304 → PCall Try.prog 141 [.c (.d (.sl (xs.map MType.enc)))] (.c (.d (.sl (xs.map MType.enc)))))
  | 0 => ⟨fun x h => by omega, fun x h => by omega⟩
  | n + 1 => by
    obtain ⟨ih, ihS⟩ := copyType_all n
    refine ⟨fun x hn hsz S => ?_, fun xs hn hsz S => ?_⟩
    · have lArgs := MType.lt_Args x
      simp only [MType.sz, MType.enc_eq, szRow, szRow_append, D.sz, List.length_map] at hsz
      refine acall_cw (rs := [.cell 2 26]) Try.checked.mixed Try.func136 Try.ntmps136 rfl rfl rfl rfl rfl ?_
      simp -implicitDefEqProofs (disch := omega) only [go_sem]
      refine call_w (ihS x.fArgs (by omega) (by omega)) ?_
      simp -implicitDefEqProofs (disch := omega) only [go_sem]
    · refine acall_cw (rs := [.tmp 2]) Try.checked.mixed Try.func141 Try.ntmps141 rfl rfl rfl rfl rfl ?_
      simp -implicitDefEqProofs (disch := omega) only [go_sem]
      (repeat (with_reducible refine And.intro ?_ ?_; focus first | omega | rfl | assumption | exact ⟨_, rfl, rfl⟩ | (simp; omega) | (simp; done)))
      refine loop_at (ι := Nat × List (List D)) Try.checked.mixed rfl [9, 10, 3, 11] (fun y => [.c (.d (.sl (xs.map MType.enc))), .c (.d (.i .i64 xs.length)), .c (.msl (0, 0)), .c (.d (.i .i64 y.1))]) (fun y => [.mrow 3 y.2] :: S)
        (fun y => y.1 ≤ xs.length ∧ Filled 3 y.1 y.2 (xs.map MType.enc)) (fun y => xs.length - y.1) (0, _) rfl rfl ⟨Nat.zero_le _, Filled.start (by simp) rfl⟩ ?_
      rintro ⟨i, R⟩ ⟨p1, p2⟩
      simp only at p1 p2
      simp -implicitDefEqProofs (disch := omega) only [go_sem]
      with_reducible refine split2 (fun hb => ?_) (fun hb => ?_) <;> have h := hb <;> (try simp only [wf_preprocess] at h) <;> simp -implicitDefEqProofs (disch := omega) only [go_sem, hb] <;> (repeat (with_reducible refine And.intro ?_ ?_; focus first | omega | rfl | assumption | exact ⟨_, rfl, rfl⟩ | (simp; omega) | (simp; done)))
      · have hi : i < xs.length := by omega
        have hx : xs[i].sz ≤ szRows (xs.map MType.enc) := szRows_mem (List.mem_map_of_mem (List.getElem_mem hi))
        (repeat (with_reducible refine And.intro ?_ ?_; focus first | omega | rfl | assumption | exact ⟨_, rfl, rfl⟩ | (simp; omega) | (simp; done)))
        refine call_w (ih xs[i] (by have := List.sizeOf_lt_of_mem (List.getElem_mem hi); omega) (by omega)) ?_
        simp -implicitDefEqProofs (disch := omega) only [go_sem]
        have hR := p2.1
        rw [List.length_map] at hR
        (repeat (with_reducible refine And.intro ?_ ?_; focus first | omega | rfl | assumption | exact ⟨_, rfl, rfl⟩ | (simp; omega) | (simp; done)))
        refine inv_drop 1 (by decide) (i + 1, _) (by simp only; omega) rfl rfl rfl rfl ⟨by simp only; omega, p2.step (by simp [hi, MType.enc_eq]) rfl⟩
      · have hi : i = xs.length := by omega
        rw [p2.done (by rw [List.length_map]; omega)]
theorem copyType_ok (x : MType) (h : x.sz ≤ 4194304) : PCall Try.prog 136 [x.v] x.v := (copyType_all _).1 x (Nat.lt_succ_self _) h
end Go.Proofs.Ytceaigchkgifgaa

namespace Go.Proofs.Ytceaigchkgifgaa
open Go Go.Ab
def lookR : Option MType → V
  | some u => .tup [(true, [.d (.i .i64 u.fKind), .d (.s u.fName), .d (.sl (u.fArgs.map MType.enc))]), (false, [.d (.b true)])]
  | none => .tup [(true, [.d (.i .i64 0), .d (.s []), .fsl []]), (false, [.d (.b false)])]
theorem lookR_some {u : MType} : lookR (some u) = .tup [(true, [.d (.i .i64 u.fKind), .d (.s u.fName), .d (.sl (u.fArgs.map MType.enc))]), (false, [.d (.b true)])] := rfl
theorem lookR_none : lookR none = .tup [(true, [.d (.i .i64 0), .d (.s []), .fsl []]), (false, [.d (.b false)])] := rfl
theorem lookup_here {bs : List MBinding} {v : List UInt8} {i : Nat} (hi : i < bs.length) (hj : ∀ j, j < i → ∀ h : j < bs.length, bs[j].fVar ≠ v) (h : bs[i].fVar = v) : lookupB bs v = some bs[i].fType := by
  induction bs generalizing i with
  | nil => simp at hi
  | cons b bs ih =>
    rw [lookupB]
    cases i with
    | zero => simp at h; simp [h]
    | succ i =>
      have := hj 0 (by omega) (by simp)
      simp at this
      rw [if_neg this]
      simpa using ih (by simpa using hi) (fun j h1 h2 => by
        have := hj (j + 1) (by omega) (by simpa using h2)
        rwa [List.getElem_cons_succ] at this) (by simpa using h)
theorem lookup_no {bs : List MBinding} {v : List UInt8} (hj : ∀ j, ∀ h : j < bs.length, bs[j].fVar ≠ v) : lookupB bs v = none := by
  induction bs with
  | nil => rfl
  | cons b bs ih =>
    rw [lookupB]
    have := hj 0 (by simp)
    simp at this
    rw [if_neg this]
    exact ih (fun j h => by
      have := hj (j + 1) (by simpa using h)
      rwa [List.getElem_cons_succ] at this)
theorem specLookup_ok (bs : List MBinding) (v : List UInt8) (hsz : ∀ b ∈ bs, b.fType.sz ≤ 4194304) (hlen : bs.length ≤ 1073741824) : PCall Try.prog 98 [.c (.d (.sl (bs.map MBinding.enc))), .c (.d (.s v))] (lookR (lookupB bs v)) := fun S => by
  refine acall_cw (rs := [.cell 4 26, .tmp 5]) Try.checked.mixed Try.func98 Try.ntmps98 rfl rfl rfl rfl rfl ?_
  simp -implicitDefEqProofs (disch := omega) only [go_sem]
  (repeat (with_reducible refine And.intro ?_ ?_; focus first | omega | rfl | assumption | exact ⟨_, rfl, rfl⟩ | (simp; omega) | (simp; done)))
  refine loop_at (ι := Nat) Try.checked.mixed rfl [0, 1, 4, 6] (fun i => [.c (.d (.sl (bs.map MBinding.enc))), .c (.d (.s v)), .c (.ptr (0, 0) 0), .c (.d (.i .i64 i))]) (fun _ => [.box [.d (.i .i64 0), .d (.s []), .fsl []]] :: S)
    (fun i => i ≤ bs.length ∧ ∀ j, j < i → ∀ h : j < bs.length, bs[j].fVar ≠ v) (fun i => bs.length - i) 0 rfl rfl ⟨Nat.zero_le _, fun j h => by omega⟩ ?_
  rintro i ⟨p1, p2⟩
  simp -implicitDefEqProofs (disch := omega) only [go_sem]
  with_reducible refine split2 (fun hb => ?_) (fun hb => ?_) <;> have h := hb <;> (try simp only [wf_preprocess] at h) <;> simp -implicitDefEqProofs (disch := omega) only [go_sem, hb] <;> (repeat (with_reducible refine And.intro ?_ ?_; focus first | omega | rfl | assumption | exact ⟨_, rfl, rfl⟩ | (simp; omega) | (simp; done)))
  · have hi : i < bs.length := by omega
    have ht := hsz bs[i] (List.getElem_mem hi)
    with_reducible refine split2 (fun hb => ?_) (fun hb => ?_) <;> have h := hb <;> (try simp only [wf_preprocess] at h) <;> simp -implicitDefEqProofs (disch := omega) only [go_sem, hb] <;> (repeat (with_reducible refine And.intro ?_ ?_; focus first | omega | rfl | assumption | exact ⟨_, rfl, rfl⟩ | (simp; omega) | (simp; done)))
    · refine call_w (l4Copy_ok bs[i].fType (by omega)) ?_
      simp -implicitDefEqProofs (disch := omega) only [go_sem] <;> (repeat (with_reducible refine And.intro ?_ ?_; focus first | omega | rfl | assumption | exact ⟨_, rfl, rfl⟩ | (simp; omega) | (simp; done)))
      rw [lookup_here hi p2 h]
      rfl
    · refine inv_at (i + 1) (by omega) rfl rfl ⟨by omega, fun j hj hl => ?_⟩
      by_cases e : j = i
      · subst e; exact h
      · exact p2 j (by omega) hl
  · (repeat (with_reducible refine And.intro ?_ ?_; focus first | omega | rfl | assumption | exact ⟨_, rfl, rfl⟩ | (simp; omega) | (simp; done)))
    rw [lookup_no (fun j hl => p2 j (by omega) hl)]
    rfl
theorem implLookup_ok (bs : List MBinding) (v : List UInt8) (hsz : ∀ b ∈ bs, b.fType.sz ≤ 4194304) (hlen : bs.length ≤ 1073741824) : PCall Try.prog 135 [.c (.d (.sl (bs.map MBinding.enc))), .c (.d (.s v))] (lookR (lookupB bs v)) := fun S => by
  refine acall_cw (rs := [.cell 4 26, .tmp 5]) Try.checked.mixed Try.func135 Try.ntmps135 rfl rfl rfl rfl rfl ?_
  simp -implicitDefEqProofs (disch := omega) only [go_sem]
  (repeat (with_reducible refine And.intro ?_ ?_; focus first | omega | rfl | assumption | exact ⟨_, rfl, rfl⟩ | (simp; omega) | (simp; done)))
  refine loop_at (ι := Nat) Try.checked.mixed rfl [1, 4, 8, 9, 10] (fun i => [.c (.d (.s v)), .c (.ptr (0, 0) 0), .c (.d (.sl (bs.map MBinding.enc))), .c (.d (.i .i64 bs.length)), .c (.d (.i .i64 i))]) (fun _ => [.box [.d (.i .i64 0), .d (.s []), .fsl []]] :: S)
    (fun i => i ≤ bs.length ∧ ∀ j, j < i → ∀ h : j < bs.length, bs[j].fVar ≠ v) (fun i => bs.length - i) 0 rfl rfl ⟨Nat.zero_le _, fun j h => by omega⟩ ?_
  rintro i ⟨p1, p2⟩
  simp -implicitDefEqProofs (disch := omega) only [go_sem]
  with_reducible refine split2 (fun hb => ?_) (fun hb => ?_) <;> have h := hb <;> (try simp only [wf_preprocess] at h) <;> simp -implicitDefEqProofs (disch := omega) only [go_sem, hb] <;> (repeat (with_reducible refine And.intro ?_ ?_; focus first | omega | rfl | assumption | exact ⟨_, rfl, rfl⟩ | (simp; omega) | (simp; done)))
  · have hi : i < bs.length := by omega
    have ht := hsz bs[i] (List.getElem_mem hi)
    with_reducible refine split2 (fun hb => ?_) (fun hb => ?_) <;> have h := hb <;> (try simp only [wf_preprocess] at h) <;> simp -implicitDefEqProofs (disch := omega) only [go_sem, hb] <;> (repeat (with_reducible refine And.intro ?_ ?_; focus first | omega | rfl | assumption | exact ⟨_, rfl, rfl⟩ | (simp; omega) | (simp; done)))
    · refine call_w (copyType_ok bs[i].fType (by omega)) ?_
      simp -implicitDefEqProofs (disch := omega) only [go_sem] <;> (repeat (with_reducible refine And.intro ?_ ?_; focus first | omega | rfl | assumption | exact ⟨_, rfl, rfl⟩ | (simp; omega) | (simp; done)))
      rw [lookup_here hi p2 h]
      rfl
    · refine inv_drop 1 (by decide) (i + 1) (by omega) rfl rfl rfl rfl ⟨by omega, fun j hj hl => ?_⟩
      by_cases e : j = i
      · subst e; exact h
      · exact p2 j (by omega) hl
  · rw [lookup_no (fun j hl => p2 j (by omega) hl)]
    rfl
end Go.Proofs.Ytceaigchkgifgaa

namespace Go.Ab
def abL : List (List UInt8) := [[97], [98]]
def assocL : List (List UInt8) := [[97, 100, 100], [115, 104, 111, 119]]
theorem short_ab : Short8 abL := by unfold Short8; decide
theorem short_assoc : Short8 assocL := by unfold Short8; decide
def freeT {bs : List Int} (t : MType) (c : Cu bs) : MType × Cu bs :=
  if (belowD 8 c).1 = 0 then (projT (pickD assocL (belowD 8 c).2).1 t, (pickD assocL (belowD 8 c).2).2) else
  if (belowD 8 c).1 = 1 then (conT [108, 105, 115, 116] [projT [97, 100, 100] t], (belowD 8 c).2) else
  if (belowD 8 c).1 = 2 then (dynT [115, 104, 111, 119], (belowD 8 c).2) else (t, (belowD 8 c).2)
def freeD {bs : List Int} (n : Nat) (c : Cu bs) : MType × Cu bs := freeT (tyD abL n c).1 (tyD abL n c).2
def bentL : List (List UInt8) := [[], [105, 110, 116], [65], [97, 115, 115, 111, 99], [97, 98, 99, 100, 101, 102, 103, 104, 105]]
def intT : MType := conT [105, 110, 116] []
def boolT : MType := conT [98, 111, 111, 108] []
def wrapT : Nat → MType → MType
  | 0, t => t
  | n + 1, t => wrapT n (conT [108, 105, 115, 116] [t])
def bentT {bs : List Int} (t : MType) (c : Cu bs) : MType × Cu bs :=
  if (belowD 12 c).1 = 0 then (.mk ((belowD 7 (belowD 12 c).2).1 - 1) t.fName t.fArgs, (belowD 7 (belowD 12 c).2).2) else
  if (belowD 12 c).1 = 1 then (.mk t.fKind (pickD bentL (belowD 12 c).2).1 t.fArgs, (pickD bentL (belowD 12 c).2).2) else
  if (belowD 12 c).1 = 2 then (.mk t.fKind t.fName (t.fArgs ++ [intT, boolT, intT]), (belowD 12 c).2) else
  if (belowD 12 c).1 = 3 then (wrapT 6 t, (belowD 12 c).2) else (t, (belowD 12 c).2)
def bentD {bs : List Int} (c : Cu bs) : MType × Cu bs := bentT (freeD 3 c).1 (freeD 3 c).2
theorem sz_proj (s : List UInt8) (t : MType) : (projT s t).sz = s.length + 1 + t.sz := by
  have := MType.sz_def t
  simp only [projT, MType.sz, MType.enc_eq, szRow, D.sz, szRows, MType.fName, MType.fArgs, List.map_cons, List.map_nil, List.length_cons, List.length_nil] at this ⊢
  omega
theorem sz_dyn (s : List UInt8) : (dynT s).sz = s.length := by simp [dynT, MType.sz, MType.enc_eq, szRow, D.sz, szRows, MType.fName, MType.fArgs]
theorem freeD_sz {bs : List Int} (n : Nat) (c : Cu bs) : (freeD n c).1.sz ≤ 18 * 2 ^ n + 10 := by
  have h := tyD_sz short_ab n c
  unfold freeD freeT
  split
  · have := pickD_len (belowD 8 (tyD abL n c).2).2 short_assoc
    simp only [sz_proj]; omega
  split
  · simp only [sz_con1, sz_proj, List.length_cons, List.length_nil]; omega
  split
  · simp only [sz_dyn, List.length_cons, List.length_nil]; omega
  · show (tyD abL n c).1.sz ≤ _
    omega
end Go.Ab
namespace Go.Proofs.Ytceaigchkgifgaa
open Go Go.Ab
theorem l4Proj_ok (s : List UInt8) (t : MType) (h : t.sz ≤ 4194304) : PCall Try.prog 96 [.c (.d (.s s)), t.v] (.agg [.d (.i .i64 3), .d (.s s), .fsl ([t].map MType.enc)]) := fun S => by
  refine acall_cw (rs := [.cell 4 26]) Try.checked.mixed Try.func96 Try.ntmps96 rfl rfl rfl rfl rfl ?_
  simp -implicitDefEqProofs (disch := omega) only [go_sem]
  refine call_w (l4Copy_ok t h) ?_
  simp -implicitDefEqProofs (disch := omega) only [go_sem] <;> (repeat (with_reducible refine And.intro ?_ ?_; focus first | omega | rfl | assumption | exact ⟨_, rfl, rfl⟩ | (simp; omega) | (simp; done)))
theorem l4Int_ok : PCall Try.prog 63 [] intT.v := fun S => by
  refine acall_cw (rs := [.cell 0 26]) Try.checked.mixed Try.func63 Try.ntmps63 rfl rfl rfl rfl rfl ?_
  simp -implicitDefEqProofs (disch := omega) only [go_sem]
  refine call_w (l4Con_ok [105, 110, 116] [] rfl (Nat.zero_le _) (.inl rfl)) ?_
  simp -implicitDefEqProofs (disch := omega) only [go_sem]
  first | done | exact ⟨rfl, rfl⟩ | rfl
theorem l4Free_esc {bs : List Int} (hB : Bytes bs) (n : Nat) (c : Cu bs) (l j : Nat) (S : Store) (hk : getO S (l, j) = some (.box (cur c))) (hn : n ≤ 16) :
    Esc Try.prog 59 [.c (.ptr (l, j) 0), .c (.d (.i .i64 n))] S (tyRaw (freeD n c).1 (setO S (l, j) (.box (cur (freeD n c).2)))) := by
  have g : ∀ x : Ab.Obj, getO (setO S (l, j) x) (l, j) = some x := fun x => getO_setO_eq _ _ _ _ hk
  unfold freeD
  obtain ⟨t, ht⟩ : ∃ t, t = (tyD abL n c).1 := ⟨_, rfl⟩
  obtain ⟨c1, hc1⟩ : ∃ c1, c1 = (tyD abL n c).2 := ⟨_, rfl⟩
  have hsz : t.sz ≤ 4194304 := by
    have := tyD_sz short_ab n c
    have h2 : 2 ^ n ≤ 2 ^ 16 := Nat.pow_le_pow_right (by omega) hn
    rw [ht]; omega
  rw [← ht, ← hc1]
  unfold freeT
  obtain ⟨k, hkd⟩ : ∃ k, k = (belowD 8 c1).1 := ⟨_, rfl⟩
  obtain ⟨c2, hc2⟩ : ∃ c2, c2 = (belowD 8 c1).2 := ⟨_, rfl⟩
  rw [← hkd, ← hc2]
  refine esc_cwc [52] (rs := [.cell 4 26]) Try.checked.mixed Try.func59 Try.ntmps59 rfl rfl rfl rfl rfl ?_
  simp -implicitDefEqProofs (disch := omega) only [go_sem]
  have h1 := tyRaw_push (S' := [.box [.d (.i .i64 0), .d (.s []), .fsl []]] :: setO S (l, j) (.box (cur (tyD abL n c).2))) rfl (by
    have := l4Ty_esc hB (vars := abL) (by decide) n c (1 + l) j ([.box [.d (.i .i64 0), .d (.s []), .fsl []]] :: S) (by rw [getO_up1]; exact hk) (by omega)
    rw [setO_up1] at this
    exact this)
  rw [← ht, ← hc1] at h1
  refine call_m [true] rfl h1 ?_
  simp -implicitDefEqProofs (disch := omega) only [go_sem, setO_up1]
  refine call_d rfl (l1Below_ok hB c1 (1 + l) j _ 8 (by rw [getO_up1]; exact g _) (by omega) (by omega)) ?_
  rw [← hkd, ← hc2]
  simp -implicitDefEqProofs (disch := omega) only [go_sem, setO_up1, setO_twice]
  with_reducible refine split2 (fun hb => ?_) (fun hb => ?_) <;> have h := hb <;> (try simp only [wf_preprocess] at h) <;> simp -implicitDefEqProofs (disch := omega) only [go_sem, hb, setO_up1, setO_twice] <;> (repeat (with_reducible refine And.intro ?_ ?_; focus first | omega | rfl | assumption | exact ⟨_, rfl, rfl⟩ | (simp; omega) | (simp; done)))
  · rw [if_pos h]
    refine call_m [true] rfl (l1Pick_ok hB c2 (1 + l) j _ assocL (by rw [getO_up1]; exact g _) (by decide) (by decide)) ?_
    simp -implicitDefEqProofs (disch := omega) only [go_sem, setO_up1, setO_twice]
    refine call_w (l4Proj_ok (pickD assocL c2).1 t hsz) ?_
    simp -implicitDefEqProofs (disch := omega) only [go_sem, setO_up1, setO_twice]
    refine ⟨by cases l <;> rfl, ?_⟩
    simp -implicitDefEqProofs (disch := omega) only [go_sem, setO_up1, setO_twice]
    exact ⟨rfl, _, rfl, .inr ⟨by simp [projT, MType.fArgs, MType.enc_eq], encT_len [t]⟩⟩
  rw [if_neg h]
  with_reducible refine split2 (fun hb => ?_) (fun hb => ?_) <;> have h := hb <;> (try simp only [wf_preprocess] at h) <;> simp -implicitDefEqProofs (disch := omega) only [go_sem, hb, setO_up1, setO_twice] <;> (repeat (with_reducible refine And.intro ?_ ?_; focus first | omega | rfl | assumption | exact ⟨_, rfl, rfl⟩ | (simp; omega) | (simp; done)))
  · rw [if_pos h]
    refine call_w (l4Proj_ok [97, 100, 100] t hsz) ?_
    simp -implicitDefEqProofs (disch := omega) only [go_sem, setO_up1, setO_twice]
    (repeat (with_reducible refine And.intro ?_ ?_; focus first | omega | rfl | assumption | exact ⟨_, rfl, rfl⟩ | (simp; omega) | (simp; done)))
    refine call_d rfl (l4Con_push _ [projT [97, 100, 100] t] (by simp [projT, MType.enc_eq, MType.fKind, MType.fName, MType.fArgs]) (by simp) (.inr rfl)) ?_
    simp -implicitDefEqProofs (disch := omega) only [go_sem, setO_up1, setO_twice]
    refine ⟨rfl, _, rfl, .inl ⟨3, ?_, ?_⟩⟩ <;> simp [conT, projT, MType.enc_eq, MType.fKind, MType.fName, MType.fArgs]
  rw [if_neg h]
  with_reducible refine split2 (fun hb => ?_) (fun hb => ?_) <;> have h := hb <;> (try simp only [wf_preprocess] at h) <;> simp -implicitDefEqProofs (disch := omega) only [go_sem, hb, setO_up1, setO_twice] <;> (repeat (with_reducible refine And.intro ?_ ?_; focus first | omega | rfl | assumption | exact ⟨_, rfl, rfl⟩ | (simp; omega) | (simp; done)))
  · rw [if_pos h]
    exact ⟨rfl, _, rfl, .inr ⟨rfl, fun e he => by cases he⟩⟩
  rw [if_neg h]
  exact ⟨rfl, _, rfl, .inl ⟨1, rfl, rfl⟩⟩
theorem l4Bool_ok : PCall Try.prog 125 [] boolT.v := fun S => by
  refine acall_cw (rs := [.cell 0 26]) Try.checked.mixed Try.func125 Try.ntmps125 rfl rfl rfl rfl rfl ?_
  simp -implicitDefEqProofs (disch := omega) only [go_sem]
  refine call_w (l4Con_ok [98, 111, 111, 108] [] rfl (Nat.zero_le _) (.inl rfl)) ?_
  simp -implicitDefEqProofs (disch := omega) only [go_sem]
  first | done | exact ⟨rfl, rfl⟩ | rfl
theorem l4Free_ok {bs : List Int} (hB : Bytes bs) (n : Nat) (c : Cu bs) (l j : Nat) (S : Store) (hk : getO S (l, j) = some (.box (cur c))) (hn : n ≤ 16) :
    ACall Try.prog 59 [.c (.ptr (l, j) 0), .c (.d (.i .i64 n))] S (fun r S1 => r = (freeD n c).1.v ∧ S1 = setO S (l, j) (.box (cur (freeD n c).2))) :=
  tyRaw_plain (l4Free_esc hB n c l j S hk hn)
theorem l4Bent_ok {bs : List Int} (hB : Bytes bs) (c : Cu bs) (l j : Nat) (S : Store) (hk : getO S (l, j) = some (.box (cur c))) :
    ACall Try.prog 100 [.c (.ptr (l, j) 0)] S (fun r S1 => r = (bentD c).1.v ∧ S1 = setO S (l, j) (.box (cur (bentD c).2))) := by
  have g : ∀ x : Ab.Obj, getO (setO S (l, j) x) (l, j) = some x := fun x => getO_setO_eq _ _ _ _ hk
  unfold bentD
  obtain ⟨t, ht⟩ : ∃ t, t = (freeD 3 c).1 := ⟨_, rfl⟩
  obtain ⟨c1, hc1⟩ : ∃ c1, c1 = (freeD 3 c).2 := ⟨_, rfl⟩
  have hsz := freeD_sz 3 c
  rw [← ht] at hsz
  rw [← ht, ← hc1]
  unfold bentT
  obtain ⟨k, hkd⟩ : ∃ k, k = (belowD 12 c1).1 := ⟨_, rfl⟩
  obtain ⟨c2, hc2⟩ : ∃ c2, c2 = (belowD 12 c1).2 := ⟨_, rfl⟩
  rw [← hkd, ← hc2]
  have hsl : t.fArgs.length ≤ 1048576 := by
    simp only [MType.sz, MType.enc_eq, szRow, D.sz, List.length_map] at hsz
    omega
  refine acall_cwc [52] (rs := [.cell 2 26]) Try.checked.mixed Try.func100 Try.ntmps100 rfl rfl rfl rfl rfl ?_
  simp -implicitDefEqProofs (disch := omega) only [go_sem]
  have h1 := tyRaw_push (S' := [.box [.d (.i .i64 0), .d (.s []), .fsl []]] :: setO S (l, j) (.box (cur (freeD 3 c).2))) rfl (by
    have := l4Free_esc hB 3 c (1 + l) j ([.box [.d (.i .i64 0), .d (.s []), .fsl []]] :: S) (by rw [getO_up1]; exact hk) (by omega)
    rw [setO_up1] at this
    exact this)
  rw [← ht, ← hc1] at h1
  refine call_d rfl h1 ?_
  simp -implicitDefEqProofs (disch := omega) only [go_sem, setO_up1]
  refine call_d rfl (l1Below_ok hB c1 (1 + l) j _ 12 (by rw [getO_up1]; exact g _) (by omega) (by omega)) ?_
  rw [← hkd, ← hc2]
  simp -implicitDefEqProofs (disch := omega) only [go_sem, setO_up1, setO_twice]
  with_reducible refine split2 (fun hb => ?_) (fun hb => ?_) <;> have h := hb <;> (try simp only [wf_preprocess] at h) <;> simp -implicitDefEqProofs (disch := omega) only [go_sem, hb, setO_up1, setO_twice] <;> (repeat (with_reducible refine And.intro ?_ ?_; focus first | omega | rfl | assumption | exact ⟨_, rfl, rfl⟩ | (simp; omega) | (simp; done)))
  · rw [if_pos h]
    have hx := belowD_rng (n := 7) c2 (by omega)
    refine call_d rfl (l1Below_ok hB c2 (1 + l) j _ 7 (by rw [getO_up1]; exact g _) (by omega) (by omega)) ?_
    simp -implicitDefEqProofs (disch := omega) only [go_sem, setO_up1, setO_twice]
    rfl
  rw [if_neg h]
  with_reducible refine split2 (fun hb => ?_) (fun hb => ?_) <;> have h := hb <;> (try simp only [wf_preprocess] at h) <;> simp -implicitDefEqProofs (disch := omega) only [go_sem, hb, setO_up1, setO_twice] <;> (repeat (with_reducible refine And.intro ?_ ?_; focus first | omega | rfl | assumption | exact ⟨_, rfl, rfl⟩ | (simp; omega) | (simp; done)))
  · rw [if_pos h]
    refine call_m [true] rfl (l1Pick_ok hB c2 (1 + l) j _ bentL (by rw [getO_up1]; exact g _) (by decide) (by decide)) ?_
    simp -implicitDefEqProofs (disch := omega) only [go_sem, setO_up1, setO_twice]
    rfl
  rw [if_neg h]
  with_reducible refine split2 (fun hb => ?_) (fun hb => ?_) <;> have h := hb <;> (try simp only [wf_preprocess] at h) <;> simp -implicitDefEqProofs (disch := omega) only [go_sem, hb, setO_up1, setO_twice] <;> (repeat (with_reducible refine And.intro ?_ ?_; focus first | omega | rfl | assumption | exact ⟨_, rfl, rfl⟩ | (simp; omega) | (simp; done)))
  · rw [if_pos h]
    refine call_w l4Int_ok ?_
    simp -implicitDefEqProofs (disch := omega) only [go_sem, setO_up1, setO_twice]
    refine call_w l4Bool_ok ?_
    simp -implicitDefEqProofs (disch := omega) only [go_sem, setO_up1, setO_twice]
    refine call_w l4Int_ok ?_
    simp -implicitDefEqProofs (disch := omega) only [go_sem, setO_up1, setO_twice]
    (repeat (with_reducible refine And.intro ?_ ?_; focus first | omega | rfl | assumption | exact ⟨_, rfl, rfl⟩ | (simp; omega) | (simp; done)))
    refine ⟨by cases l <;> rfl, ?_⟩
    simp -implicitDefEqProofs (disch := omega) only [go_sem, setO_up1, setO_twice]
    cases t
    simp [intT, boolT, conT, MType.fKind, MType.fName, MType.fArgs, MType.enc_eq]
  rw [if_neg h]
  with_reducible refine split2 (fun hb => ?_) (fun hb => ?_) <;> have h := hb <;> (try simp only [wf_preprocess] at h) <;> simp -implicitDefEqProofs (disch := omega) only [go_sem, hb, setO_up1, setO_twice] <;> (repeat (with_reducible refine And.intro ?_ ?_; focus first | omega | rfl | assumption | exact ⟨_, rfl, rfl⟩ | (simp; omega) | (simp; done)))
  · rw [if_pos h]
    refine loop_at (ι := Nat × MType × C) Try.checked.mixed rfl [2, 3, 4] (fun x => [.c (.ptr (0, 0) 0), .c (.ptr (0, 2) 0), .c (.d (.i .i64 x.1))])
      (fun x => [.box [.d (.i .i64 0), .d (.s []), .fsl []], .tok 3 (t.fArgs.map MType.enc), .box [.d (.i .i64 x.2.1.fKind), .d (.s x.2.1.fName), x.2.2]] :: setO S (l, j) (.box (cur c2)))
      (fun x => x.1 ≤ 6 ∧ wrapT (6 - x.1) x.2.1 = wrapT 6 t ∧ (x.2.2 = .d (.sl (x.2.1.fArgs.map MType.enc)) ∨ x.2.2 = .tsl (0, 1) (x.2.1.fArgs.map MType.enc))) (fun x => 6 - x.1) (0, t, .tsl (0, 1) (t.fArgs.map MType.enc)) rfl rfl ⟨by simp, rfl, .inr rfl⟩ ?_
    rintro ⟨i, u, x⟩ ⟨p1, p2, p3⟩
    simp only at p1 p2 p3
    simp -implicitDefEqProofs (disch := omega) only [go_sem]
    with_reducible refine split2 (fun hb => ?_) (fun hb => ?_) <;> have h := hb <;> (try simp only [wf_preprocess] at h) <;> simp -implicitDefEqProofs (disch := omega) only [go_sem, hb] <;> (repeat (with_reducible refine And.intro ?_ ?_; focus first | omega | rfl | assumption | exact ⟨_, rfl, rfl⟩ | (simp; omega) | (simp; done)))
    · have e6 : 6 - i = (6 - (i + 1)) + 1 := by omega
      rw [e6, wrapT] at p2
      rcases p3 with rfl | rfl
      all_goals
        simp -implicitDefEqProofs (disch := omega) only [go_sem]
        refine call_w (l4Con_ok [108, 105, 115, 116] [u] (es := [[.i .i64 u.fKind, .s u.fName, .sl (u.fArgs.map MType.enc)]]) (by simp only [List.map_cons, List.map_nil, MType.enc_eq]) (by simp) (.inl rfl)) ?_
        simp -implicitDefEqProofs (disch := omega) only [go_sem]
        refine inv_at (i + 1, conT [108, 105, 115, 116] [u], .d (.sl ([u].map MType.enc))) (by simp only; omega) rfl ?_ ⟨by simp only; omega, p2, .inl rfl⟩
        simp only [conT, MType.fKind, MType.fName, List.map_cons, List.map_nil, MType.enc_eq]
    · have e6 : 6 - i = 0 := by omega
      rw [e6, wrapT] at p2
      rw [← p2]
      rcases p3 with rfl | rfl
      all_goals
        simp -implicitDefEqProofs (disch := omega) only [go_sem]
  rw [if_neg h]
  exact ⟨rfl, rfl⟩
end Go.Proofs.Ytceaigchkgifgaa

namespace Go.Ab
section
variable {P : Program} {N : Nat} {w w' : World} {σ σ' : Nat → Nat} {S S' : Store} {β β' : Hs} {s : St} {a : Act}
theorem aw_row {c : Code} {Q : Exit → St → Prop} {tm : List (Nat × V)} {own : List Obj} {Ω : Store} (t z : Nat) (hv : look tm t = .c (.fsl []))
    (h : AW P N c Q ⟨(t, .c (.msl (0, own.length))) :: tm, (own ++ [.mrow z []]) :: Ω⟩) : AW P N c Q ⟨tm, own :: Ω⟩ := by
  refine aw_ghost h fun a w σ β hR => ?_
  obtain ⟨bo, bΩ, rfl, hlen⟩ := frames hR
  have ht := hR.T t
  rw [hv] at ht
  obtain ⟨⟨hd, ad, n, hval⟩, hone⟩ := ht
  have hn : n = 0 := by rw [hval] at hd; cases hd <;> rfl
  subst hn
  have hg : Grow w σ w σ := Grow.refl hR.S.live
  obtain ⟨hS', hk, hst⟩ := hR.S.push (o := .mrow z []) (h := a.tmps.getD t undef) hg hlen ⟨fun e he => absurd he List.not_mem_nil, ad, 0, by rw [hval]; rfl, Nat.le_refl _, .inl rfl⟩ (fun b hb => by
    rw [hval] at hb
    cases ad <;> simp [owns, blk] at hb)
  refine ⟨σ, _, ⟨hR.size, hR.defers, hS', fun u => ?_⟩, hst, Keep.refl _ _⟩
  show RepV w σ _ _ (if t = u then _ else look tm u) _
  by_cases e : t = u
  · subst e
    rw [if_pos rfl]
    exact ⟨⟨_, getO_push_new _ _ _, fun a b e => by rw [← hlen, getO_push_new]⟩, hone⟩
  · rw [if_neg e]
    exact (hR.T u).mono (Near.refl _ _) hk
def scalC : C → Bool
  | .d (.b _) => true
  | .d (.i _ _) => true
  | .d (.s _) => true
  | .any => true
  | _ => false
def scalV : V → Bool
  | .c x => scalC x
  | .agg cs => cs.all scalC
  | .tup xs => xs.all fun y => y.2.all scalC
  | .any => true
theorem scal_C {c : C} {v : Value} (h : scalC c = true) (hr : RepC w σ S β c v) : RepC w' σ' S' β' c v := by
  cases c with
  | d x => cases x <;> first | (cases h; done) | (cases hr; constructor)
  | any => trivial
  | _ => cases h
theorem scal_Cs {cs : List C} {vs : List Value} (h : cs.all scalC = true) (hr : RepCs w σ S β cs vs) : RepCs w' σ' S' β' cs vs :=
  ⟨hr.1, fun j x hx => let ⟨v, h1, h2, h3⟩ := hr.2 j x hx; ⟨v, h1, scal_C (List.all_eq_true.1 h x (List.mem_of_getElem? hx)) h2, h3⟩⟩
theorem scal_V {x : V} {v : Value} (h : scalV x = true) (hr : RepV w σ S β x v) : RepV w' σ' S' β' x v := by
  cases x with
  | c x => exact ⟨scal_C h hr.1, hr.2⟩
  | agg cs => obtain ⟨ar, ha, hc⟩ := hr; exact ⟨ar, ha, scal_Cs h hc⟩
  | any => trivial
  | tup xs =>
    obtain ⟨ar, ha, hl, h2⟩ := hr
    refine ⟨ar, ha, hl, fun j y hy => ?_⟩
    obtain ⟨u, hu, h3⟩ := h2 j y hy
    have hy' := List.all_eq_true.1 h y (List.mem_of_getElem? hy)
    refine ⟨u, hu, ?_⟩
    obtain ⟨b, cs⟩ := y
    cases b with
    | true => obtain ⟨a', e, hcs⟩ := h3; exact ⟨a', e, scal_Cs hy' hcs⟩
    | false =>
      obtain ⟨x, e, hx, ho⟩ := h3
      subst e
      simp at hy'
      exact ⟨x, rfl, scal_C hy' hx, ho⟩
def lendR (k : Key) (es : List (List D)) : C → C
  | .msl k' => if k' = k then .d (.sl es) else .any
  | .d x => .d x
  | .tsl _ es' => .d (.sl es')
  | .fsl es' => .d (.sl es')
  | _ => .any
def lendRV (k : Key) (es : List (List D)) : V → V
  | .c x => .c (lendR k es x)
  | .agg cs => .agg (cs.map (lendR k es))
  | _ => .any
theorem rep_none (hl : ∀ b, b < w.heap.size ∨ σ b = 0) (hg : Glob w σ) : RepS w σ [] [] where
  glob := hg
  obj := fun k o h => by rw [getO_nil] at h; cases h
  apart := fun k k' o o' h h' b h1 => by rw [getO_nil] at h1; cases h1
  shape := ⟨rfl, fun l fr h => by simp at h⟩
  live := hl
theorem ACall.lendRow {f : FuncId} {args : List V} {k : Key} {z : Nat} {es : List (List D)} {r : V} (hk : getO S k = some (.mrow z es)) (hr : scalV r = true) (h : PCall P f (args.map (lendRV k es)) r) : ACall P f args S (fun r' S' => r' = r ∧ S' = S) := by
  refine ⟨(h S).1, fun w σ β vs hS hargs => ?_⟩
  obtain ⟨hh, hb, hobj⟩ := hS.obj k _ hk
  obtain ⟨σ1, hn1, hch, hlive, hdata⟩ : ∃ σ1, Near w σ w σ1 ∧ (∀ x, ¬ owns (.mrow z es) hh x → σ1 x = σ x) ∧ (∀ x, x < w.heap.size ∨ σ1 x = 0) ∧ RepD w σ1 (.sl es) hh := by
    obtain ⟨hle, ad, cap, rfl, hcap, h4⟩ := hobj
    by_cases h0 : cap = 0
    · obtain rfl : es = [] := List.eq_nil_of_length_eq_zero (by omega)
      exact ⟨σ, Near.refl _ _, fun _ _ => rfl, hS.live, .nil _ _⟩
    rcases h4 with h4 | ⟨b, cc, ty, rfl, hbc, hσ, hcz, hcells⟩
    · exact absurd h4 h0
    have hsz : es.length * z ≤ cc.size := Nat.le_trans (Nat.mul_le_mul_right _ hcap) hcz
    let σ1 : Nat → Nat := fun x => if x = b then es.length * z else σ x
    have hn : Near w σ w σ1 := by
      intro b1 c1 t1 fz1 e1
      by_cases e : b1 = b
      · subst e
        rw [hbc] at e1; cases e1
        exact ⟨by simp only [σ1, if_true]; omega, fun h => by omega, cc, hbc, rfl, fun _ _ => rfl⟩
      · exact ⟨by simp only [σ1, if_neg e]; exact Nat.le_refl _, fun _ => if_neg e, c1, e1, rfl, fun _ _ => rfl⟩
    refine ⟨σ1, hn, fun x hx => if_neg fun e => hx (by subst e; simp [owns, blk, h0]), fun x => ?_, ?_⟩
    · by_cases e : x = b
      · left; subst e; exact lt_of_some hbc
      · simp only [σ1, if_neg e]; exact hS.live x
    · have hfl := flat_len es z hle
      refine .sl b 0 cap z es (fun i => (cc[i]?).getD undef) cc ty (0, 0) hcap hle hbc (by simp [σ1]) (fun i hi => ?_) (fun i d hd => ?_)
      · obtain ⟨v, hv, _⟩ := hcells i _ (List.getElem?_eq_getElem (by omega))
        simp [hv]
      · obtain ⟨v, hv, hr⟩ := hcells i d hd
        simp only [hv, Option.getD_some]
        exact hr.mono hn
  have hlc : ∀ c v, RepC w σ S β c v → RepC w σ1 [] [] (lendR k es c) v := by
    intro c v hc
    cases c with
    | msl k' =>
      simp only [lendR]
      split
      · rename_i e
        subst e
        obtain ⟨o, ho, h2⟩ := hc
        rw [hk] at ho; cases ho
        have e2 := h2 _ _ rfl
        rw [hb] at e2; cases e2
        exact hdata
      · trivial
    | d x => exact RepD.mono hn1 hc
    | tsl k' es' => exact RepD.mono hn1 hc.1
    | fsl es' => exact RepD.mono hn1 hc.1
    | _ => trivial
  have hargs1 : RepVs w σ1 [] [] (args.map (lendRV k es)) vs := by
    refine ⟨by rw [List.length_map]; exact hargs.1, fun j x hx => ?_⟩
    rw [List.getElem?_map] at hx
    cases ha : args[j]? with
    | none => rw [ha] at hx; cases hx
    | some y =>
      rw [ha] at hx; cases hx
      obtain ⟨v, h1, h2⟩ := hargs.2 j y ha
      refine ⟨v, h1, ?_⟩
      cases y with
      | c x => exact ⟨hlc x v h2.1, h2.2⟩
      | agg cs =>
        obtain ⟨a, e, hl, hc⟩ := h2
        refine ⟨a, e, by rw [List.length_map]; exact hl, fun i x hx => ?_⟩
        rw [List.getElem?_map] at hx
        cases hi : cs[i]? with
        | none => rw [hi] at hx; cases hx
        | some y =>
          rw [hi] at hx; cases hx
          obtain ⟨u, q1, q2, q3⟩ := hc i y hi
          exact ⟨u, q1, hlc y u q2, q3⟩
      | _ => trivial
  refine ((h []).2 w σ1 [] vs (rep_none hlive (hS.glob.near hn1)) hargs1).mono fun e w' ⟨v, r', S', σ', β', he, hS', hk', hst, hv, hr', hS2⟩ => ?_
  subst hr'; subst hS2
  have hno : ∀ b, ¬ Own ([] : Store) [] b := fun b ⟨k, o, h, h1, _⟩ => by rw [getO_nil] at h1; cases h1
  let σ2 : Nat → Nat := fun b => if b < w.heap.size then σ b else σ' b
  have hg : Grow w σ w' σ2 := ⟨hst.size, hst.os, hst.output, fun b hlt => ⟨(hst.far b hlt (hno b)).1, if_pos hlt⟩, fun b => by
    by_cases hlt : b < w.heap.size
    · exact .inl (Nat.lt_of_lt_of_le hlt hst.size)
    · simp only [σ2, if_neg hlt]; exact hS'.live b⟩
  exact ⟨v, r', S, σ2, β, he, hS.grow hg, Keep.refl _ _, Step.of_grow hg, scal_V hr hv, rfl, rfl⟩
def C.mv (n j m : Nat) : C → C
  | .msl (0, i) => if i = m then .msl (0, j) else if i < n ∧ i ≠ j then .msl (0, i) else .any
  | .tsl (0, i) es => if i < n ∧ i ≠ j then .tsl (0, i) es else .any
  | .ptr (0, i) off => if i < n ∧ i ≠ j then .ptr (0, i) off else .any
  | .eptr (0, i) x off => if i < n ∧ i ≠ j then .eptr (0, i) x off else .any
  | .mp (0, i) => if i < n ∧ i ≠ j then .mp (0, i) else .any
  | .fn _ _ => .any
  | .xp (0, i) r p => if i < n ∧ i ≠ j then .xp (0, i) r p else .any
  | .xq (0, i) r p z x off => if i < n ∧ i ≠ j then .xq (0, i) r p z x off else .any
  | c => c
theorem getO_mv {α : Type} {own : List α} {Ω : List (List α)} {n j i : Nat} {o : α} (h : i < n ∧ i ≠ j) : getO ((own.take n).set j o :: Ω) (0, i) = getO (own :: Ω) (0, i) := by
  rw [getO_zero, getO_zero, List.getElem?_set_ne (Ne.symm h.2), List.getElem?_take_of_lt h.1]
theorem mv_C {own own' : List Obj} {Ω : Store} {bo : List Value} {bΩ : Hs} {n j m z : Nat} {es : List (List D)} {hm : Value} (ho : own[m]? = some (.mrow z es)) (hb : bo[m]? = some hm) (hjn : j < n) (hnl : n ≤ own.length) (hlen : bo.length = own.length)
    (hown : ∀ i, i < n → i ≠ j → ∃ o o', own[i]? = some o ∧ own'[i]? = some o' ∧ (∀ z es, IsTok o' z es → IsTok o z es) ∧ (∀ z es, o' = .mrow z es → o = .mrow z es) ∧ (∀ m, o' = .mp m → o = .mp m) ∧ (∀ cs, o' = .box cs → ∃ cs', o = .box cs') ∧ (∀ rs, o' = .xf rs → o = .xf rs))
    (hj : own'[j]? = some (.mrow z es)) {c : C} {v : Value} (hc : RepC w σ (own :: Ω) (bo :: bΩ) c v) : RepC w σ (own' :: Ω) ((bo.take n).set j hm :: bΩ) (c.mv n j m) v := by
  have hgo : ∀ i, i < n ∧ i ≠ j → getO ((bo.take n).set j hm :: bΩ) (0, i) = getO (bo :: bΩ) (0, i) := fun i h => getO_mv h
  cases c with
  | d x => exact hc
  | any => trivial
  | fsl es => exact hc
  | rptr cs => exact hc
  | lfl q es => exact hc
  | fn f caps => trivial
  | msl k =>
    obtain ⟨l, i⟩ := k
    cases l with
    | succ l => exact hc
    | zero =>
      simp only [C.mv]
      obtain ⟨o, h1, h2⟩ := hc
      rw [getO_zero] at h1
      split
      · rename_i e
        subst e
        rw [ho] at h1; cases h1
        refine ⟨_, by rw [getO_zero]; exact hj, fun esz es' e => ?_⟩
        have := h2 _ _ rfl
        rw [getO_zero, hb] at this
        rw [getO_zero, List.getElem?_set_self (by rw [List.length_take]; omega)]
        exact this
      · split
        · rename_i h
          obtain ⟨o1, o', q1, q2, _, q4, _⟩ := hown i h.1 h.2
          rw [q1] at h1; cases h1
          exact ⟨o', by rw [getO_zero]; exact q2, fun esz es' e => by rw [hgo i h]; exact h2 _ _ (q4 _ _ e)⟩
        · trivial
  | tsl k es0 =>
    obtain ⟨l, i⟩ := k
    cases l with
    | succ l => exact hc
    | zero =>
      simp only [C.mv]
      split
      · rename_i h
        obtain ⟨h0, o, h1, h2⟩ := hc
        rw [getO_zero] at h1
        obtain ⟨o1, o', q1, q2, q3, _⟩ := hown i h.1 h.2
        rw [q1] at h1; cases h1
        exact ⟨h0, o', by rw [getO_zero]; exact q2, fun esz es' e => by rw [hgo i h]; exact h2 _ _ (q3 _ _ e)⟩
      · trivial
  | ptr k off =>
    obtain ⟨l, i⟩ := k
    cases l with
    | succ l => exact hc
    | zero =>
      simp only [C.mv]
      split
      · rename_i h
        obtain ⟨o, h1, h2⟩ := hc
        rw [getO_zero] at h1
        obtain ⟨o1, o', q1, q2, _, _, _, q6, _⟩ := hown i h.1 h.2
        rw [q1] at h1; cases h1
        refine ⟨o', by rw [getO_zero]; exact q2, fun cs e => ?_⟩
        obtain ⟨cs', e'⟩ := q6 cs e
        rw [hgo i h]; exact h2 _ e'
      · trivial
  | eptr k x off =>
    obtain ⟨l, i⟩ := k
    cases l with
    | succ l => exact hc
    | zero =>
      simp only [C.mv]
      split
      · rename_i h
        obtain ⟨o, h1, h2⟩ := hc
        rw [getO_zero] at h1
        obtain ⟨o1, o', q1, q2, _, q4, _⟩ := hown i h.1 h.2
        rw [q1] at h1; cases h1
        exact ⟨o', by rw [getO_zero]; exact q2, fun esz es' e => by rw [hgo i h]; exact h2 _ _ (q4 _ _ e)⟩
      · trivial
  | mp k =>
    obtain ⟨l, i⟩ := k
    cases l with
    | succ l => exact hc
    | zero =>
      simp only [C.mv]
      split
      · rename_i h
        obtain ⟨o, h1, h2⟩ := hc
        rw [getO_zero] at h1
        obtain ⟨o1, o', q1, q2, _, _, q5, _⟩ := hown i h.1 h.2
        rw [q1] at h1; cases h1
        exact ⟨o', by rw [getO_zero]; exact q2, fun m e => by rw [hgo i h]; exact h2 _ (q5 _ e)⟩
      · trivial
  | xp k r p =>
    obtain ⟨l, i⟩ := k
    cases l with
    | succ l => exact hc
    | zero =>
      simp only [C.mv]
      split
      · rename_i h
        obtain ⟨o, h1, h2⟩ := hc
        rw [getO_zero] at h1
        obtain ⟨o1, o', q1, q2, _, _, _, _, q7⟩ := hown i h.1 h.2
        rw [q1] at h1; cases h1
        exact ⟨o', by rw [getO_zero]; exact q2, fun rs e => by rw [hgo i h]; exact h2 _ (q7 _ e)⟩
      · trivial
  | xq k r p z x off =>
    obtain ⟨l, i⟩ := k
    cases l with
    | succ l => exact hc
    | zero =>
      simp only [C.mv]
      split
      · rename_i h
        obtain ⟨o, h1, h2⟩ := hc
        rw [getO_zero] at h1
        obtain ⟨o1, o', q1, q2, _, _, _, _, q7⟩ := hown i h.1 h.2
        rw [q1] at h1; cases h1
        exact ⟨o', by rw [getO_zero]; exact q2, fun rs e => by rw [hgo i h]; exact h2 _ (q7 _ e)⟩
      · trivial
theorem mv_ghost {tm : List (Nat × V)} {own : List Obj} {Ω : Store} (n j m z : Nat) (es : List (List D)) (ho : own[m]? = some (.mrow z es)) (hjn : j < n) (hnm : n ≤ m) :
    Ghost N ⟨tm, own :: Ω⟩ ⟨tm.map fun x => (x.1, x.2.mapC (C.mv n j m)), ((own.take n).map (Obj.mapC (C.mv n j m))).set j (.mrow z es) :: Ω⟩ := by
  intro a w σ β hR
  obtain ⟨bo, bΩ, rfl, hlen⟩ := frames hR
  have hml := (List.getElem?_eq_some_iff.1 ho).1
  obtain ⟨hh, hb, hobj⟩ := hR.S.obj (0, m) _ (by rw [getO_zero]; exact ho)
  rw [getO_zero] at hb
  obtain ⟨own', hown'⟩ : ∃ own', own' = ((own.take n).map (Obj.mapC (C.mv n j m))).set j (.mrow z es) := ⟨_, rfl⟩
  have hj : own'[j]? = some (.mrow z es) := by
    rw [hown', List.getElem?_set_self (by rw [List.length_map, List.length_take]; omega)]
  have hat : ∀ i, i < n → i ≠ j → ∀ o, own[i]? = some o → own'[i]? = some (o.mapC (C.mv n j m)) := fun i h1 h2 o h3 => by
    rw [hown', List.getElem?_set_ne (Ne.symm h2), List.getElem?_map, List.getElem?_take_of_lt h1, h3]; rfl
  have hold : ∀ i o', own'[i]? = some o' → (i = j ∧ o' = .mrow z es) ∨ (i < n ∧ i ≠ j ∧ ∃ o, own[i]? = some o ∧ o' = o.mapC (C.mv n j m)) := fun i o' h => by
    by_cases e : i = j
    · subst e; rw [hj] at h; cases h; exact .inl ⟨rfl, rfl⟩
    · have hi : i < n := by
        have := (List.getElem?_eq_some_iff.1 h).1
        rw [hown', List.length_set, List.length_map, List.length_take] at this
        omega
      have ho' : own[i]? = some (own[i]'(by omega)) := List.getElem?_eq_getElem (by omega)
      have := hat i hi e _ ho'
      rw [h] at this
      exact .inr ⟨hi, e, _, ho', Option.some.inj this⟩
  rw [← hown']
  have hC : ∀ (c : C) (v : Value), RepC w σ (own :: Ω) (bo :: bΩ) c v → RepC w σ (own' :: Ω) ((bo.take n).set j hh :: bΩ) (c.mv n j m) v := fun c v hc =>
    mv_C ho hb hjn (by omega) hlen (fun i h1 h2 => ⟨_, _, List.getElem?_eq_getElem (by omega), hat i h1 h2 _ (List.getElem?_eq_getElem (by omega)), mapC_kind (.inr rfl)⟩) hj hc
  have hCs : ∀ (cs : List C) (vs : List Value), RepCs w σ (own :: Ω) (bo :: bΩ) cs vs → RepCs w σ (own' :: Ω) ((bo.take n).set j hh :: bΩ) (cs.map (C.mv n j m)) vs := by
    intro cs vs hc
    refine ⟨by simpa using hc.1, fun i x hx => ?_⟩
    rw [List.getElem?_map] at hx
    cases hci : cs[i]? with
    | none => rw [hci] at hx; cases hx
    | some y =>
      rw [hci] at hx; cases hx
      obtain ⟨v, hv, hr, ho⟩ := hc.2 i y hci
      exact ⟨v, hv, hC y v hr, ho⟩
  -- where an object of the new frame comes from
  have from_ : ∀ k o', getO (own' :: Ω) k = some o' → ∃ k0 o0, getO (own :: Ω) k0 = some o0 ∧ getO ((bo.take n).set j hh :: bΩ) k = getO (bo :: bΩ) k0 ∧ (∀ h b, owns o' h b ↔ owns o0 h b) ∧ (k0 = (if k = (0, j) then (0, m) else k)) ∧ (k.1 = 0 → k = (0, j) ∨ k.2 < n) := by
    rintro ⟨l, i⟩ o' h
    cases l with
    | succ l => exact ⟨(l + 1, i), o', by rw [getO_succ] at h ⊢; exact h, by rw [getO_succ, getO_succ], fun _ _ => Iff.rfl, by simp, fun e => by cases e⟩
    | zero =>
      rw [getO_zero] at h
      rcases hold i o' h with ⟨rfl, rfl⟩ | ⟨hi, hne, o, h1, rfl⟩
      · exact ⟨(0, m), _, by rw [getO_zero]; exact ho, by rw [getO_zero, getO_zero, List.getElem?_set_self (by rw [List.length_take]; omega), hb], fun _ _ => Iff.rfl, by simp, fun _ => .inl rfl⟩
      · clear h
        refine ⟨(0, i), o, by rw [getO_zero]; exact h1, getO_mv ⟨hi, hne⟩, fun h b => ?_, by simp [hne], fun _ => .inr hi⟩
        clear h1
        cases o with
        | box cs => cases h <;> first | exact Iff.rfl | (rename_i x; cases x <;> exact Iff.rfl)
        | _ => exact Iff.rfl
  refine ⟨σ, (bo.take n).set j hh :: bΩ, ⟨hR.size, hR.defers, ⟨fun k o hk => ?_, fun k k' o o' h1 h2 b e1 e2 e3 e4 e5 e6 => ?_, ⟨by have := hR.S.shape.1; simpa using this, fun l fr hl => ?_⟩, hR.S.live, hR.S.glob⟩, fun t => ?_⟩, ⟨Nat.le_refl _, rfl, rfl, fun _ _ _ => ⟨rfl, rfl⟩, Near.refl _ _, fun b hb' => .inl ?_⟩, Keep.refl _ _⟩
  · obtain ⟨l, i⟩ := k
    cases l with
    | succ l =>
      rw [getO_succ] at hk
      obtain ⟨h, e1, e2⟩ := hR.S.obj (l + 1, i) o (by rw [getO_succ]; exact hk)
      exact ⟨h, by rw [getO_succ] at e1 ⊢; exact e1, e2⟩
    | zero =>
      rw [getO_zero] at hk
      rcases hold i o hk with ⟨rfl, rfl⟩ | ⟨hi, hne, o0, h1, rfl⟩
      · exact ⟨hh, by rw [getO_zero, List.getElem?_set_self (by rw [List.length_take]; omega)], hobj⟩
      · obtain ⟨h, e1, e2⟩ := hR.S.obj (0, i) o0 (by rw [getO_zero]; exact h1)
        refine ⟨h, (getO_mv ⟨hi, hne⟩).trans e1, ?_⟩
        clear hk h1 e1
        cases o0 with
        | box cs =>
          obtain ⟨b, c, t, q1, q2, q3, q4⟩ := e2
          exact ⟨b, c, t, q1, q2, q3, hCs _ _ q4⟩
        | _ => exact e2
  · obtain ⟨k0, o0, f1, f2, f3, f4, f5⟩ := from_ k o e1
    obtain ⟨k1, o1, g1, g2, g3, g4, g5⟩ := from_ k' o' e4
    rw [f2] at e2
    rw [g2] at e5
    have := hR.S.apart k0 k1 o0 o1 h1 h2 b f1 e2 ((f3 _ _).1 e3) g1 e5 ((g3 _ _).1 e6)
    rw [f4, g4] at this
    split at this
    · rename_i q1
      split at this
      · rename_i q2; rw [q1, q2]
      · rename_i q2
        exfalso
        have hk1 : k'.1 = 0 := by rw [← this]
        rcases g5 hk1 with q3 | q3
        · exact q2 q3
        · rw [← this] at q3; simp only at q3; omega
    · rename_i q1
      split at this
      · exfalso
        have hk1 : k.1 = 0 := by rw [this]
        rcases f5 hk1 with q3 | q3
        · exact q1 q3
        · rw [this] at q3; simp only at q3; omega
      · exact this
  · cases l with
    | zero =>
      simp at hl; subst hl
      exact ⟨_, rfl, by rw [hown']; simp [hlen]⟩
    | succ l => exact hR.S.shape.2 (l + 1) fr hl
  · show RepV w σ (own' :: Ω) ((bo.take n).set j hh :: bΩ) (look (tm.map fun x => (x.1, x.2.mapC (C.mv n j m))) t) _
    rw [look_map (f := V.mapC (C.mv n j m)) rfl]
    have ht := hR.T t
    cases hx : look tm t with
    | c x => rw [hx] at ht; exact ⟨hC x _ ht.1, ht.2⟩
    | agg cs => rw [hx] at ht; obtain ⟨ar, e, hc⟩ := ht; exact ⟨ar, e, hCs _ _ hc⟩
    | tup xs =>
      rw [hx] at ht
      obtain ⟨ar, e, hl, h2⟩ := ht
      refine ⟨ar, e, by simpa using hl, fun i y hy => ?_⟩
      rw [List.getElem?_map] at hy
      cases hxi : xs[i]? with
      | none => rw [hxi] at hy; cases hy
      | some z =>
        rw [hxi] at hy; cases hy
        obtain ⟨u, hu, h3⟩ := h2 i z hxi
        refine ⟨u, hu, ?_⟩
        obtain ⟨bb, cs⟩ := z
        cases bb with
        | true => obtain ⟨a', e', hcs⟩ := h3; exact ⟨a', e', hCs _ _ hcs⟩
        | false =>
          obtain ⟨x, e', hxr, ho⟩ := h3
          subst e'
          exact ⟨_, rfl, hC x _ hxr, ho⟩
    | any => trivial
  · obtain ⟨k, o, h1, e1, e2, e3⟩ := hb'
    obtain ⟨k0, o0, f1, f2, f3, _⟩ := from_ k o e1
    rw [f2] at e2
    exact ⟨k0, o0, h1, f1, e2, (f3 _ _).1 e3⟩
theorem inv_mv {ι : Type} {ts : List Nat} {f : ι → List V} {g : ι → Store} {p : ι → Prop} {μ : ι → Nat} {i : ι} {tm : List (Nat × V)} {own : List Obj} {Ω : Store} (n j m z : Nat) (es : List (List D)) (hnd : ts.Nodup) (i' : ι) (ho : own[m]? = some (.mrow z es)) (hjn : j < n) (hnm : n ≤ m) (h1 : μ i' < μ i)
    (h2 : (ts.map (look tm)).map (V.mapC (C.mv n j m)) = f i') (h3 : ((own.take n).map (Obj.mapC (C.mv n j m))).set j (.mrow z es) :: Ω = g i') (h4 : p i') : Inv N ts f g p μ i ⟨tm, own :: Ω⟩ := by
  refine ⟨i', _, h1, mv_ghost n j m z es ho hjn hnm, ?_, h3, h4⟩
  rw [← h2, List.map_map]
  refine List.map_congr_left fun t _ => ?_
  show look (tm.map fun x => (x.1, x.2.mapC (C.mv n j m))) t = _
  rw [look_map (f := V.mapC (C.mv n j m)) rfl]
  rfl
end
end Go.Ab

namespace Go.Ab
mutual
def applyT (b : List MBinding) : MType → MType
  | .mk k n a => if k = 1 then (lookupB b n).getD (.mk k n (applyL b a)) else .mk k n (applyL b a)
def applyL (b : List MBinding) : List MType → List MType
  | [] => []
  | t :: ts => applyT b t :: applyL b ts
end
theorem applyL_map (b : List MBinding) : ∀ ts, applyL b ts = ts.map (applyT b)
  | [] => rfl
  | t :: ts => by rw [applyL, applyL_map b ts]; rfl
theorem lookupB_mem {b : List MBinding} {v : List UInt8} {u : MType} (h : lookupB b v = some u) : ∃ x ∈ b, x.fType = u := by
  induction b with
  | nil => cases h
  | cons x b ih =>
    rw [lookupB] at h
    split at h
    · cases h; exact ⟨x, List.mem_cons_self, rfl⟩
    · obtain ⟨y, h1, h2⟩ := ih h
      exact ⟨y, List.mem_cons_of_mem _ h1, h2⟩
theorem sz_mk (k : Int) (n : List UInt8) (a : List MType) : (MType.mk k n a).sz = n.length + a.length + szRows (a.map MType.enc) := by
  simp only [MType.sz, MType.enc_eq, szRow, D.sz, MType.fName, MType.fArgs, List.length_map]
  omega
theorem szRows_cons (t : MType) (ts : List MType) : szRows ((t :: ts).map MType.enc) = t.sz + szRows (ts.map MType.enc) := rfl
mutual
theorem applyT_sz {b : List MBinding} {M : Nat} (hb : ∀ x ∈ b, x.fType.sz ≤ M) : ∀ t : MType, (applyT b t).sz + 1 ≤ (t.sz + 1) * (M + 2)
  | .mk k n a => by
    have ha := applyL_sz hb a
    have hlen : (applyL b a).length = a.length := by rw [applyL_map, List.length_map]
    have hno : (MType.mk k n (applyL b a)).sz + 1 ≤ ((MType.mk k n a).sz + 1) * (M + 2) := by
      rw [sz_mk, sz_mk, hlen]
      have e : (n.length + a.length + szRows (a.map MType.enc) + 1) * (M + 2) = n.length * (M + 2) + (szRows (a.map MType.enc) + a.length) * (M + 2) + (M + 2) := by
        simp only [Nat.add_mul]; omega
      have e2 : n.length ≤ n.length * (M + 2) := Nat.le_mul_of_pos_right _ (by omega)
      rw [e]; omega
    rw [applyT]
    split
    · cases h : lookupB b n with
      | none => exact hno
      | some u =>
        obtain ⟨x, h1, h2⟩ := lookupB_mem h
        have h3 := hb x h1
        rw [h2] at h3
        have : M + 2 ≤ ((MType.mk k n a).sz + 1) * (M + 2) := Nat.le_mul_of_pos_left _ (by omega)
        show u.sz + 1 ≤ _
        omega
    · exact hno
theorem applyL_sz {b : List MBinding} {M : Nat} (hb : ∀ x ∈ b, x.fType.sz ≤ M) : ∀ ts : List MType, szRows ((applyL b ts).map MType.enc) + ts.length ≤ (szRows (ts.map MType.enc) + ts.length) * (M + 2)
  | [] => by simp [applyL, szRows]
  | t :: ts => by
    have h1 := applyT_sz hb t
    have h2 := applyL_sz hb ts
    rw [applyL, szRows_cons, szRows_cons, List.length_cons]
    have e : (t.sz + szRows (ts.map MType.enc) + (ts.length + 1)) * (M + 2) = (t.sz + 1) * (M + 2) + (szRows (ts.map MType.enc) + ts.length) * (M + 2) := by
      rw [← Nat.add_mul]; congr 1; omega
    rw [e]
    omega
end
def abcL : List (List UInt8) := [[97], [98], [99]]
def bindD {bs : List Int} (out : List MBinding) (c : Cu bs) : List MBinding × Cu bs :=
  if (lookupB out (pickD abcL c).1).isSome = false then (out ++ [⟨(pickD abcL c).1, (freeD 2 (pickD abcL c).2).1⟩], (freeD 2 (pickD abcL c).2).2) else
  if (onceD 4 (freeD 2 (pickD abcL c).2).2).1 = true then (out ++ [⟨(pickD abcL c).1, (freeD 2 (pickD abcL c).2).1⟩], (onceD 4 (freeD 2 (pickD abcL c).2).2).2) else
  (out, (onceD 4 (freeD 2 (pickD abcL c).2).2).2)
def bindN {bs : List Int} : Nat → List MBinding → Cu bs → List MBinding × Cu bs
  | 0, out, c => (out, c)
  | n + 1, out, c => bindN n (bindD out c).1 (bindD out c).2
def bindE {bs : List Int} (out : List MBinding) (c : Cu bs) : List MBinding × Cu bs :=
  match out with
  | [] => ([], c)
  | b :: r => if (onceD 8 c).1 = true then (⟨b.fVar, (bentD (onceD 8 c).2).1⟩ :: r, (bentD (onceD 8 c).2).2) else (b :: r, (onceD 8 c).2)
def bindsD {bs : List Int} (c : Cu bs) : List MBinding × Cu bs :=
  bindE (bindN (belowD 4 c).1.toNat [] (belowD 4 c).2).1 (bindN (belowD 4 c).1.toNat [] (belowD 4 c).2).2
theorem wrapT_sz : ∀ (n : Nat) (t : MType), (wrapT n t).sz = t.sz + 5 * n
  | 0, t => rfl
  | n + 1, t => by rw [wrapT, wrapT_sz n, sz_con1]; simp only [List.length_cons, List.length_nil]; omega
theorem pickD_any {bs : List Int} {xs : List (List UInt8)} (c : Cu bs) {m : Nat} (h : ∀ s ∈ xs, s.length ≤ m) : (pickD xs c).1.length ≤ m := by
  by_cases h1 : 1 ≤ xs.length
  · exact h _ (pickD_mem c h1)
  · have : xs = [] := List.eq_nil_of_length_eq_zero (by omega)
    subst this
    simp [pickD]
theorem szRows_append (a b : List MType) : szRows ((a ++ b).map MType.enc) = szRows (a.map MType.enc) + szRows (b.map MType.enc) := by
  induction a with
  | nil => simp [szRows]
  | cons t a ih => rw [List.cons_append, szRows_cons, szRows_cons, ih]; omega
theorem bentD_sz {bs : List Int} (c : Cu bs) : (bentD c).1.sz ≤ 200 := by
  have h := freeD_sz 3 c
  unfold bentD bentT
  obtain ⟨t, ht⟩ : ∃ t, t = (freeD 3 c).1 := ⟨_, rfl⟩
  rw [← ht] at h ⊢
  obtain ⟨k, n, a⟩ := t
  have h0 := sz_mk k n a
  split
  · show (MType.mk _ n a).sz ≤ 200
    rw [sz_mk]; omega
  split
  · have hp := pickD_any (xs := bentL) (m := 9) (belowD 12 (freeD 3 c).2).2 (by decide)
    show (MType.mk k _ a).sz ≤ 200
    rw [sz_mk]; omega
  split
  · show (MType.mk k n (a ++ [intT, boolT, intT])).sz ≤ 200
    rw [sz_mk, szRows_append, List.length_append]
    have : szRows ([intT, boolT, intT].map MType.enc) = 10 := by decide
    simp only [List.length_cons, List.length_nil]
    omega
  split
  · show (wrapT 6 _).sz ≤ 200
    rw [wrapT_sz]; omega
  · show (MType.mk k n a).sz ≤ 200
    omega
def SmallB (M : Nat) (b : List MBinding) : Prop := b.length ≤ M ∧ ∀ x ∈ b, x.fType.sz ≤ 200
theorem bindD_small {bs : List Int} {n : Nat} {out : List MBinding} (c : Cu bs) (h : SmallB n out) : SmallB (n + 1) (bindD out c).1 := by
  have h2 := freeD_sz 2 (pickD abcL c).2
  have ha : SmallB (n + 1) (out ++ [⟨(pickD abcL c).1, (freeD 2 (pickD abcL c).2).1⟩]) := by
    refine ⟨by rw [List.length_append]; have := h.1; simp; omega, fun x hx => ?_⟩
    rcases List.mem_append.1 hx with hx | hx
    · exact h.2 x hx
    · obtain rfl := List.mem_singleton.1 hx
      show (freeD 2 (pickD abcL c).2).1.sz ≤ 200
      omega
  unfold bindD
  split
  · exact ha
  split
  · exact ha
  · exact ⟨by have := h.1; simp only; omega, h.2⟩
theorem bindN_small {bs : List Int} : ∀ (m n : Nat) (out : List MBinding) (c : Cu bs), SmallB n out → SmallB (n + m) (bindN m out c).1
  | 0, n, out, c, h => h
  | m + 1, n, out, c, h => by
    rw [bindN, show n + (m + 1) = (n + 1) + m by omega]
    exact bindN_small m (n + 1) _ _ (bindD_small c h)
theorem bindsD_small {bs : List Int} (c : Cu bs) : SmallB 3 (bindsD c).1 := by
  have hx := belowD_rng (n := 4) c (by omega)
  have h := bindN_small (belowD 4 c).1.toNat 0 [] (belowD 4 c).2 ⟨Nat.le_refl _, fun x h => by cases h⟩
  have h : SmallB 3 (bindN (belowD 4 c).1.toNat [] (belowD 4 c).2).1 := ⟨by have := h.1; omega, h.2⟩
  unfold bindsD bindE
  generalize (bindN (belowD 4 c).1.toNat [] (belowD 4 c).2).1 = out at h
  cases out with
  | nil => exact h
  | cons b r =>
    simp only
    split
    · refine ⟨h.1, fun x hx => ?_⟩
      rcases List.mem_cons.1 hx with rfl | hx
      · exact bentD_sz _
      · exact h.2 x (List.mem_cons_of_mem _ hx)
    · exact h
theorem less_look (o : Option MType) : Less (match o with
  | some u => .tup [(true, [.d (.i .i64 u.fKind), .d (.s u.fName), .d (.sl (u.fArgs.map MType.enc))]), (false, [.d (.b true)])]
  | none => .tup [(true, [.d (.i .i64 0), .d (.s []), .fsl []]), (false, [.d (.b false)])]) (.tup [(true, [.any, .any, .any]), (false, [.d (.b o.isSome)])]) := by
  intro w σ S β v hv
  have go : ∀ (a b c : C) (x : Bool), RepV w σ S β (.tup [(true, [a, b, c]), (false, [.d (.b x)])]) v → RepV w σ S β (.tup [(true, [.any, .any, .any]), (false, [.d (.b x)])]) v := by
    rintro a b c x ⟨ar, rfl, hl, h⟩
    refine ⟨ar, rfl, hl, fun j y hy => ?_⟩
    match j, hy with
    | 0, hy =>
      simp at hy; subst hy
      obtain ⟨u, h1, a', h2, h3⟩ := h 0 _ rfl
      refine ⟨u, h1, a', h2, h3.1, fun i z hz => ?_⟩
      have hi := (List.getElem?_eq_some_iff.1 hz).1
      obtain ⟨v, q1, q2, q3⟩ := h3.2 i _ (List.getElem?_eq_getElem (show i < [a, b, c].length from hi))
      refine ⟨v, q1, ?_, q3⟩
      match i, hz with
      | 0, hz => simp at hz; subst hz; trivial
      | 1, hz => simp at hz; subst hz; trivial
      | 2, hz => simp at hz; subst hz; trivial
    | 1, hy => exact h 1 y hy
  cases o with
  | none => exact go _ _ _ _ hv
  | some u => exact go _ _ _ _ hv
end Go.Ab
namespace Go.Proofs.Ytceaigchkgifgaa
open Go Go.Ab
theorem specApply_all (b : List MBinding) (hbs : ∀ x ∈ b, x.fType.sz ≤ 4194304) (hbl : b.length ≤ 1073741824) : ∀ n : Nat, (∀ x : MType, SizeOf.sizeOf x < n → x.sz ≤ 4194304 → PCall Try.prog 61 [.c (.d (.sl (b.map MBinding.enc))), x.v] (applyT b x).v) ∧
    (∀ xs : List MType, SizeOf.sizeOf xs < n → xs.length + szRows (xs.map MType.enc) ≤ 4194304 → PCall Try.prog 99 [.c (.d (.sl (b.map MBinding.enc))), .c (.d (.sl (xs.map MType.enc)))] (.c (.d (.sl ((applyL b xs).map MType.enc)))))
  | 0 => ⟨fun x h => by omega, fun x h => by omega⟩
  | n + 1 => by
    obtain ⟨ih, ihS⟩ := specApply_all b hbs hbl n
    refine ⟨fun x hn hsz S => ?_, fun xs hn hsz S => ?_⟩
    · have lArgs := MType.lt_Args x
      simp only [MType.sz, MType.enc_eq, szRow, szRow_append, D.sz, List.length_map] at hsz
      obtain ⟨y, hy⟩ : ∃ y, y = applyT b x := ⟨_, rfl⟩
      rw [← hy]
      have hx : applyT b x = if x.fKind = 1 then (lookupB b x.fName).getD (.mk x.fKind x.fName (applyL b x.fArgs)) else .mk x.fKind x.fName (applyL b x.fArgs) := by
        cases x; rw [applyT]; rfl
      rw [hx] at hy
      have last : y = .mk x.fKind x.fName (applyL b x.fArgs) → V.agg [.d (.i .i64 x.fKind), .d (.s x.fName), .d (.sl ((applyL b x.fArgs).map MType.enc))] = y.v := fun e => by rw [e]; rfl
      refine acall_cw (rs := [.cell 4 26]) Try.checked.mixed Try.func61 Try.ntmps61 rfl rfl rfl rfl rfl ?_
      simp -implicitDefEqProofs (disch := omega) only [go_sem]
      with_reducible refine split2 (fun hb => ?_) (fun hb => ?_) <;> have h := hb <;> (try simp only [wf_preprocess] at h) <;> simp -implicitDefEqProofs (disch := omega) only [go_sem, hb] <;> (repeat (with_reducible refine And.intro ?_ ?_; focus first | omega | rfl | assumption | exact ⟨_, rfl, rfl⟩ | (simp; omega) | (simp; done)))
      · rw [if_pos h] at hy
        refine call_w (specLookup_ok b x.fName hbs hbl) ?_
        simp -implicitDefEqProofs (disch := omega) only [go_sem] <;> (repeat (with_reducible refine And.intro ?_ ?_; focus first | omega | rfl | assumption | exact ⟨_, rfl, rfl⟩ | (simp; omega) | (simp; done)))
        cases hl : lookupB b x.fName with
        | some u =>
          rw [hl] at hy
          rw [lookR_some]
          simp -implicitDefEqProofs (disch := omega) only [go_sem]
          rw [show y = u from hy]
        | none =>
          rw [hl] at hy
          rw [lookR_none]
          simp -implicitDefEqProofs (disch := omega) only [go_sem]
          refine call_w (ihS x.fArgs (by omega) (by omega)) ?_
          simp -implicitDefEqProofs (disch := omega) only [go_sem]
          exact last hy
      · rw [if_neg h] at hy
        refine call_w (ihS x.fArgs (by omega) (by omega)) ?_
        simp -implicitDefEqProofs (disch := omega) only [go_sem]
        exact last hy
    · refine acall_cw (rs := [.tmp 4]) Try.checked.mixed Try.func99 Try.ntmps99 rfl rfl rfl rfl rfl ?_
      simp -implicitDefEqProofs (disch := omega) only [go_sem]
      refine aw_tok 5 3 [] rfl (by simp) ?_
      refine loop_at (ι := Nat × List (List D)) Try.checked.mixed rfl [0, 1, 5, 6] (fun y => [.c (.d (.sl (b.map MBinding.enc))), .c (.d (.sl (xs.map MType.enc))), .c (.tsl (0, 0) y.2), .c (.d (.i .i64 y.1))]) (fun y => [.tok 3 y.2] :: S)
        (fun y => y.1 ≤ xs.length ∧ y.2 = ((applyL b xs).map MType.enc).take y.1) (fun y => xs.length - y.1) (0, []) rfl rfl ⟨Nat.zero_le _, rfl⟩ ?_
      rintro ⟨i, es⟩ ⟨p1, p2⟩
      simp only at p1 p2
      have hll : (applyL b xs).length = xs.length := by rw [applyL_map, List.length_map]
      have pl : es.length ≤ xs.length := by rw [p2]; simp; omega
      simp -implicitDefEqProofs (disch := omega) only [go_sem]
      with_reducible refine split2 (fun hb => ?_) (fun hb => ?_) <;> have h := hb <;> (try simp only [wf_preprocess] at h) <;> simp -implicitDefEqProofs (disch := omega) only [go_sem, hb] <;> (repeat (with_reducible refine And.intro ?_ ?_; focus first | omega | rfl | assumption | exact ⟨_, rfl, rfl⟩ | (simp; omega) | (simp; done)))
      · have hi : i < xs.length := by omega
        have hx : xs[i].sz ≤ szRows (xs.map MType.enc) := szRows_mem (List.mem_map_of_mem (List.getElem_mem hi))
        (repeat (with_reducible refine And.intro ?_ ?_; focus first | omega | rfl | assumption | exact ⟨_, rfl, rfl⟩ | (simp; omega) | (simp; done)))
        refine call_w (ih xs[i] (by have := List.sizeOf_lt_of_mem (List.getElem_mem hi); omega) (by omega)) ?_
        simp -implicitDefEqProofs (disch := omega) only [go_sem]
        (repeat (with_reducible refine And.intro ?_ ?_; focus first | omega | rfl | assumption | exact ⟨_, rfl, rfl⟩ | (simp; omega) | (simp; done)))
        refine inv_at (i + 1, _) (by simp only; omega) rfl rfl ⟨by simp only; omega, ?_⟩
        rw [p2, applyL_map]
        simp [List.take_succ_eq_append_getElem, hi, MType.enc_eq]
      · have hi : i = xs.length := by omega
        rw [p2, List.take_of_length_le (by rw [List.length_map]; omega)]
theorem specApply_ok (b : List MBinding) (hbs : ∀ x ∈ b, x.fType.sz ≤ 4194304) (hbl : b.length ≤ 1073741824) (x : MType) (h : x.sz ≤ 4194304) : PCall Try.prog 61 [.c (.d (.sl (b.map MBinding.enc))), x.v] (applyT b x).v := (specApply_all b hbs hbl _).1 x (Nat.lt_succ_self _) h
theorem l6Binds_ok {bs : List Int} (hB : Bytes bs) (c : Cu bs) (l j : Nat) (S : Store) (hk : getO S (l, j) = some (.box (cur c))) :
    ACall Try.prog 62 [.c (.ptr (l, j) 0)] S (fun r S1 => r = .c (.d (.sl ((bindsD c).1.map MBinding.enc))) ∧ S1 = setO S (l, j) (.box (cur (bindsD c).2))) := by
  have g : ∀ x : Ab.Obj, getO (setO S (l, j) x) (l, j) = some x := fun x => getO_setO_eq _ _ _ _ hk
  unfold bindsD
  have hx := belowD_rng (n := 4) c (by omega)
  obtain ⟨k, hkd⟩ : ∃ k : Nat, (belowD 4 c).1 = (k : Int) := ⟨(belowD 4 c).1.toNat, by omega⟩
  obtain ⟨c1, hc1⟩ : ∃ c1, c1 = (belowD 4 c).2 := ⟨_, rfl⟩
  rw [hkd, ← hc1, Int.toNat_natCast]
  rw [hkd] at hx
  refine acall_cw (rs := [.tmp 2]) Try.checked.mixed Try.func62 Try.ntmps62 rfl rfl rfl rfl rfl ?_
  simp -implicitDefEqProofs (disch := omega) only [go_sem]
  refine call_d rfl (l1Below_ok hB c (1 + l) j _ 4 (by rw [getO_up1]; exact hk) (by omega) (by omega)) ?_
  rw [hkd, ← hc1]
  simp -implicitDefEqProofs (disch := omega) only [go_sem, setO_up1]
  refine aw_row 3 4 rfl ?_
  refine loop_at (ι := Nat × List MBinding × Cu bs) Try.checked.mixed rfl [0, 3, 4, 5] (fun x => [.c (.ptr (1 + l, j) 0), .c (.msl (0, 0)), .c (.d (.i .i64 k)), .c (.d (.i .i64 x.1))])
    (fun x => [.mrow 4 (x.2.1.map MBinding.enc)] :: setO S (l, j) (.box (cur x.2.2)))
    (fun x => x.1 ≤ k ∧ bindN (k - x.1) x.2.1 x.2.2 = bindN k [] c1 ∧ SmallB x.1 x.2.1) (fun x => k - x.1) (0, [], c1) rfl rfl ⟨Nat.zero_le _, rfl, Nat.le_refl _, fun x h => by cases h⟩ ?_
  rintro ⟨i, out, d⟩ ⟨p1, p2, p3⟩
  simp only at p1 p2 p3
  simp -implicitDefEqProofs (disch := omega) only [go_sem]
  with_reducible refine split2 (fun hb => ?_) (fun hb => ?_) <;> have h := hb <;> (try simp only [wf_preprocess] at h) <;> simp -implicitDefEqProofs (disch := omega) only [go_sem, hb] <;> (repeat (with_reducible refine And.intro ?_ ?_; focus first | omega | rfl | assumption | exact ⟨_, rfl, rfl⟩ | (simp; omega) | (simp; done)))
  · have ek : k - i = (k - (i + 1)) + 1 := by omega
    rw [ek, bindN] at p2
    have hsm := bindD_small d p3
    unfold bindD at p2 hsm
    obtain ⟨v, hv⟩ : ∃ v, v = (pickD abcL d).1 := ⟨_, rfl⟩
    obtain ⟨d1, hd1⟩ : ∃ d1, d1 = (pickD abcL d).2 := ⟨_, rfl⟩
    rw [← hv, ← hd1] at p2 hsm
    obtain ⟨t, ht⟩ : ∃ t, t = (freeD 2 d1).1 := ⟨_, rfl⟩
    obtain ⟨d2, hd2⟩ : ∃ d2, d2 = (freeD 2 d1).2 := ⟨_, rfl⟩
    rw [← ht, ← hd2] at p2 hsm
    refine call_m [true] rfl (l1Pick_ok hB d (1 + l) j _ abcL (by rw [getO_up1]; exact g _) (by decide) (by decide)) ?_
    rw [← hv, ← hd1]
    simp -implicitDefEqProofs (disch := omega) only [go_sem, setO_up1, setO_twice]
    refine call_d rfl (l4Free_ok hB 2 d1 (1 + l) j _ (by rw [getO_up1]; exact g _) (by omega)) ?_
    rw [← ht, ← hd2]
    simp -implicitDefEqProofs (disch := omega) only [go_sem, setO_up1, setO_twice]
    refine call_d rfl (ACall.lendRow (k := (0, 0)) rfl rfl (PCall.less (specLookup_ok out v (fun x hx => by have := p3.2 x hx; omega) (by have := p3.1; omega)) (less_look (lookupB out v)))) ?_
    simp -implicitDefEqProofs (disch := omega) only [go_sem, setO_up1, setO_twice]
    have hol := p3.1
    cases hm : (lookupB out v).isSome with
    | false =>
      simp only [hm, reduceIte] at p2 hsm
      simp -implicitDefEqProofs (disch := omega) only [go_sem, hm, setO_up1, setO_twice]
      (repeat (with_reducible refine And.intro ?_ ?_; focus first | omega | rfl | assumption | exact ⟨_, rfl, rfl⟩ | (simp; omega) | (simp; done)))
      refine inv_mv 1 0 3 4 _ (by decide) (i + 1, out ++ [⟨v, t⟩], d2) rfl (by omega) (by omega) (by simp only; omega) (by cases l <;> rfl) ?_ ⟨by simp only; omega, p2, hsm⟩
      simp only [List.map_append, List.map_cons, List.map_nil, MBinding.enc_eq, MType.enc_eq, List.cons_append, List.nil_append]
      rfl
    | true =>
      simp only [hm, reduceIte, Bool.true_eq_false] at p2 hsm
      simp -implicitDefEqProofs (disch := omega) only [go_sem, hm, setO_up1, setO_twice]
      refine call_d rfl (l1Once_ok hB d2 (1 + l) j _ 4 (by rw [getO_up1]; exact g _) (by omega) (by omega)) ?_
      simp -implicitDefEqProofs (disch := omega) only [go_sem, setO_up1, setO_twice]
      cases ho : (onceD 4 d2).1 with
      | true =>
        simp only [ho, reduceIte] at p2 hsm
        simp -implicitDefEqProofs (disch := omega) only [go_sem, ho, setO_up1, setO_twice]
        (repeat (with_reducible refine And.intro ?_ ?_; focus first | omega | rfl | assumption | exact ⟨_, rfl, rfl⟩ | (simp; omega) | (simp; done)))
        refine inv_mv 1 0 3 4 _ (by decide) (i + 1, out ++ [⟨v, t⟩], (onceD 4 d2).2) rfl (by omega) (by omega) (by simp only; omega) (by cases l <;> rfl) ?_ ⟨by simp only; omega, p2, hsm⟩
        simp only [List.map_append, List.map_cons, List.map_nil, MBinding.enc_eq, MType.enc_eq, List.cons_append, List.nil_append]
        rfl
      | false =>
        simp only [ho, reduceIte, Bool.false_eq_true] at p2 hsm
        simp -implicitDefEqProofs (disch := omega) only [go_sem, ho, setO_up1, setO_twice]
        exact inv_drop 1 (by decide) (i + 1, out, (onceD 4 d2).2) (by simp only; omega) rfl rfl (by cases l <;> rfl) rfl ⟨by simp only; omega, p2, hsm⟩
  · have ei : k - i = 0 := by omega
    rw [ei, bindN] at p2
    rw [← p2]
    simp only
    have hol := p3.1
    with_reducible refine split2 (fun hb => ?_) (fun hb => ?_) <;> have h := hb <;> (try simp only [wf_preprocess] at h) <;> simp -implicitDefEqProofs (disch := omega) only [go_sem, hb, setO_up1, setO_twice] <;> (repeat (with_reducible refine And.intro ?_ ?_; focus first | omega | rfl | assumption | exact ⟨_, rfl, rfl⟩ | (simp; omega) | (simp; done)))
    · cases out with
      | nil =>
        have d0 : decide ((0 : Int) < ((0 : Nat) : Int)) = false := rfl
        simp -implicitDefEqProofs (disch := omega) only [go_sem, d0, setO_up1, setO_twice]
        exact ⟨rfl, rfl⟩
      | cons b r =>
        have d0 : decide ((0 : Int) < ((r.length + 1 : Nat) : Int)) = true := decide_eq_true (by omega)
        simp -implicitDefEqProofs (disch := omega) only [go_sem, d0, setO_up1, setO_twice]
        refine call_d rfl (l1Once_ok hB d (1 + l) j _ 8 (by rw [getO_up1]; exact g _) (by omega) (by omega)) ?_
        unfold bindE
        simp only
        simp -implicitDefEqProofs (disch := omega) only [go_sem, setO_up1, setO_twice]
        with_reducible refine split2 (fun hb => ?_) (fun hb => ?_) <;> have h := hb <;> (try simp only [wf_preprocess] at h) <;> simp -implicitDefEqProofs (disch := omega) only [go_sem, hb, setO_up1, setO_twice] <;> (repeat (with_reducible refine And.intro ?_ ?_; focus first | omega | rfl | assumption | exact ⟨_, rfl, rfl⟩ | (simp; omega) | (simp; done)))
        refine call_d rfl (l4Bent_ok hB (onceD 8 d).2 (1 + l) j _ (by rw [getO_up1]; exact g _)) ?_
        simp -implicitDefEqProofs (disch := omega) only [go_sem, setO_up1, setO_twice]
        (repeat (with_reducible refine And.intro ?_ ?_; focus first | omega | rfl | assumption | exact ⟨_, rfl, rfl⟩ | (simp; omega) | (simp; done)))
        rfl
    · obtain rfl : out = [] := List.eq_nil_of_length_eq_zero (by omega)
      exact ⟨rfl, rfl⟩
end Go.Proofs.Ytceaigchkgifgaa

namespace Go.Ab
def stepH (h b : Int) : Int := andK .i64 (IntKind.i64.wrap (IntKind.i64.wrap (IntKind.i64.wrap (h * 131) + b) + 7)) 1073741823
def hashL : List Int → Int → Int
  | [], h => h
  | b :: r, h => hashL r (stepH h b)
def newD (bs : List Int) : Cu bs := ⟨0, hashL (bs.take 4000) (28803 + bs.length), Int.le_refl _, by omega⟩
def bInt : MBinding := ⟨[98], intT⟩
def twoD (bs : List Int) : MType × MType :=
  if (onceD 4 (freeD 3 (newD bs)).2).1 = true then ((freeD 3 (newD bs)).1, (freeD 3 (onceD 4 (freeD 3 (newD bs)).2).2).1) else
  if (onceD 6 (bindsD (onceD 4 (freeD 3 (newD bs)).2).2).2).1 = true then ((freeD 3 (newD bs)).1, applyT [bInt] (applyT (bindsD (onceD 4 (freeD 3 (newD bs)).2).2).1 (freeD 3 (newD bs)).1)) else
  ((freeD 3 (newD bs)).1, applyT (bindsD (onceD 4 (freeD 3 (newD bs)).2).2).1 (freeD 3 (newD bs)).1)
theorem sz_bInt : ∀ x ∈ [bInt], x.fType.sz ≤ 3 := by
  intro x hx
  obtain rfl := List.mem_singleton.1 hx
  decide
theorem apply_small {b : List MBinding} {t : MType} (h1 : SmallB 3 b) (h2 : t.sz ≤ 154) : (applyT b t).sz ≤ 31310 := by
  have := applyT_sz h1.2 t
  have : (t.sz + 1) * (200 + 2) ≤ 155 * 202 := Nat.mul_le_mul_right _ (by omega)
  omega
theorem twoD_sz (bs : List Int) : (twoD bs).1.sz ≤ 4194303 ∧ (twoD bs).2.sz ≤ 4194303 := by
  have h1 := freeD_sz 3 (newD bs)
  have h2 := apply_small (bindsD_small (onceD 4 (freeD 3 (newD bs)).2).2) (t := (freeD 3 (newD bs)).1) (by omega)
  unfold twoD
  split
  · have h3 := freeD_sz 3 (onceD 4 (freeD 3 (newD bs)).2).2
    exact ⟨by simp only; omega, by simp only; omega⟩
  split
  · have h4 := applyT_sz sz_bInt (applyT (bindsD (onceD 4 (freeD 3 (newD bs)).2).2).1 (freeD 3 (newD bs)).1)
    have : ((applyT (bindsD (onceD 4 (freeD 3 (newD bs)).2).2).1 (freeD 3 (newD bs)).1).sz + 1) * (3 + 2) ≤ 31311 * 5 := Nat.mul_le_mul_right _ (by omega)
    exact ⟨by simp only; omega, by simp only; omega⟩
  · exact ⟨by simp only; omega, by simp only; omega⟩
theorem Bytes.tail {bs : List Int} (h : Bytes bs) : Bytes bs.tail := ⟨by rw [List.length_tail]; have := h.len; omega, fun x hx => h.rng x (List.mem_of_mem_tail hx)⟩
end Go.Ab
namespace Go.Proofs.Ytceaigchkgifgaa
open Go Go.Ab
theorem l1New_ok {bs : List Int} (hB : Bytes bs) (own0 : List Ab.Obj) (Ω : Store) : ACall Try.prog 44 [.c (.d (.sl (bs.map encB)))] (own0 :: Ω) (fun r S' => r = .c (.ptr (0, own0.length) 0) ∧ S' = (own0 ++ [.box (cur (newD bs))]) :: Ω) := by
  have hl := hB.len
  refine acall_cwe (rs := [.tmp 2]) Try.checked.mixed Try.func44 Try.ntmps44 rfl rfl rfl rfl rfl ?_
  simp -implicitDefEqProofs (disch := omega) only [go_sem]
  refine loop_at (ι := Nat × Int) Try.checked.mixed rfl [0, 3, 4] (fun y => [.c (.d (.sl (bs.map encB))), .c (.d (.i .i64 y.2)), .c (.d (.i .i64 y.1))]) (fun _ => [] :: own0 :: Ω)
    (fun y => y.1 ≤ bs.length ∧ y.1 ≤ 4000 ∧ hashL ((bs.take 4000).drop y.1) y.2 = hashL (bs.take 4000) (28803 + bs.length)) (fun y => bs.length - y.1) (0, 28803 + bs.length) rfl rfl ⟨Nat.zero_le _, Nat.zero_le _, by rw [List.drop_zero]⟩ ?_
  rintro ⟨i, q⟩ ⟨p1, p2, p3⟩
  simp only at p1 p2 p3
  simp -implicitDefEqProofs (disch := omega) only [go_sem]
  have fin : (¬ i < bs.length ∨ ¬ i < 4000) → (own0 ++ [Ab.Obj.box [.d (.sl (bs.map encB)), .d (.i .i64 0), .d (.i .i64 q)]]) :: Ω = (own0 ++ [.box (cur (newD bs))]) :: Ω := fun hq => by
    rw [List.drop_eq_nil_of_le (by rw [List.length_take]; omega)] at p3
    rw [show q = hashL (bs.take 4000) (28803 + bs.length) from p3]
    rfl
  with_reducible refine split2 (fun hb => ?_) (fun hb => ?_) <;> have h := hb <;> (try simp only [wf_preprocess] at h) <;> simp -implicitDefEqProofs (disch := omega) only [go_sem, hb] <;> (repeat (with_reducible refine And.intro ?_ ?_; focus first | omega | rfl | assumption | exact ⟨_, rfl, rfl⟩ | (simp; omega) | (simp; done)))
  · with_reducible refine split2 (fun hb => ?_) (fun hb => ?_) <;> have h := hb <;> (try simp only [wf_preprocess] at h) <;> simp -implicitDefEqProofs (disch := omega) only [go_sem, hb] <;> (repeat (with_reducible refine And.intro ?_ ?_; focus first | omega | rfl | assumption | exact ⟨_, rfl, rfl⟩ | (simp; omega) | (simp; done)))
    · have hi : i < bs.length := by omega
      have hb := hB.rng bs[i] (List.getElem_mem hi)
      have ht : (bs.take 4000).drop i = bs[i] :: (bs.take 4000).drop (i + 1) := by
        rw [List.drop_eq_getElem_cons (by rw [List.length_take]; omega), List.getElem_take]
      rw [ht, hashL] at p3
      simp -implicitDefEqProofs (disch := omega) only [go_sem, encB]
      (repeat (with_reducible refine And.intro ?_ ?_; focus first | omega | rfl | assumption | exact ⟨_, rfl, rfl⟩ | (simp; omega) | (simp; done)))
      all_goals try omega
      exact inv_at (i + 1, _) (by simp only; omega) rfl rfl ⟨by simp only; omega, by simp only; omega, p3⟩
    · exact fin (.inr (by omega))
  · exact fin (.inl (by omega))
theorem l7Two_ok {bs : List Int} (hB : Bytes bs) : PCall Try.prog 30 [.c (.d (.sl (bs.map encB)))] (.tup [(true, (twoD bs).1.enc.map .d), (true, (twoD bs).2.enc.map .d)]) := fun S => by
  obtain ⟨r1, hr1⟩ : ∃ r, r = (twoD bs).1 := ⟨_, rfl⟩
  obtain ⟨r2, hr2⟩ : ∃ r, r = (twoD bs).2 := ⟨_, rfl⟩
  rw [← hr1, ← hr2]
  unfold twoD at hr1 hr2
  have hp1 := freeD_sz 3 (newD bs)
  obtain ⟨p, hp⟩ : ∃ p, p = (freeD 3 (newD bs)).1 := ⟨_, rfl⟩
  obtain ⟨c1, hc1⟩ : ∃ c1, c1 = (freeD 3 (newD bs)).2 := ⟨_, rfl⟩
  rw [← hp] at hp1
  rw [← hp, ← hc1] at hr1 hr2
  have hsm := bindsD_small (onceD 4 c1).2
  have hap := apply_small hsm (t := p) (by omega)
  refine acall_cwc [52] (rs := [.cell 2 26, .cell 3 26]) Try.checked.mixed Try.func30 Try.ntmps30 rfl rfl rfl rfl rfl ?_
  simp -implicitDefEqProofs (disch := omega) only [go_sem]
  refine call_d rfl (l1New_ok hB _ _) ?_
  simp -implicitDefEqProofs (disch := omega) only [go_sem]
  refine call_d rfl (l4Free_ok hB 3 (newD bs) 0 2 _ rfl (by omega)) ?_
  rw [← hp, ← hc1]
  simp -implicitDefEqProofs (disch := omega) only [go_sem]
  refine call_d rfl (l1Once_ok hB c1 0 2 _ 4 rfl (by omega) (by omega)) ?_
  simp -implicitDefEqProofs (disch := omega) only [go_sem]
  cases ho : (onceD 4 c1).1 with
  | true =>
    simp only [ho, reduceIte] at hr1 hr2
    subst hr1 hr2
    simp -implicitDefEqProofs (disch := omega) only [go_sem, ho]
    refine call_d rfl (l4Free_ok hB 3 (onceD 4 c1).2 0 2 _ rfl (by omega)) ?_
    simp -implicitDefEqProofs (disch := omega) only [go_sem]
    refine ⟨fun _ => foot_own rfl, ?_⟩
    refine ⟨by rfl, ?_⟩
    simp -implicitDefEqProofs (disch := omega) only [go_sem]
    first | done | rfl
  | false =>
    simp only [ho, reduceIte, Bool.false_eq_true] at hr1 hr2
    obtain ⟨b, hb⟩ : ∃ b, b = (bindsD (onceD 4 c1).2).1 := ⟨_, rfl⟩
    obtain ⟨c2, hc2⟩ : ∃ c2, c2 = (bindsD (onceD 4 c1).2).2 := ⟨_, rfl⟩
    rw [← hb, ← hc2] at hr1 hr2
    rw [← hb] at hsm hap
    obtain ⟨u, hu⟩ : ∃ u, u = applyT b p := ⟨_, rfl⟩
    rw [← hu] at hr1 hr2 hap
    simp -implicitDefEqProofs (disch := omega) only [go_sem, ho]
    refine call_d rfl (l6Binds_ok hB (onceD 4 c1).2 0 2 _ rfl) ?_
    rw [← hb, ← hc2]
    simp -implicitDefEqProofs (disch := omega) only [go_sem]
    refine ⟨fun _ => foot_own rfl, ?_⟩
    refine call_w (specApply_ok b (fun x hx => by have := hsm.2 x hx; omega) (by have := hsm.1; omega) p (by omega)) ?_
    rw [← hu]
    simp -implicitDefEqProofs (disch := omega) only [go_sem]
    refine ⟨by rfl, ?_⟩
    simp -implicitDefEqProofs (disch := omega) only [go_sem]
    refine call_d rfl (l1Once_ok hB c2 0 2 _ 6 rfl (by omega) (by omega)) ?_
    simp -implicitDefEqProofs (disch := omega) only [go_sem]
    cases hq : (onceD 6 c2).1 with
    | true =>
      simp only [hq, reduceIte] at hr1 hr2
      subst hr1 hr2
      simp -implicitDefEqProofs (disch := omega) only [go_sem, hq]
      refine call_w l4Int_ok ?_
      simp -implicitDefEqProofs (disch := omega) only [go_sem]
      (repeat (with_reducible refine And.intro ?_ ?_; focus first | omega | rfl | assumption | exact ⟨_, rfl, rfl⟩ | (simp; omega) | (simp; done)))
      refine call_w (specApply_ok [bInt] (fun x hx => by have := sz_bInt x hx; omega) (by simp) u (by omega)) ?_
      simp -implicitDefEqProofs (disch := omega) only [go_sem]
      refine ⟨by rfl, ?_⟩
      simp -implicitDefEqProofs (disch := omega) only [go_sem]
      refine ⟨by rfl, ?_⟩
      simp -implicitDefEqProofs (disch := omega) only [go_sem]
    | false =>
      simp only [hq, reduceIte, Bool.false_eq_true] at hr1 hr2
      subst hr1 hr2
      simp -implicitDefEqProofs (disch := omega) only [go_sem, hq]
      refine ⟨by rfl, ?_⟩
      simp -implicitDefEqProofs (disch := omega) only [go_sem]
theorem drawLeast_ok {bs : List Int} (hB : Bytes bs) : PCall Try.prog 7 [.c (.d (.sl (bs.map encB)))] (.tup [(true, (twoD bs).2.enc.map .d), (true, (twoD bs).1.enc.map .d)]) := fun S => by
  refine acall_cwm (rs := [.cell 2 26, .cell 3 26]) Try.checked.mixed Try.func7 Try.ntmps7 rfl rfl rfl rfl rfl ?_
  simp -implicitDefEqProofs (disch := omega) only [go_sem]
  refine call_w (l7Two_ok hB) ?_
  simp -implicitDefEqProofs (disch := omega) only [go_sem]
  refine ⟨by rfl, ?_⟩
  simp -implicitDefEqProofs (disch := omega) only [go_sem]
end Go.Proofs.Ytceaigchkgifgaa

namespace Go.Proofs.Ytceaigchkgifgaa
open Go Go.Ab
def matR (k : Key) : Option (List MBinding) → V
  | some s => .tup [(false, [.tsl k (s.map MBinding.enc)]), (false, [.d (.b true)])]
  | none => .tup [(false, [.any]), (false, [.d (.b false)])]
def matS (k : Key) (S : Store) : Option (List MBinding) → Store
  | some s => setO S k (.tok 4 (s.map MBinding.enc))
  | none => setO S k .dead
def matP (k : Key) (S : Store) (o : Option (List MBinding)) (r : V) (S' : Store) : Prop :=
  match o with
  | some s => r = .tup [(false, [.tsl k (s.map MBinding.enc)]), (false, [.d (.b true)])] ∧ S' = setO S k (.tok 4 (s.map MBinding.enc))
  | none => (∃ c, r = .tup [(false, [c]), (false, [.d (.b false)])]) ∧ setO S' k .dead = setO S k .dead
theorem matP_det {f : FuncId} {args : List V} {S : Store} {k : Key} {o : Option (List MBinding)} (h : ACall Try.prog f args S (matP k S o)) : ACall Try.prog f args S (fun r S' => r = matR k o ∧ S' = matS k S o) := by
  refine h.kill k fun r S' hp => ?_
  cases o with
  | some s => exact ⟨r, Less.refl r, .inl hp⟩
  | none =>
    obtain ⟨⟨c, rfl⟩, h2⟩ := hp
    exact ⟨_, less_first, .inr ⟨rfl, h2⟩⟩
theorem matR_some {k : Key} {s : List MBinding} : matR k (some s) = .tup [(false, [.tsl k (s.map MBinding.enc)]), (false, [.d (.b true)])] := rfl
theorem matR_none {k : Key} : matR k none = .tup [(false, [.any]), (false, [.d (.b false)])] := rfl
theorem matS_some {k : Key} {S : Store} {s : List MBinding} : matS k S (some s) = setO S k (.tok 4 (s.map MBinding.enc)) := rfl
theorem matS_none {k : Key} {S : Store} : matS k S none = setO S k .dead := rfl
theorem specMatch_all : ∀ n : Nat, (∀ p : MType, SizeOf.sizeOf p < n → ∀ (t : MType) (s : List MBinding) (l j : Nat) (S : Store), getO S (l, j) = some (.tok 4 (s.map MBinding.enc)) → p.sz ≤ 4194304 → t.sz ≤ 4194304 → Small s → s.length + p.cnt ≤ 1073741824 →
      ACall Try.prog 137 [p.v, t.v, .c (.tsl (l, j) (s.map MBinding.enc))] S (fun r S' => r = matR (l, j) (matchT s p t) ∧ S' = matS (l, j) S (matchT s p t))) ∧
    (∀ ps : List MType, SizeOf.sizeOf ps < n → ∀ (ts : List MType) (s : List MBinding) (l j : Nat) (S : Store), getO S (l, j) = some (.tok 4 (s.map MBinding.enc)) → ps.length = ts.length → ps.length + szRows (ps.map MType.enc) ≤ 4194304 → ts.length + szRows (ts.map MType.enc) ≤ 4194304 → Small s → s.length + MType.cnts ps ≤ 1073741824 →
      ACall Try.prog 127 [.c (.d (.sl (ps.map MType.enc))), .c (.d (.sl (ts.map MType.enc))), .c (.tsl (l, j) (s.map MBinding.enc))] S (fun r S' => r = matR (l, j) (matchL s ps ts) ∧ S' = matS (l, j) S (matchL s ps ts)))
  | 0 => ⟨fun x h => by omega, fun x h => by omega⟩
  | n + 1 => by
    obtain ⟨ih, ihS⟩ := specMatch_all n
    refine ⟨fun p hn t s l j S hk hp ht hs hc => matP_det ?_, fun ps hn ts s l j S hk hl hp ht hs hc => matP_det ?_⟩
    · have lArgs := MType.lt_Args p
      have hcnt := MType.cnt_eq p
      have hp' := hp
      have ht' := ht
      simp only [MType.sz, MType.enc_eq, szRow, szRow_append, D.sz, List.length_map] at hp' ht'
      refine acall_cw (rs := [.tmp 6, .tmp 7]) Try.checked.mixed Try.func137 Try.ntmps137 rfl rfl rfl rfl rfl ?_
      simp -implicitDefEqProofs (disch := omega) only [go_sem, hk]
      with_reducible refine split2 (fun hb => ?_) (fun hb => ?_) <;> have h := hb <;> (try simp only [wf_preprocess] at h) <;> simp -implicitDefEqProofs (disch := omega) only [go_sem, hb, hk] <;> (repeat (with_reducible refine And.intro ?_ ?_; focus first | omega | rfl | assumption | exact ⟨_, rfl, rfl⟩ | (simp; omega) | (simp; done)))
      · refine call_w (specLookup_ok s p.fName hs (by omega)) ?_
        cases hl : lookupB s p.fName with
        | none =>
          have hm : matchT s p t = some (s ++ [⟨p.fName, t⟩]) := by rw [matchT_eq, if_pos h, hl]
          rw [hm]
          simp -implicitDefEqProofs (disch := omega) only [go_sem, lookR_none]
          refine call_w (l4Copy_ok t ht) ?_
          simp -implicitDefEqProofs (disch := omega) only [go_sem] <;> (repeat (with_reducible refine And.intro ?_ ?_; focus first | omega | rfl | assumption | exact ⟨_, rfl, rfl⟩ | (simp; omega) | (simp; done)))
          simp -implicitDefEqProofs (disch := omega) only [go_sem, hk]
          (repeat (with_reducible refine And.intro ?_ ?_; focus first | omega | rfl | assumption | exact ⟨_, rfl, rfl⟩ | (simp; omega) | (simp; done)))
          simp [matP, MBinding.enc_eq, MType.enc_eq]
        | some u =>
          have hm : matchT s p t = if dec (u = t) = true then some s else none := by rw [matchT_eq, if_pos h, hl]
          have hu : u.sz ≤ 4194304 := by
            obtain ⟨b, hb, e⟩ := lookup_mem hl
            rw [← e]; exact hs b hb
          rw [hm]
          simp -implicitDefEqProofs (disch := omega) only [go_sem, lookR_some]
          refine call_w (specEqualType_ok u t hu) ?_
          cases hd : dec (u = t) with
          | true =>
            simp -implicitDefEqProofs (disch := omega) only [go_sem]
            simp only [matP, if_true]
            exact ⟨trivial, (setO_self _ _ hk).symm⟩
          | false =>
            simp -implicitDefEqProofs (disch := omega) only [go_sem]
            simp only [matP, Bool.false_eq_true, if_false]
            exact ⟨⟨_, rfl⟩, trivial⟩
      · have hm : ¬ (p.fKind = t.fKind ∧ p.fName = t.fName ∧ p.fArgs.length = t.fArgs.length) → matchT s p t = none := fun x => by rw [matchT_eq, if_neg h, if_neg x]
        have hm2 : (p.fKind = t.fKind ∧ p.fName = t.fName ∧ p.fArgs.length = t.fArgs.length) → matchT s p t = matchL s p.fArgs t.fArgs := fun x => by rw [matchT_eq, if_neg h, if_pos x]
        have h0 := h
        with_reducible refine split2 (fun hb => ?_) (fun hb => ?_) <;> have h := hb <;> (try simp only [wf_preprocess] at h) <;> simp -implicitDefEqProofs (disch := omega) only [go_sem, hb, hk] <;> (repeat (with_reducible refine And.intro ?_ ?_; focus first | omega | rfl | assumption | exact ⟨_, rfl, rfl⟩ | (simp; omega) | (simp; done)))
        · rw [hm (by omega)]
          exact ⟨⟨_, rfl⟩, rfl⟩
        have h1 := h
        with_reducible refine split2 (fun hb => ?_) (fun hb => ?_) <;> have h := hb <;> (try simp only [wf_preprocess] at h) <;> simp -implicitDefEqProofs (disch := omega) only [go_sem, hb, hk] <;> (repeat (with_reducible refine And.intro ?_ ?_; focus first | omega | rfl | assumption | exact ⟨_, rfl, rfl⟩ | (simp; omega) | (simp; done)))
        · rw [hm (fun x => h x.2.1)]
          exact ⟨⟨_, rfl⟩, rfl⟩
        have h2 := h
        with_reducible refine split2 (fun hb => ?_) (fun hb => ?_) <;> have h := hb <;> (try simp only [wf_preprocess] at h) <;> simp -implicitDefEqProofs (disch := omega) only [go_sem, hb, hk] <;> (repeat (with_reducible refine And.intro ?_ ?_; focus first | omega | rfl | assumption | exact ⟨_, rfl, rfl⟩ | (simp; omega) | (simp; done)))
        · rw [hm (by omega)]
          exact ⟨⟨_, rfl⟩, rfl⟩
        rw [hm2 ⟨by omega, h2, by omega⟩]
        refine call_d rfl (ihS p.fArgs (by omega) t.fArgs s (1 + l) j _ (by rw [getO_up1]; exact hk) (by omega) (by omega) (by omega) hs (by omega)) ?_
        cases hL : matchL s p.fArgs t.fArgs with
        | none =>
          simp -implicitDefEqProofs (disch := omega) only [go_sem, matR_none, matS_none]
          exact ⟨⟨_, rfl⟩, setO_twice _ _⟩
        | some s1 =>
          simp -implicitDefEqProofs (disch := omega) only [go_sem, matR_some, matS_some]
          exact ⟨rfl, rfl⟩
    · refine acall_cw (rs := [.tmp 6, .tmp 7]) Try.checked.mixed Try.func127 Try.ntmps127 rfl rfl rfl rfl rfl ?_
      simp -implicitDefEqProofs (disch := omega) only [go_sem, hk]
      refine loop_at (ι := Nat × List MBinding) Try.checked.mixed rfl [0, 1, 2, 8] (fun y => [.c (.d (.sl (ps.map MType.enc))), .c (.d (.sl (ts.map MType.enc))), .c (.tsl (1 + l, j) (y.2.map MBinding.enc)), .c (.d (.i .i64 y.1))]) (fun y => [] :: setO S (l, j) (.tok 4 (y.2.map MBinding.enc)))
        (fun y => y.1 ≤ ps.length ∧ Small y.2 ∧ y.2.length + MType.cnts (ps.drop y.1) ≤ 1073741824 ∧ matchL y.2 (ps.drop y.1) (ts.drop y.1) = matchL s ps ts) (fun y => ps.length - y.1) (0, s) rfl (by rw [setO_self _ _ hk]) ⟨Nat.zero_le _, hs, hc, rfl⟩ ?_
      rintro ⟨i, cur⟩ ⟨p1, p2, p3, p4⟩
      simp only at p1 p2 p3 p4
      simp -implicitDefEqProofs (disch := omega) only [go_sem]
      with_reducible refine split2 (fun hb => ?_) (fun hb => ?_) <;> have h := hb <;> (try simp only [wf_preprocess] at h) <;> simp -implicitDefEqProofs (disch := omega) only [go_sem, hb] <;> (repeat (with_reducible refine And.intro ?_ ?_; focus first | omega | rfl | assumption | exact ⟨_, rfl, rfl⟩ | (simp; omega) | (simp; done)))
      · have hi : i < ps.length := by omega
        have hi' : i < ts.length := by omega
        have hx : ps[i].sz ≤ szRows (ps.map MType.enc) := szRows_mem (List.mem_map_of_mem (List.getElem_mem hi))
        have hy : ts[i].sz ≤ szRows (ts.map MType.enc) := szRows_mem (List.mem_map_of_mem (List.getElem_mem hi'))
        rw [List.drop_eq_getElem_cons hi, MType.cnts] at p3
        have p5 := matchL_drop hi hi' _ p4
        (repeat (with_reducible refine And.intro ?_ ?_; focus first | omega | rfl | assumption | exact ⟨_, rfl, rfl⟩ | (simp; omega) | (simp; done)))
        refine call_d rfl (ih ps[i] (by have := List.sizeOf_lt_of_mem (List.getElem_mem hi); omega) ts[i] cur (1 + l) j _ (by rw [getO_up1]; exact getO_setO_eq _ _ _ _ hk) (by omega) (by omega) p2 (by omega)) ?_
        cases hm : matchT cur ps[i] ts[i] with
        | none =>
          rw [hm] at p5
          simp -implicitDefEqProofs (disch := omega) only [go_sem, matR_none, matS_none, setO_twice]
          rw [← p5]
          exact ⟨⟨_, rfl⟩, setO_twice _ _⟩
        | some nx =>
          rw [hm] at p5
          have hlen := matchT_len _ _ _ _ hm
          simp -implicitDefEqProofs (disch := omega) only [go_sem, matR_some, matS_some, setO_twice]
          exact inv_at (i + 1, nx) (by simp only; omega) rfl rfl ⟨by simp only; omega, matchT_small _ _ _ _ (by omega) p2 hm, by simp only; omega, p5⟩
      · have hi : i = ps.length := by omega
        have hi' : i = ts.length := by omega
        have hr : matchL s ps ts = some cur := by
          rw [← p4, List.drop_of_length_le (by omega), matchL]
        rw [hr]
        exact ⟨rfl, rfl⟩
theorem specMatchL_ok {ps ts : List MType} {s : List MBinding} {l j : Nat} {S : Store} (hk : getO S (l, j) = some (.tok 4 (s.map MBinding.enc))) (hl : ps.length = ts.length) (hp : ps.length + szRows (ps.map MType.enc) ≤ 4194304) (ht : ts.length + szRows (ts.map MType.enc) ≤ 4194304)
    (hs : Small s) (hc : s.length + MType.cnts ps ≤ 1073741824) : ACall Try.prog 127 [.c (.d (.sl (ps.map MType.enc))), .c (.d (.sl (ts.map MType.enc))), .c (.tsl (l, j) (s.map MBinding.enc))] S (fun r S' => r = matR (l, j) (matchL s ps ts) ∧ S' = matS (l, j) S (matchL s ps ts)) :=
  (specMatch_all _).2 ps (Nat.lt_succ_self _) ts s l j S hk hl hp ht hs hc
noncomputable def matO (o : Option (List MBinding)) : V :=
  match o with
  | some s => .tup [(false, [.d (.sl (s.map MBinding.enc))]), (false, [.d (.b true)])]
  | none => .tup [(false, [.any]), (false, [.d (.b false)])]
theorem matO_some {s : List MBinding} : matO (some s) = .tup [(false, [.d (.sl (s.map MBinding.enc))]), (false, [.d (.b true)])] := rfl
theorem matO_none : matO none = .tup [(false, [.any]), (false, [.d (.b false)])] := rfl
theorem specMatchL0 {ps ts : List MType} {S : Store} (hl : ps.length = ts.length) (hp : ps.length + szRows (ps.map MType.enc) ≤ 4194304) (ht : ts.length + szRows (ts.map MType.enc) ≤ 4194304) :
    ACall Try.prog 127 [.c (.d (.sl (ps.map MType.enc))), .c (.d (.sl (ts.map MType.enc))), .c (.fsl [])] S (fun r S' => r = matO (matchL [] ps ts) ∧ S' = S) := by
  have hc := cnts_le ps
  refine ACall.tok0 2 (es := []) (esz := 4) rfl (by simp) (specMatchL_ok (s := []) (l := 0) (j := 0) (S := [.tok 4 []] :: S) rfl hl hp ht small_nil (by simp; omega)) ?_
  rintro r fr S' ⟨h1, h2⟩
  cases hm : matchL [] ps ts with
  | none =>
    rw [hm] at h1 h2
    subst h1
    injection h2 with h2 h3
    exact ⟨_, rfl, rfl, h3⟩
  | some s =>
    rw [hm] at h1 h2
    subst h1
    injection h2 with h2 h3
    exact ⟨_, rfl, rfl, h3⟩
theorem specMatchAll_ok (ps ts : List MType) (hp : ps.length + szRows (ps.map MType.enc) ≤ 4194304) (ht : ts.length + szRows (ts.map MType.enc) ≤ 4194304) :
    PCall Try.prog 102 [.c (.d (.sl (ps.map MType.enc))), .c (.d (.sl (ts.map MType.enc)))] (matO (matchAll [] ps ts)) := fun S => by
  refine ACall.kill (0, 0) (post := fun r S' => (∃ r', Less r r' ∧ r' = matO (matchAll [] ps ts)) ∧ S' = S) ?_ fun r S' h => ⟨matO (matchAll [] ps ts), by obtain ⟨⟨r', h1, h2⟩, _⟩ := h; rw [← h2]; exact h1, .inl ⟨rfl, h.2⟩⟩
  refine acall_cw (rs := [.tmp 4, .tmp 5]) Try.checked.mixed Try.func102 Try.ntmps102 rfl rfl rfl rfl rfl ?_
  simp -implicitDefEqProofs (disch := omega) only [go_sem]
  with_reducible refine split2 (fun hb => ?_) (fun hb => ?_) <;> have h := hb <;> (try simp only [wf_preprocess] at h) <;> simp -implicitDefEqProofs (disch := omega) only [go_sem, hb] <;> (repeat (with_reducible refine And.intro ?_ ?_; focus first | omega | rfl | assumption | exact ⟨_, rfl, rfl⟩ | (simp; omega) | (simp; done)))
  · have hm : matchAll [] ps ts = none := if_neg (by omega)
    rw [hm]
    exact ⟨_, less_first, rfl⟩
  · have hm : matchAll [] ps ts = matchL [] ps ts := if_pos (by omega)
    rw [hm]
    (repeat (with_reducible refine And.intro ?_ ?_; focus first | omega | rfl | assumption | exact ⟨_, rfl, rfl⟩ | (simp; omega) | (simp; done)))
    refine call_d rfl (specMatchL0 (by omega) hp ht) ?_
    cases matchL [] ps ts with
    | none =>
      simp -implicitDefEqProofs (disch := omega) only [go_sem, matO_none]
      (repeat (with_reducible refine And.intro ?_ ?_; focus first | omega | rfl | assumption | exact ⟨_, rfl, rfl⟩ | (simp; omega) | (simp; done)))
      exact ⟨_, less_first, rfl⟩
    | some s =>
      simp -implicitDefEqProofs (disch := omega) only [go_sem, matO_some]
      exact ⟨_, Less.refl _, rfl⟩
theorem specMatch_ok (p t : MType) (hp : p.sz ≤ 4194303) (ht : t.sz ≤ 4194303) : PCall Try.prog 65 [p.v, t.v] (matO (matchAll [] [p] [t])) := fun S => by
  refine acall_cw (rs := [.tmp 4, .tmp 5]) Try.checked.mixed Try.func65 Try.ntmps65 rfl rfl rfl rfl rfl ?_
  simp -implicitDefEqProofs (disch := omega) only [go_sem]
  (repeat (with_reducible refine And.intro ?_ ?_; focus first | omega | rfl | assumption | exact ⟨_, rfl, rfl⟩ | (simp; omega) | (simp; done)))
  have e1 : ∀ x : MType, V.c (.d (.sl [x.enc])) = V.c (.d (.sl (List.map MType.enc [x]))) := fun x => rfl
  simp only [MType.enc_eq] at e1
  refine call_w (by simp only [List.map_cons, List.map_nil, V.bor, C.bor, e1]; exact specMatchAll_ok [p] [t] (by simp [szRows, MType.sz_def, szRow]; omega) (by simp [szRows, MType.sz_def, szRow]; omega)) ?_
  cases matchAll [] [p] [t] with
  | none => simp -implicitDefEqProofs (disch := omega) only [go_sem, matO_none]
  | some s => simp -implicitDefEqProofs (disch := omega) only [go_sem, matO_some]
theorem specMatches_ok (p t : MType) (hp : p.sz ≤ 4194303) (ht : t.sz ≤ 4194303) : PCall Try.prog 32 [p.v, t.v] (.c (.d (.b (mats p t)))) := fun S => by
  rw [show mats p t = (matchAll [] [p] [t]).isSome from rfl]
  refine acall_cw (rs := [.tmp 4]) Try.checked.mixed Try.func32 Try.ntmps32 rfl rfl rfl rfl rfl ?_
  simp -implicitDefEqProofs (disch := omega) only [go_sem]
  refine call_w (specMatch_ok p t hp ht) ?_
  cases matchAll [] [p] [t] with
  | none => simp -implicitDefEqProofs (disch := omega) only [go_sem, matO_none]
  | some s => simp -implicitDefEqProofs (disch := omega) only [go_sem, matO_some]
end Go.Proofs.Ytceaigchkgifgaa

