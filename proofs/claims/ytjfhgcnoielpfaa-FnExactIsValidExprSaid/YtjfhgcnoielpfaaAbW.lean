/-
  ABSTRACT VALUES FOR A WALK, PART 23: a law's row. From the walk of a law that answers true to what the row asks of the call.
-/
import Derived.Test.YtjfhgcnoielpfaaAbV
import Derived.ProofKit
import Derived.OpenShut
import Derived.WalkKit
set_option linter.unusedSimpArgs false
set_option linter.unusedVariables false
namespace Go.Ab
open Go.ChangeShapes Go.WideShapes Go.ChangeAt Go.RowKit

section
variable {H : Type} {enc : TypeId × Value → H} {P : Program} {W W' : World} {L : List TypeId} {t : TypeId} {v : Value} {base : Nat}

theorem arg_struct {fs : Array Field} {ds : List D} (ht : P.underlying t = some (.struct fs)) (hok : Value.okWide P W .any base t v) (hL : RepL W ds v.cells.toList) : RepV W (allFast W) [] [] (.agg (ds.map .d)) v := by
  obtain ⟨cs, rfl, _⟩ := okWide_struct ht hok
  refine ⟨cs, rfl, by rw [List.length_map, hL.1]; rfl, fun j x hj => ?_⟩
  rw [List.getElem?_map] at hj
  cases hd : ds[j]? with
  | none => rw [hd] at hj; cases hj
  | some d =>
    rw [hd] at hj
    cases hj
    obtain ⟨u, h1, h2, h3⟩ := hL.2 j d hd
    exact ⟨u, h1, h2, h3⟩

theorem arg_cell {d : D} (hv : v.cells.toList = [v]) (hL : RepL W [d] v.cells.toList) : RepV W (allFast W) [] [] (.c (.d d)) v := by
  obtain ⟨u, h1, h2, h3⟩ := hL.2 0 d rfl
  rw [hv] at h1
  cases h1
  exact ⟨h2, h3⟩

theorem arg_slice {e : TypeId} {d : D} (ht : P.underlying t = some (.slice e)) (hok : Value.okWide P W .any base t v) (hL : RepL W [d] v.cells.toList) : RepV W (allFast W) [] [] (.c (.d d)) v := by
  obtain ⟨a, n, m, rfl⟩ := okWide_slice ht hok
  exact arg_cell rfl hL
theorem arg_string {d : D} (ht : P.underlying t = some .string) (hok : Value.okWide P W .any base t v) (hL : RepL W [d] v.cells.toList) : RepV W (allFast W) [] [] (.c (.d d)) v := by
  obtain ⟨s, rfl⟩ := okWide_string ht hok
  exact arg_cell rfl hL
theorem arg_int {k : IntKind} {d : D} (ht : P.underlying t = some (.int k)) (hok : Value.okWide P W .any base t v) (hL : RepL W [d] v.cells.toList) : RepV W (allFast W) [] [] (.c (.d d)) v := by
  obtain ⟨n, rfl⟩ := okWide_int ht hok
  exact arg_cell rfl hL

theorem repVs_nil : RepVs W (allFast W) [] [] [] [] := ⟨rfl, fun j x h => by simp at h⟩
theorem repVs_cons {x : V} {xs : List V} {vs : List Value} (h1 : RepV W (allFast W) [] [] x v) (h2 : RepVs W (allFast W) [] [] xs vs) : RepVs W (allFast W) [] [] (x :: xs) (v :: vs) := by
  refine ⟨by simp [h2.1], fun j y hj => ?_⟩
  cases j with
  | zero => cases hj; exact ⟨v, rfl, h1⟩
  | succ j => exact h2.2 j y hj

theorem repS_nil (W : World) : RepS W (allFast W) [] [] where
  obj := fun k o h => by rw [getO_nil] at h; cases h
  apart := fun k k' o o' h h' b h1 => by rw [getO_nil] at h1; cases h1
  shape := ⟨rfl, fun l fr h => by simp at h⟩
  live := fun b => by
    by_cases h : b < W.heap.size
    · exact .inl h
    · right
      unfold allFast
      rw [Array.getElem?_eq_none (by omega)]

theorem no_own {b : Nat} : ¬ Own [] [] b := fun ⟨k, o, h, h1, _⟩ => by rw [getO_nil] at h1; cases h1

/-- What the row's arguments were, they are behind the call. -/
theorem trodAll_stays (hl : laidOutB P = true) (hsame : ∀ b, b < W.heap.size → W'.heap[b]? = W.heap[b]?) (sp : Nat → Bool) : ∀ (ts : List TypeId) (vs : List Value) (ds : List (DataW H)) (ps : List MemPlace),
    (ts.all fun t => P.readableRec t && decide (t < P.types.size)) = true → (∀ p ∈ ps, p.block < W.heap.size ∧ sp p.block = true) →
      DataW.TrodAll enc P W 0 (fun _ => true) true ts vs ds ps → DataW.TrodAll enc P W' 0 sp true ts vs ds ps
  | [], [], [], ps, _, _, h => h
  | t :: ts, v :: vs, d :: ds, ps, hr, hlt, h => by
    simp only [List.all_cons, Bool.and_eq_true, decide_eq_true_eq] at hr
    obtain ⟨p, q, h1, h2, rfl⟩ := h
    refine ⟨p, q, WideElems.Trod_stays hl hr.1.1 hr.1.2 h1 (fun x hx => ?_) (fun x hx => (hlt x (by simp [hx])).2), trodAll_stays hl hsame sp ts vs ds q hr.2 (fun x hx => hlt x (by simp [hx])) h2, rfl⟩
    have hb := (hlt x (by simp [hx])).1
    cases x with
    | cell b o => exact World.cell?_of_block (w := W) (hsame b hb)
    | map b => exact hsame b hb
  | [], [], _ :: _, ps, _, _, h => h.elim
  | [], _ :: _, _, ps, _, _, h => h.elim
  | _ :: _, [], _, ps, _, _, h => h.elim
  | _ :: _, _ :: _, [], ps, _, _, h => h.elim

/-- A law that answers true, as its row asks. -/
theorem law_post {f : FuncId} {fn : Func} {s : ChangeSpec} {args : Array Value} {ds gs : List (DataW H)} {before : List MemPlace} {vs : List V} {tb : TypeId} (hl : laidOutB P = true)
    (hr : (fn.params.toList.all fun t => P.readableRec t && decide (t < P.types.size)) = true) (hvars : s.vars = []) (hres : fn.resultTypes = #[tb]) (htb : P.underlying tb = some .bool)
    (hs1 : (s.fn H (ds ++ gs)).results = [.lit (.bool true)]) (hs2 : (s.fn H (ds ++ gs)).args = ds) (hs3 : (s.fn H (ds ++ gs)).vars = [])
    (hW : DataW.Whole enc P fn.params.toList s.vars false W args.toList ds gs before) (hargs : RepVs W (allFast W) [] [] vs args.toList)
    (hcall : ACall P f vs [] fun r _ => r = .c (.d (.b true))) :
    Calls P f args W fun e W' => ∃ v, e = .returned v ∧ s.post enc P fn false true false false W args v W' := by
  have hc := hcall.2 W (allFast W) [] args.toList (repS_nil W) hargs
  have e1 : args.toList.toArray = args := by simp
  rw [e1] at hc
  refine hc.mono fun e W' ⟨v, r, S', σ', β', he, hS', hk, hst, hv, hp⟩ => ?_
  subst hp
  obtain ⟨hv, _⟩ := hv
  cases hv
  refine ⟨_, he, ?_⟩
  have hsame : ∀ b, b < W.heap.size → W'.heap[b]? = W.heap[b]? := fun b hb => (hst.far b hb no_own).1
  have hlt := fun p hp => hW.lt p hp
  have hW0 := hW
  obtain ⟨pa, q, hA, hV, rfl, hz, hn⟩ := hW
  rw [hvars] at hV
  have hq : gs = [] ∧ q = [] := by
    obtain ⟨h1, h2⟩ := trodVars_none hV
    exact ⟨h1, h2⟩
  obtain ⟨rfl, rfl⟩ := hq
  rw [List.append_nil] at *
  refine ⟨ds, [], pa, [], pa, [], ?_, ?_, ?_, ?_, ?_, fun h => by cases h⟩
  · simpa using hW0
  · rw [List.append_nil, hs1, hres]
    exact trodAll_cons_mk (shut_bool htb _) trodAll_mk0
  · rw [List.append_nil, hs2]
    exact trodAll_stays hl hsame _ _ _ _ _ hr (fun p hp => ⟨hlt p hp, by simpa using hlt p hp⟩) hA
  · rw [List.append_nil, hs3, hvars]
    rfl
  · refine ⟨hst.os, hst.output, fun i hi => ?_⟩
    rw [hsame i hi]
    split <;> simp_all

end
end Go.Ab
