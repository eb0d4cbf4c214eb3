/-
  ABSTRACT VALUES FOR A WALK, PART 24: a slice argument that the callee appends to: from a contract on a token to a contract on a slice without spare room.
-/
import Derived.Test.YtjfhgcnoielpfaaAbU
set_option linter.unusedSimpArgs false
set_option linter.unusedVariables false
namespace Go.Ab

section
variable {P : Program} {S S' : Store} {N : Nat} {s : St}

theorem getO_up1 {α : Type} {fr : List α} {S : List (List α)} {l j : Nat} : getO (fr :: S) (1 + l, j) = getO S (l, j) := by rw [Nat.add_comm, getO_succ]
theorem setO_up1 {α : Type} {fr : List α} {S : List (List α)} {l j : Nat} {x : α} : setO (fr :: S) (1 + l, j) x = fr :: setO S (l, j) x := by rw [Nat.add_comm, setO]
theorem upK_mk {n l j : Nat} : upK n (l, j) = (n + l, j) := rfl
theorem ret_tsl_up {l j : Nat} {es : List (List D)} : C.ret (.tsl (1 + l, j) es) = some (.tsl (l, j) es) := by
  rw [Nat.add_comm]
  show C.down 1 (.tsl (l + 1, j) es) = _
  simp [C.down]
theorem ret_tsl_0 {j : Nat} {es : List (List D)} : C.ret (.tsl (0, j) es) = some (.d (.sl es)) := rfl
theorem ret_d {x : D} : C.ret (.d x) = some (.d x) := rfl
theorem ret_any : C.ret .any = some .any := rfl
theorem ret_fsl {es : List (List D)} : C.ret (.fsl es) = some (.fsl es) := rfl
theorem ret_rptr {cs : List D} : C.ret (.rptr cs) = some (.rptr cs) := rfl
theorem ret_fn0 {f : Nat} : C.ret (.fn f []) = C.down 1 (.fn f []) := rfl
theorem ret_ptr {l j off : Nat} : C.ret (.ptr (1 + l, j) off) = some (.ptr (l, j) off) := by
  rw [Nat.add_comm]
  show C.down 1 (.ptr (l + 1, j) off) = _
  simp [C.down]
theorem frz_tsl {j : Nat} {es es' : List (List D)} {k : Key} : C.frz j es (.tsl k es') = .tsl k es' := rfl

theorem bor_d {x : D} : C.bor (.d x) = .d x := rfl
theorem bor_any : C.bor .any = .any := rfl
theorem bor_ptr {k : Key} {off : Nat} : C.bor (.ptr k off) = .ptr k off := rfl
theorem bor_fn {f : Nat} {caps : List (Key × Nat)} : C.bor (.fn f caps) = .fn f caps := rfl
theorem bor_msl {k : Key} : C.bor (.msl k) = .msl k := rfl
theorem bor_rptr {cs : List D} : C.bor (.rptr cs) = .rptr cs := rfl
theorem frz_d {j : Nat} {es : List (List D)} {x : D} : C.frz j es (.d x) = .d x := rfl
theorem frz_any {j : Nat} {es : List (List D)} : C.frz j es .any = .any := rfl
theorem frz_fsl {j : Nat} {es es' : List (List D)} : C.frz j es (.fsl es') = .fsl es' := rfl
theorem frz_ptr {j : Nat} {es : List (List D)} {k : Key} {off : Nat} : C.frz j es (.ptr k off) = .ptr k off := rfl
theorem frz_fn {j : Nat} {es : List (List D)} {f : Nat} {caps : List (Key × Nat)} : C.frz j es (.fn f caps) = .fn f caps := rfl
theorem frz_rptr {j : Nat} {es : List (List D)} {cs : List D} : C.frz j es (.rptr cs) = .rptr cs := rfl
theorem frz_msl {j i : Nat} {es : List (List D)} : C.frz j es (.msl (0, i)) = if i = j then .d (.sl es) else .msl (0, i) := rfl

/-- A slice without spare room, handed to a function that appends to it. -/
theorem ACall.tok0 {f : FuncId} (i : Nat) {es : List (List D)} {esz : Nat} {args : List V} {post post' : V → Store → Prop} (hi : args[i]? = some (.c (.fsl es))) (hes : ∀ e ∈ es, e.length = esz)
    (h : ACall P f ((args.map (V.up 1)).set i (.c (.tsl (0, 0) es))) ([.tok esz es] :: S) post)
    (hp : ∀ r fr S', post r (fr :: S') → ∃ r', r.ret = some r' ∧ post' r' S') : ACall P f args S post' := by
  refine ⟨h.1, fun w σ β vs hS hargs => ?_⟩
  obtain ⟨v, hv0, ⟨hd, ad, n, hval⟩, hone⟩ := hargs.2 i _ hi
  · have hn : n = es.length := by rw [hval] at hd; cases hd <;> rfl
    have hg : Grow w σ w σ := Grow.refl hS.live
    obtain ⟨hS', hk, hst⟩ := hS.up1.push (o := .tok esz es) (h := v) hg rfl ⟨hd, hes, ad, n, by rw [hval, hn], by omega, .inl hn⟩ (fun b hb => by
      rw [hval, hn] at hb
      cases ad <;> simp [blk] at hb)
    have hargs' : RepVs w σ ([.tok esz es] :: S) ([v] :: β) ((args.map (V.up 1)).set i (.c (.tsl (0, 0) es))) vs := by
      refine ⟨by have := hargs.1; simpa using this, fun j x hx => ?_⟩
      rw [List.getElem?_set] at hx
      by_cases e : i = j
      · subst e
        rw [if_pos rfl] at hx
        split at hx
        · cases hx
          refine ⟨v, hv0, ⟨hd, .tok esz es, rfl, fun a b e => ?_⟩, hone⟩
          cases e
          exact ⟨Nat.le_refl _, fun _ => rfl⟩
        · cases hx
      · rw [if_neg e, List.getElem?_map] at hx
        cases ha : args[j]? with
        | none => rw [ha] at hx; cases hx
        | some y =>
          rw [ha] at hx; cases hx
          obtain ⟨u, hu, hr⟩ := hargs.2 j y ha
          exact ⟨u, hu, rep_upV (S := [.tok esz es] :: S) (β := [v] :: β) 1 hr⟩
    refine (h.2 w σ ([v] :: β) vs hS' hargs').mono fun e w' ⟨v', r, S1, σ', β', he, hS1, hk1, hst1, hr1, hpost⟩ => ?_
    have hO : ∀ b, Own ([.tok esz es] :: S) ([v] :: β) b → Own S β b := by
      rintro b ⟨⟨l, j⟩, o, hv, h1, h2, h3⟩
      cases l with
      | zero =>
        rw [getO_zero] at h1 h2
        cases j with
        | zero =>
          cases h1; cases h2
          rw [hval, hn] at h3
          cases ad <;> simp [blk] at h3
        | succ j => simp at h1
      | succ l => rw [getO_succ] at h1 h2; exact ⟨(l, j), o, hv, h1, h2, h3⟩
    cases S1 with
    | nil =>
      obtain ⟨o', h1, _⟩ := hk1 (0, 0) _ rfl
      rw [getO_nil] at h1; cases h1
    | cons fr S1 =>
      cases β' with
      | nil => have := hS1.shape.1; simp at this
      | cons bo bΩ =>
        obtain ⟨r', hr', hp'⟩ := hp r fr S1 hpost
        refine ⟨v', r', S1, σ', bΩ, he, hS1.down1, hk1.drop 1, ⟨hst1.size, hst1.os, hst1.output, fun b hb ho => hst1.far b hb (fun x => ho (hO b x)), hst1.near, fun b hb => (hst1.own b (own_down1 hb)).imp (hO b) id⟩, rep_retV hr' hr1, hp'⟩

end
attribute [go_sem] getO_up1 setO_up1 upK_mk ret_tsl_up ret_tsl_0 ret_d ret_any ret_fsl ret_rptr ret_ptr frz_tsl bor_d bor_any bor_ptr bor_fn bor_msl bor_rptr frz_d frz_any frz_fsl frz_ptr frz_fn frz_rptr frz_msl
end Go.Ab
