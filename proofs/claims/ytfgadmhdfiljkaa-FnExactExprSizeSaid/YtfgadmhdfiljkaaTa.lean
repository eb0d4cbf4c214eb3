/-
  TYPING: data of a type of the laws' package are the cells of a datum of the Lean type. Printed by program (wip/tool/wtgen.py).
-/
import Derived.Test.YtfgadmhdfiljkaaDa
import Derived.Test.YtfgadmhdfiljkaaFa
set_option linter.unusedSimpArgs false
set_option linter.unusedVariables false
namespace Go.Ab

theorem wt_pos {P : Program} {n : Nat} {t : TypeId} {ds : List D} (h : WT P n t ds) : ∃ m, n = m + 1 := by
  cases n with
  | zero => exact h.elim
  | succ m => exact ⟨m, rfl⟩
theorem wt_bool {P : Program} {n : Nat} {t : TypeId} {ds : List D} (ht : P.underlying t = some .bool) (h : WT P n t ds) : ∃ b, ds = [.b b] := by
  obtain ⟨m, rfl⟩ := wt_pos h
  simp only [WT, ht] at h; exact h
theorem wt_int {P : Program} {n : Nat} {t : TypeId} {k : IntKind} {ds : List D} (ht : P.underlying t = some (.int k)) (h : WT P n t ds) : ∃ x, ds = [.i k x] ∧ (Lit.int k x).wf = true := by
  obtain ⟨m, rfl⟩ := wt_pos h
  simp only [WT, ht] at h; exact h
theorem wt_string {P : Program} {n : Nat} {t : TypeId} {ds : List D} (ht : P.underlying t = some .string) (h : WT P n t ds) : ∃ l, ds = [.s l] := by
  obtain ⟨m, rfl⟩ := wt_pos h
  simp only [WT, ht] at h; exact ⟨h.choose, h.choose_spec.1⟩
theorem wt_slice {P : Program} {n : Nat} {t e : TypeId} {ds : List D} (ht : P.underlying t = some (.slice e)) (h : WT P n t ds) : ∃ es m, m < n ∧ ds = [.sl es] ∧ ∀ x ∈ es, WT P m e x := by
  obtain ⟨m, rfl⟩ := wt_pos h
  simp only [WT, ht] at h
  obtain ⟨es, h1, _, h2⟩ := h
  exact ⟨es, m, by omega, h1, fun x hx => (h2 x hx).2⟩
theorem wt_struct {P : Program} {n : Nat} {t : TypeId} {fs : Array Field} {ds : List D} (ht : P.underlying t = some (.struct fs)) (h : WT P n t ds) : ∃ m, m < n ∧ WTF P (WT P m) fs.toList ds := by
  obtain ⟨m, rfl⟩ := wt_pos h
  simp only [WT, ht] at h
  exact ⟨m, by omega, h⟩
theorem list_enc {α : Type} {enc : α → List D} : ∀ {es : List (List D)}, (∀ x ∈ es, ∃ m, x = enc m) → ∃ ms : List α, es = ms.map enc
  | [], _ => ⟨[], rfl⟩
  | e :: es, h => by
    obtain ⟨m, hm⟩ := h e (by simp)
    obtain ⟨ms, hms⟩ := list_enc (es := es) fun x hx => h x (by simp [hx])
    exact ⟨m :: ms, by rw [List.map_cons, ← hm, ← hms]⟩

theorem wtf_fit {P : Program} {W : TypeId → List D → Prop} (hW : ∀ t ds, W t ds → FitL ds) : ∀ (fs : List Field) (ds : List D), WTF P W fs ds → FitL ds
  | [], ds, h => by
    have h : ds = [] := h
    rw [h]; exact fitL_nil
  | f :: fs, ds, h => by
    obtain ⟨a, b, rfl, _, h1, h2⟩ := h
    exact fitL_append.2 ⟨hW _ _ h1, wtf_fit hW fs b h2⟩
theorem wt_fit {P : Program} : ∀ (n : Nat) (t : TypeId) (ds : List D), WT P n t ds → FitL ds
  | 0, t, ds, h => h.elim
  | n + 1, t, ds, h => by
    simp only [WT] at h
    split at h
    · obtain ⟨b, rfl⟩ := h; exact fitL_cons.2 ⟨.b _, fitL_nil⟩
    · obtain ⟨b, rfl, _⟩ := h; exact fitL_cons.2 ⟨.i _ _, fitL_nil⟩
    · obtain ⟨l, rfl, hl⟩ := h; exact fitL_cons.2 ⟨.s _ hl, fitL_nil⟩
    · obtain ⟨es, rfl, hl, hh⟩ := h
      exact fitL_cons.2 ⟨.sl _ hl fun e he d hd => wt_fit n _ e (hh e he).2 d hd, fitL_nil⟩
    · exact wtf_fit (wt_fit n) _ _ h
    · exact h.elim
end Go.Ab
namespace Go.Proofs.Ytfgadmhdfiljkaa
open Go Go.Ab

theorem wt_Type : ∀ (n : Nat) (ds : List D), WT Try.prog n 26 ds → ∃ x : MType, ds = x.enc := by
  intro n
  induction n using Nat.strongRecOn with
  | _ n ih =>
    intro ds h
    obtain ⟨m, hm, h⟩ := wt_struct Try.underlying26 h
    simp only [WTF] at h
    obtain ⟨a0, r0, rfl, l0, h0, a1, r1, rfl, l1, h1, a2, r2, rfl, l2, h2, rfl⟩ := h
    obtain ⟨x0, rfl, _⟩ := wt_int Try.underlying3 h0
    obtain ⟨x1, rfl⟩ := wt_string Try.underlying9 h1
    obtain ⟨es2, m2, hm2, rfl, hs2⟩ := wt_slice Try.underlying24 h2
    obtain ⟨x2, rfl⟩ := list_enc (enc := MType.enc) fun y hy => ih m2 (by omega) y (hs2 y hy)
    refine ⟨MType.mk x0 x1 x2, ?_⟩
    rw [MType.enc_eq]
    simp [MType.fKind, MType.fName, MType.fArgs]
theorem wt_Bound : ∀ (n : Nat) (ds : List D), WT Try.prog n 35 ds → ∃ x : MBound, ds = x.enc := by
  intro n
  induction n using Nat.strongRecOn with
  | _ n ih =>
    intro ds h
    obtain ⟨m, hm, h⟩ := wt_struct Try.underlying35 h
    simp only [WTF] at h
    obtain ⟨a0, r0, rfl, l0, h0, a1, r1, rfl, l1, h1, rfl⟩ := h
    obtain ⟨x0, rfl⟩ := wt_string Try.underlying9 h0
    obtain ⟨x1, rfl⟩ := wt_Type m a1 h1
    refine ⟨MBound.mk x0 x1, ?_⟩
    rw [MBound.enc_eq]
    simp
theorem wt_ExprArm : ∀ (n : Nat), (∀ ds : List D, WT Try.prog n 46 ds → ∃ x : MExpr, ds = x.enc) ∧ (∀ ds : List D, WT Try.prog n 90 ds → ∃ x : MArm, ds = x.enc) := by
  intro n
  induction n using Nat.strongRecOn with
  | _ n ih =>
    refine ⟨fun ds h => ?_, fun ds h => ?_⟩
    · obtain ⟨m, hm, h⟩ := wt_struct Try.underlying46 h
      simp only [WTF] at h
      obtain ⟨a0, r0, rfl, l0, h0, a1, r1, rfl, l1, h1, a2, r2, rfl, l2, h2, a3, r3, rfl, l3, h3, a4, r4, rfl, l4, h4, a5, r5, rfl, l5, h5, a6, r6, rfl, l6, h6, rfl⟩ := h
      obtain ⟨x0, rfl, _⟩ := wt_int Try.underlying3 h0
      obtain ⟨x1, rfl⟩ := wt_string Try.underlying9 h1
      obtain ⟨x2, rfl⟩ := wt_string Try.underlying9 h2
      obtain ⟨x3, rfl, _⟩ := wt_int Try.underlying3 h3
      obtain ⟨x4, rfl⟩ := wt_Type m a4 h4
      obtain ⟨es5, m5, hm5, rfl, hs5⟩ := wt_slice Try.underlying43 h5
      obtain ⟨x5, rfl⟩ := list_enc (enc := MExpr.enc) fun y hy => (ih m5 (by omega)).1 y (hs5 y hy)
      obtain ⟨es6, m6, hm6, rfl, hs6⟩ := wt_slice Try.underlying44 h6
      obtain ⟨x6, rfl⟩ := list_enc (enc := MArm.enc) fun y hy => (ih m6 (by omega)).2 y (hs6 y hy)
      refine ⟨MExpr.mk x0 x1 x2 x3 x4 x5 x6, ?_⟩
      rw [MExpr.enc_eq]
      simp [MExpr.fKind, MExpr.fTrait, MExpr.fName, MExpr.fN, MExpr.fType, MExpr.fArgs, MExpr.fArms]
    · obtain ⟨m, hm, h⟩ := wt_struct Try.underlying90 h
      simp only [WTF] at h
      obtain ⟨a0, r0, rfl, l0, h0, a1, r1, rfl, l1, h1, a2, r2, rfl, l2, h2, rfl⟩ := h
      obtain ⟨x0, rfl⟩ := wt_string Try.underlying9 h0
      obtain ⟨es1, m1, hm1, rfl, hs1⟩ := wt_slice Try.underlying63 h1
      obtain ⟨x1, rfl⟩ := list_enc (enc := encS) fun y hy => wt_string Try.underlying9 (hs1 y hy)
      obtain ⟨x2, rfl⟩ := (ih m (by omega)).1 a2 h2
      refine ⟨MArm.mk x0 x1 x2, ?_⟩
      rw [MArm.enc_eq]
      simp [MArm.fConstructor, MArm.fVars, MArm.fBody]
theorem wt_Expr (n : Nat) (ds : List D) (h : WT Try.prog n 46 ds) : ∃ x : MExpr, ds = x.enc := (wt_ExprArm n).1 ds h
theorem wt_Arm (n : Nat) (ds : List D) (h : WT Try.prog n 90 ds) : ∃ x : MArm, ds = x.enc := (wt_ExprArm n).2 ds h
end Go.Proofs.Ytfgadmhdfiljkaa
