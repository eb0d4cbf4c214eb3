/-
  ABSTRACT VALUES FOR A WALK, PART 6: arithmetic, comparison, strings, tuples, lengths, slicing, composite literals.
-/
import Derived.Test.YtjfhgcnoielpfaaAbE
import Derived.MapKept
set_option linter.unusedSimpArgs false
set_option linter.unusedVariables false
namespace Go.Ab

section
variable {P : Program} {w : World} {σ : Nat → Nat} {S : Store} {β : Hs}

theorem beqd {α : Type} [BEq α] [LawfulBEq α] [DecidableEq α] (a b : α) : (a == b) = decide (a = b) := by rw [Bool.eq_iff_iff]; simp

theorem does_intOp {op : BinOp} {k : IntKind} {a b : Int} {t : TypeId} (hl : ∀ b, b < w.heap.size ∨ σ b = 0) : Does P (binOp op t (.int k a) (.int k b)) w σ S β (intOp op k a b) := by
  have hi : ∀ (op' : BinOp) (n : Int), ((binOp op t (.int k a) (.int k b)).run P w = .ok (.int k n) w) → Does P (binOp op t (.int k a) (.int k b)) w σ S β (True, .c (.d (.i k n))) :=
    fun _ n h => Does.here hl fun _ => ⟨h, .i _ _, rfl⟩
  have hb : ∀ (x : Bool), ((binOp op t (.int k a) (.int k b)).run P w = .ok (.bool x) w) → Does P (binOp op t (.int k a) (.int k b)) w σ S β (True, .c (.d (.b x))) :=
    fun x h => Does.here hl fun _ => ⟨h, .b _, rfl⟩
  cases op with
  | and => exact hi .add _ (by simp [binOp, Op.intBits, andK, orK, xorK])
  | or => exact hi .add _ (by simp [binOp, Op.intBits, andK, orK, xorK])
  | xor => exact hi .add _ (by simp [binOp, Op.intBits, andK, orK, xorK])
  | shl => intro h; replace h : 0 ≤ b := h; exact hi .add _ (by simp [binOp, Op.shift, Int.not_lt.2 h, shlK, shrK]) trivial
  | shr => intro h; replace h : 0 ≤ b := h; exact hi .add _ (by simp [binOp, Op.shift, Int.not_lt.2 h, shlK, shrK]) trivial
  | add => exact hi .add _ (by simp [binOp, Op.intArith])
  | sub => exact hi .add _ (by simp [binOp, Op.intArith])
  | mul => exact hi .add _ (by simp [binOp, Op.intArith])
  | quo => intro h; replace h : b ≠ 0 := h; exact hi .add _ (by simp [binOp, Op.intDiv, h]) trivial
  | rem => intro h; replace h : b ≠ 0 := h; exact hi .add _ (by simp [binOp, Op.intDiv, h]) trivial
  | eql => exact hb _ (by simp [binOp, Op.intCmp, beqd])
  | neq => exact hb _ (by simp [binOp, Op.intCmp, bne, beqd])
  | lss => exact hb _ (by simp [binOp, Op.intCmp])
  | leq => exact hb _ (by simp [binOp, Op.intCmp])
  | gtr => exact hb _ (by simp [binOp, Op.intCmp])
  | geq => exact hb _ (by simp [binOp, Op.intCmp])
  | _ => exact Does.no

theorem does_shOp {op : BinOp} {k k' : IntKind} {a b : Int} {t : TypeId} (hl : ∀ b, b < w.heap.size ∨ σ b = 0) : Does P (binOp op t (.int k a) (.int k' b)) w σ S β (shOp op k a b) := by
  have hi : ∀ (n : Int), ((binOp op t (.int k a) (.int k' b)).run P w = .ok (.int k n) w) → Does P (binOp op t (.int k a) (.int k' b)) w σ S β (True, .c (.d (.i k n))) :=
    fun n h => Does.here hl fun _ => ⟨h, .i _ _, rfl⟩
  cases op with
  | shl => intro h; replace h : 0 ≤ b := h; exact hi _ (by simp [binOp, Op.shift, Int.not_lt.2 h, shlK, shrK]) trivial
  | shr => intro h; replace h : 0 ≤ b := h; exact hi _ (by simp [binOp, Op.shift, Int.not_lt.2 h, shlK, shrK]) trivial
  | _ => exact Does.no

theorem ba_append (a b : List UInt8) : (⟨a.toArray⟩ : ByteArray) ++ ⟨b.toArray⟩ = ⟨(a ++ b).toArray⟩ := by
  apply ByteArray.ext
  simp [ByteArray.data_append]

theorem does_strOp {op : BinOp} {a b : List UInt8} {t : TypeId} (hl : ∀ b, b < w.heap.size ∨ σ b = 0) : Does P (binOp op t (.string ⟨a.toArray⟩) (.string ⟨b.toArray⟩)) w σ S β (strOp op a b) := by
  have hb : ∀ (x : Bool), ((binOp op t (.string ⟨a.toArray⟩) (.string ⟨b.toArray⟩)).run P w = .ok (.bool x) w) → Does P (binOp op t (.string ⟨a.toArray⟩) (.string ⟨b.toArray⟩)) w σ S β (True, .c (.d (.b x))) :=
    fun x h => Does.here hl fun _ => ⟨h, .b _, rfl⟩
  cases op with
  | add =>
    intro h
    replace h : a.length + b.length ≤ 1099511627776 := h
    refine ⟨_, w, σ, ?_, .refl hl, .s _, rfl⟩
    have h1 : ¬ (IntKind.i64.max < ((a.length + b.length : Nat) : Int)) := by
      have : IntKind.i64.max = 9223372036854775807 := by decide
      omega
    simp only [binOp, Op.stringOp, ByteArray.size, List.size_toArray, gt_iff_lt, if_neg h1, ba_append, Sem.run_pure]
  | eql => exact hb _ (by simp [binOp, Op.stringOp, ByteArray.toList_eq, beqd])
  | neq => exact hb _ (by simp [binOp, Op.stringOp, ByteArray.toList_eq, beqd])
  | lss => exact hb _ (by simp [binOp, Op.stringOp, ByteArray.toList_eq])
  | _ => exact Does.no

theorem does_bin {op : BinOp} {t : TypeId} {ox oy : Operand} {x y : V} {xv yv : Value} (hS : RepS w σ S β) (hx : RepV w σ S β x xv) (hy : RepV w σ S β y yv) :
    Does P (do eqGuard op t ox oy xv yv; binOp op t xv yv) w σ S β (binV P op t x y) := by
  have gi : ∀ k a k' b, (eqGuard op t ox oy (.int k a) (.int k' b)).run P w = .ok () w := fun k a k' b => by unfold eqGuard; cases op <;> rfl
  have gs : ∀ a b, (eqGuard op t ox oy (.string a) (.string b)).run P w = .ok () w := fun a b => by unfold eqGuard; cases op <;> rfl
  have gb : ∀ a b, (eqGuard op t ox oy (.bool a) (.bool b)).run P w = .ok () w := fun a b => by unfold eqGuard; cases op <;> rfl
  unfold binV
  split
  · rename_i k a k' b
    split
    · rename_i hk
      subst hk
      obtain ⟨hx1, _⟩ := hx
      obtain ⟨hy1, _⟩ := hy
      cases hx1; cases hy1
      intro hr
      obtain ⟨v, w', σ', hrun, hg⟩ := does_intOp (P := P) (t := t) hS.live hr
      exact ⟨v, w', σ', by simp [gi, hrun], hg⟩
    · obtain ⟨hx1, _⟩ := hx
      obtain ⟨hy1, _⟩ := hy
      cases hx1; cases hy1
      intro hr
      obtain ⟨v, w', σ', hrun, hg⟩ := does_shOp (P := P) (t := t) (k' := k') hS.live hr
      exact ⟨v, w', σ', by simp [gi, hrun], hg⟩
  · rename_i a b
    obtain ⟨hx1, _⟩ := hx
    obtain ⟨hy1, _⟩ := hy
    cases hx1; cases hy1
    intro hr
    obtain ⟨v, w', σ', hrun, hg⟩ := does_strOp (P := P) (t := t) hS.live hr
    exact ⟨v, w', σ', by simp [gs, hrun], hg⟩
  · rename_i a b
    obtain ⟨hx1, _⟩ := hx
    obtain ⟨hy1, _⟩ := hy
    cases hx1; cases hy1
    split
    · rename_i ht
      refine Does.here hS.live fun _ => ⟨?_, .b _, rfl⟩
      simp only [Sem.run_bind, gb, Result.andThen_ok, binOp]
      show ((Op.equalIn (9999 + 1) t (.bool a) (.bool b)).run P w).andThen _ = _
      rw [Op.equalIn]
      simp [run_underlying ht, beqd]
    · rename_i ht
      refine Does.here hS.live fun _ => ⟨?_, .b _, rfl⟩
      simp only [Sem.run_bind, gb, Result.andThen_ok, binOp]
      show ((Op.equalIn (9999 + 1) t (.bool a) (.bool b)).run P w).andThen _ = _
      rw [Op.equalIn]
      simp [run_underlying ht, beqd]
    · exact Does.no
  · exact Does.no

theorem does_un {op : UnOp} {x : V} {xv : Value} (hS : RepS w σ S β) (hx : RepV w σ S β x xv) : Does P (Op.unary op xv) w σ S β (unV op x) := by
  unfold unV
  split
  · obtain ⟨hx1, _⟩ := hx; cases hx1
    exact Does.here hS.live fun _ => ⟨rfl, .b _, rfl⟩
  · obtain ⟨hx1, _⟩ := hx; cases hx1
    exact Does.here hS.live fun _ => ⟨rfl, .i _ _, rfl⟩
  · exact Does.no

theorem does_conv {s t : TypeId} {x : V} {xv : Value} (hS : RepS w σ S β) (hx : RepV w σ S β x xv) : Does P (convert s t xv) w σ S β (convV P s t x) := by
  unfold convV
  split
  · rename_i d k k' n hs ht
    obtain ⟨hx1, _⟩ := hx; cases hx1
    refine Does.here hS.live fun _ => ⟨?_, .i _ _, rfl⟩
    simp only [convert, Sem.run_bind, run_underlying hs, run_underlying ht, Result.andThen_ok]
    cases d <;> rfl
  · rename_i l hs ht
    obtain ⟨hx1, _⟩ := hx; cases hx1
    refine Does.here hS.live fun _ => ⟨?_, .s _, rfl⟩
    simp [convert, run_underlying hs, run_underlying ht]
  · exact Does.no

theorem does_extract {x : V} {xv : Value} {i : Nat} (hS : RepS w σ S β) (hx : RepV w σ S β x xv) : Does P (Instr.extract xv i) w σ S β (extractV x i) := by
  unfold extractV
  split
  · rename_i xs
    obtain ⟨a, rfl, hl, h2⟩ := hx
    split
    · rename_i cs hi
      obtain ⟨u, hu, a', rfl, hc⟩ := h2 i _ hi
      exact Does.here hS.live fun _ => ⟨by simp [Instr.extract, hu], a', rfl, hc⟩
    · rename_i c hi
      obtain ⟨u, hu, y, hy, hc, ho⟩ := h2 i _ hi
      cases hy
      exact Does.here hS.live fun _ => ⟨by simp [Instr.extract, hu], hc, ho⟩
    · exact Does.no
  · exact Does.no

theorem rep_caps : ∀ (caps : List V) (l : List (Key × Nat)), caps.mapM capOf = some l → ∀ (vs : List Value), caps.length = vs.length → (∀ (j : Nat) (x : V), caps[j]? = some x → ∃ v, vs[j]? = some v ∧ RepV w σ S β x v) →
    l.length = vs.length ∧ ∀ (j : Nat) (k : Key) (off : Nat), l[j]? = some (k, off) → ∃ u : Value, vs[j]? = some u ∧ u.oneCell' = true ∧ ∃ o, getO S k = some o ∧ ∀ cs, o = .box cs → ∃ b, getO β k = some (Value.pointer (some ⟨b, 0, none⟩)) ∧ u = Value.pointer (some ⟨b, off, none⟩)
  | [], l, h, vs, hl, _ => by
    simp at h; subst h
    exact ⟨hl, fun j k off e => by simp at e⟩
  | x :: caps, l, h, [], hl, _ => by simp at hl
  | x :: caps, l, h, v :: vs, hl, hv => by
    rw [List.mapM_cons] at h
    cases hx : capOf x with
    | none => rw [hx] at h; simp at h
    | some ko =>
      cases hm : caps.mapM capOf with
      | none => rw [hx, hm] at h; simp at h
      | some l' =>
        rw [hx, hm] at h
        simp at h
        subst h
        obtain ⟨hl', hj'⟩ := rep_caps caps l' hm vs (by simpa using hl) (fun j x hx => hv (j + 1) x hx)
        refine ⟨by simp [hl'], fun j k off e => ?_⟩
        cases j with
        | zero =>
          simp at e; subst e
          obtain ⟨u, hu, hr⟩ := hv 0 x rfl
          refine ⟨u, hu, ?_⟩
          unfold capOf at hx
          split at hx
          · cases hx; exact ⟨hr.2, hr.1⟩
          · cases hx
        | succ j => exact hj' j k off e

theorem does_makeFunc {fn : Fn} {first caps : List V} {fv cv : List Value} (hS : RepS w σ S β) (hf : first.length = fv.length) (hl : caps.length = cv.length)
    (hc : ∀ (j : Nat) (x : V), caps[j]? = some x → ∃ v, cv[j]? = some v ∧ RepV w σ S β x v) : Does P (Instr.makeFunc fn fv.toArray cv.toArray) w σ S β (makeFuncV fn first caps) := by
  unfold makeFuncV
  split
  · rename_i f
    split
    · rename_i l hm
      have : fv = [] := by cases fv with | nil => rfl | cons => simp at hf
      subst this
      obtain ⟨h1, h2⟩ := rep_caps caps l hm cv hl hc
      exact Does.here hS.live fun _ => ⟨rfl, ⟨_, rfl, by simpa using h1.symm, fun j k off e => by simpa using h2 j k off e⟩, rfl⟩
    · exact Does.no
  · exact Does.no

theorem mp_keys {es : Array MapEntry} {m : List (List UInt8)} (hes : es.toList.map (fun e => (e.key, e.val)) = m.map (fun l => (Value.string ⟨l.toArray⟩, Value.bool true))) :
    (∀ e ∈ es.toList, MapKept.IsKey .string e.key) ∧ (∀ e ∈ es.toList, e.val = .bool true) ∧ ∀ l : List UInt8, l ∈ m ↔ ∃ e ∈ es.toList, e.key = .string ⟨l.toArray⟩ := by
  have h1 : ∀ e ∈ es.toList, ∃ l ∈ m, e.key = .string ⟨l.toArray⟩ ∧ e.val = .bool true := fun e he => by
    have := List.mem_map_of_mem (f := fun e : MapEntry => (e.key, e.val)) he
    rw [hes] at this
    obtain ⟨l, hl, e1⟩ := List.mem_map.1 this
    injection e1 with e1 e2
    exact ⟨l, hl, e1.symm, e2.symm⟩
  refine ⟨fun e he => ?_, fun e he => (h1 e he).choose_spec.2.2, fun l => ⟨fun hl => ?_, fun ⟨e, he, hk⟩ => ?_⟩⟩
  · obtain ⟨l, _, h, _⟩ := h1 e he
    rw [h]; trivial
  · have := List.mem_map_of_mem (f := fun l : List UInt8 => (Value.string ⟨l.toArray⟩, Value.bool true)) hl
    rw [← hes] at this
    obtain ⟨e, he, e1⟩ := List.mem_map.1 this
    injection e1 with e1 e2
    exact ⟨e, he, e1⟩
  · obtain ⟨l', hl, h, _⟩ := h1 e he
    rw [h] at hk
    injection hk with hk
    injection hk with hk
    have : l' = l := by simpa using congrArg Array.toList hk
    rw [← this]; exact hl

theorem does_lookup {t : TypeId} {x i : V} {xv iv : Value} (hS : RepS w σ S β) (hx : RepV w σ S β x xv) (hi : RepV w σ S β i iv) : Does P (Instr.lookup t xv iv false) w σ S β (lookupV P S t x i) := by
  unfold lookupV
  split
  · rename_i kt et k l ht
    split
    · rename_i m hk hkt hz
      obtain ⟨⟨o, ho, h2⟩, _⟩ := hx
      rw [hk] at ho; cases ho
      have hh := h2 m rfl
      obtain ⟨h, hh', hr⟩ := hS.obj k _ hk
      rw [hh] at hh'; cases hh'
      obtain ⟨b, es, clock, rfl, hb, _, hes⟩ := hr
      obtain ⟨hi1, _⟩ := hi
      cases hi1
      refine Does.here (v := .bool (decide (l ∈ m))) hS.live fun _ => ?_
      obtain ⟨hks, hvs, hmem⟩ := mp_keys hes
      have hkey : MapKept.IsKey .string (.string ⟨l.toArray⟩) := trivial
      have hzr : (zeroValue et).run P w = .ok (.bool false) w := by
        unfold zeroV at hz
        cases hi : P.info? et with
        | none => rw [hi] at hz; cases hz
        | some info =>
          rw [hi] at hz
          simp only [Option.bind_some] at hz
          simp [zeroValue, typeInfo, hi, hz]
      rcases MapKept.findNow_spec hkey es.toList 0 hks with ⟨h1, h3⟩ | ⟨j, e0, h1, h3, h4⟩
      · have hn : l ∉ m := fun hl => by
          obtain ⟨e, he, hke⟩ := (hmem l).1 hl
          exact h3 e he hke
        refine ⟨?_, .b _, rfl⟩
        rw [decide_eq_false hn]
        simp [Instr.lookup, run_underlying ht, MapKept.run_getObj_map hb, MapKept.run_checkKey hkt hkey, MapKept.run_findKey hkt h1, hzr, Result.andThen]
      · have he0 : e0 ∈ es.toList := List.mem_of_getElem? h3
        have hy : l ∈ m := (hmem l).2 ⟨e0, he0, h4⟩
        have hv := hvs e0 he0
        refine ⟨?_, .b _, rfl⟩
        rw [decide_eq_true hy]
        simp [Instr.lookup, run_underlying ht, MapKept.run_getObj_map hb, MapKept.run_checkKey hkt hkey, MapKept.run_findKey hkt h1, Result.andThen, hv]
    · exact Does.no
  · exact Does.no

theorem does_max {ts : Array TypeId} {ty : TypeId} {x y : V} {xv yv : Value} (hS : RepS w σ S β) (hx : RepV w σ S β x xv) (hy : RepV w σ S β y yv) : Does P (Builtin.max_ ts ty #[xv, yv]) w σ S β (maxV true x y) := by
  unfold maxV
  split
  · rename_i k a k' b
    obtain ⟨hx1, _⟩ := hx; cases hx1
    obtain ⟨hy1, _⟩ := hy; cases hy1
    have e : (if b > a then b else a) = max a b := by split <;> omega
    exact Does.here hS.live fun _ => ⟨by simp [Builtin.max_, Builtin.max2, ← e], .i _ _, rfl⟩
  · exact Does.no
theorem does_min {ts : Array TypeId} {ty : TypeId} {x y : V} {xv yv : Value} (hS : RepS w σ S β) (hx : RepV w σ S β x xv) (hy : RepV w σ S β y yv) : Does P (Builtin.min_ ts ty #[xv, yv]) w σ S β (maxV false x y) := by
  unfold maxV
  split
  · rename_i k a k' b
    obtain ⟨hx1, _⟩ := hx; cases hx1
    obtain ⟨hy1, _⟩ := hy; cases hy1
    have e : (if b < a then b else a) = min a b := by split <;> omega
    exact Does.here hS.live fun _ => ⟨by simp [Builtin.min_, Builtin.min2, ← e], .i _ _, rfl⟩
  · exact Does.no

theorem does_len {t ty : TypeId} {x : V} {xv : Value} (hS : RepS w σ S β) (hx : RepV w σ S β x xv) : Does P (Builtin.len_ #[t] ty #[xv]) w σ S β (lenV P S t x) := by
  unfold lenV
  split
  · rename_i l ht
    obtain ⟨hx1, _⟩ := hx; cases hx1
    refine Does.here hS.live fun _ => ⟨?_, .i _ _, rfl⟩
    have hsz : (⟨l.toArray⟩ : ByteArray).size = l.length := List.size_toArray
    simp [Builtin.len_, run_underlying ht, goInt, hsz]
  · rename_i n e ht
    exact Does.here hS.live fun _ => ⟨by simp [Builtin.len_, run_underlying ht, goInt], .i _ _, rfl⟩
  · rename_i e k ht
    split
    · rename_i esz es hk
      obtain ⟨⟨o, ho, h2⟩, _⟩ := hx
      rw [hk] at ho; cases ho
      have hh := h2 esz es rfl
      obtain ⟨h, hh', hr⟩ := hS.obj k _ hk
      rw [hh] at hh'; cases hh'
      obtain ⟨b, c, ty, cap, rfl, _⟩ := hr
      exact Does.here hS.live fun _ => ⟨by simp [Builtin.len_, run_underlying ht, goInt], .i _ _, rfl⟩
    · exact Does.no
  · rename_i e x _ ht
    split
    · rename_i es hes
      have hd := rep_sliceC hes hx.1
      cases hd with
      | nil a cap => exact Does.here hS.live fun _ => ⟨by simp [Builtin.len_, run_underlying ht, goInt], .i _ _, rfl⟩
      | sl b off cap esz es vals c ty fz hcap hlen hb hσ hc hv => exact Does.here hS.live fun _ => ⟨by simp [Builtin.len_, run_underlying ht, goInt], .i _ _, rfl⟩
    · exact Does.no
  · exact Does.no

theorem run_sliceBound' (k : IntKind) (n : Int) (y : Nat) (code : BoundsCode) (h0 : 0 ≤ n) (h1 : n ≤ y) : (Instr.sliceBound (.int k n) y code).run P w = .ok n.toNat w := by
  simp [Instr.sliceBound, asIntOf, h0, h1]

theorem rep_int {x : V} {n : Int} {v : Value} (h : intOr (some x) 0 = some n ∨ ∃ d, intOr (some x) d = some n) (hx : RepV w σ S β x v) : ∃ k, v = .int k n := by
  have h' : ∃ d, intOr (some x) d = some n := h.elim (fun h => ⟨0, h⟩) id
  obtain ⟨d, h'⟩ := h'
  unfold intOr at h'
  split at h'
  · rename_i h; cases h
  · rename_i k n' he
    cases he; cases h'
    obtain ⟨hx1, _⟩ := hx
    cases hx1
    exact ⟨_, rfl⟩
  · cases h'

def RepO (w : World) (σ : Nat → Nat) (S : Store) (β : Hs) : Option V → Option Value → Prop
  | none, none => True
  | some x, some v => RepV w σ S β x v
  | _, _ => False

theorem run_bounds {isS : Bool} {len cap : Nat} {lo hi : Option V} {lv hv : Option Value} {a b : Int} (hlo : RepO w σ S β lo lv) (hhi : RepO w σ S β hi hv)
    (ha : intOr lo 0 = some a) (hb : intOr hi len = some b) (h0 : 0 ≤ a) (h1 : a ≤ b) (h2 : b ≤ len) (h3 : len ≤ cap) :
    (Instr.sliceBounds isS len cap lv hv none).run P w = .ok (a.toNat, b.toNat, cap) w := by
  have hbc : b ≤ (cap : Int) := by omega
  have hab : a ≤ ((b.toNat : Nat) : Int) := by omega
  cases hi with
  | none =>
    cases hv with
    | some v => exact hhi.elim
    | none =>
      cases hb
      cases lo with
      | none =>
        cases lv with
        | some v => exact hlo.elim
        | none => cases ha; simp [Instr.sliceBounds]
      | some x =>
        cases lv with
        | none => exact hlo.elim
        | some v =>
          obtain ⟨k, rfl⟩ := rep_int (.inl ha) hlo
          simp [Instr.sliceBounds, run_sliceBound' k a len .sliceB h0 h1]
  | some y =>
    cases hv with
    | none => exact hhi.elim
    | some v =>
      obtain ⟨k, rfl⟩ := rep_int (.inr ⟨_, hb⟩) hhi
      have hb0 : 0 ≤ b := by omega
      cases lo with
      | none =>
        cases lv with
        | some v => exact hlo.elim
        | none => cases ha; cases isS <;> simp [Instr.sliceBounds, run_sliceBound' k b cap _ hb0 hbc]
      | some x =>
        cases lv with
        | none => exact hlo.elim
        | some v =>
          obtain ⟨k', rfl⟩ := rep_int (.inl ha) hlo
          cases isS <;> simp [Instr.sliceBounds, run_sliceBound' k b cap _ hb0 hbc, run_sliceBound' k' a b.toNat .sliceB h0 hab]

theorem flat_drop {α : Type} (es : List (List α)) (esz : Nat) (h : ∀ e ∈ es, e.length = esz) (n : Nat) (hn : n ≤ es.length) (j : Nat) : ((es.drop n).flatten)[j]? = es.flatten[n * esz + j]? := by
  have : es.flatten = (es.take n).flatten ++ (es.drop n).flatten := by rw [← List.flatten_append, List.take_append_drop]
  rw [this]
  have hl : (es.take n).flatten.length = n * esz := by
    rw [flat_len _ esz (fun e he => h e (List.mem_of_mem_take he)), List.length_take, Nat.min_eq_left hn]
  rw [List.getElem?_append_right (by omega), hl, Nat.add_sub_cancel_left]

theorem does_slice {t : TypeId} {x : V} {lo hi mx : Option V} {xv : Value} {lv hv mv : Option Value} (hS : RepS w σ S β) (hx : RepV w σ S β x xv) (hlo : RepO w σ S β lo lv) (hhi : RepO w σ S β hi hv)
    (hmx : RepO w σ S β mx mv) : Does P (Instr.sliceAt t xv lv hv mv) w σ S β (sliceV P t x lo hi mx) := by
  unfold sliceV
  split
  · rename_i l ht
    cases mv with
    | some v => exact hmx.elim
    | none =>
      obtain ⟨hx1, _⟩ := hx; cases hx1
      split
      · rename_i a b ha hb
        rintro ⟨h0, h1, h2⟩
        refine ⟨_, w, σ, ?_, .refl hS.live, .s _, rfl⟩
        have hsz : (⟨l.toArray⟩ : ByteArray).size = l.length := List.size_toArray
        have hb' := run_bounds (P := P) (isS := false) hlo hhi ha hb h0 h1 h2 (Nat.le_refl l.length)
        simp only [Instr.sliceAt, Instr.slice, Sem.run_bind, run_underlying ht, Result.andThen_ok, hsz]
        simp only [Option.isSome_none, Bool.false_eq_true, if_false, Sem.run_bind, Sem.run_pure, Result.andThen_ok, hb']
        congr 2
        apply ByteArray.ext
        apply Array.ext'
        rw [ByteArray.data_extract]
        simp [List.drop_take]
      · exact Does.no
  · rename_i e x ht
    cases mv with
    | some v => exact hmx.elim
    | none =>
      split
      · rename_i es hes
        split
        · rename_i a b ha hb
          have hd := rep_sliceC hes hx.1
          intro ⟨h0, h1, h2, h3, h4⟩
          cases hd with
          | nil a' cap =>
            have hb' := run_bounds (P := P) (isS := true) hlo hhi ha hb h0 h1 h2 (Nat.zero_le cap)
            have hb0 : b = 0 := by simp at h2; omega
            have ha0 : a = 0 := by omega
            refine ⟨.slice (if cap = a.toNat then a' else a'.map (·.add (a.toNat * P.cellsOf e))) (b.toNat - a.toNat) (cap - a.toNat), w, σ, ?_, .refl hS.live, ?_, ?_⟩
            · simp only [Instr.sliceAt, Instr.slice, Sem.run_bind, run_underlying ht, Result.andThen_ok, List.length_nil] at hb' ⊢
              simp only [hb', Result.andThen_ok, Sem.run_bind, run_sizeOf' h4, Sem.run_pure]
            · subst hb0; subst ha0; simp; exact .nil _ _
            · rfl
          | sl bl off cap esz es vals c ty fz hcap hlen hbk hσ hc hv =>
            have hb' := run_bounds (P := P) (isS := true) hlo hhi ha hb h0 h1 h2 hcap
            have hal : a.toNat ≤ es.length := by omega
            have hbl : b.toNat ≤ es.length := by omega
            have hesz : es = [] ∨ esz = P.cellsOf e := by
              cases es with
              | nil => exact .inl rfl
              | cons y ys => exact .inr (by rw [← hlen y (by simp), h3 y (by simp)])
            have hln : ((es.take b.toNat).drop a.toNat).length = b.toNat - a.toNat := by simp; omega
            refine ⟨.slice (if cap = a.toNat then some ⟨bl, off, none⟩ else some ⟨bl, off + a.toNat * P.cellsOf e, none⟩) (b.toNat - a.toNat) (cap - a.toNat), w, σ, ?_, .refl hS.live, ?_, rfl⟩
            · simp only [Instr.sliceAt, Instr.slice, Sem.run_bind, run_underlying ht, Result.andThen_ok, hb', run_sizeOf' h4, Sem.run_pure]
              split
              · rfl
              · simp [addr_add]
            · by_cases hz : b.toNat - a.toNat = 0
              · have : ((es.take b.toNat).drop a.toNat) = [] := List.eq_nil_of_length_eq_zero (by omega)
                simp only [this, hz]
                exact .nil _ _
              · have hcap' : cap ≠ a.toNat := by omega
                have hne : es ≠ [] := by intro e; subst e; simp at hbl; omega
                have he : esz = P.cellsOf e := hesz.resolve_left hne
                rw [if_neg hcap']
                show RepD w σ _ _
                rw [← hln, ← he]
                have hmul : a.toNat * esz + (b.toNat - a.toNat) * esz ≤ es.length * esz := by
                  rw [← Nat.add_mul]; exact Nat.mul_le_mul_right _ (by omega)
                have hlt' : ∀ e ∈ es.take b.toNat, e.length = esz := fun e he => hlen e (List.mem_of_mem_take he)
                refine .sl bl (off + a.toNat * esz) (cap - a.toNat) esz _ (fun j => vals (a.toNat * esz + j)) c ty fz (by omega) (fun e he => hlen e (List.mem_of_mem_take (List.mem_of_mem_drop he))) hbk ?_ ?_ ?_
                · rw [hln]; omega
                · intro j hj
                  rw [hln] at hj
                  rw [Nat.add_assoc]
                  exact hc _ (by omega)
                · intro j d hj
                  rw [flat_drop _ esz hlt' _ (by simp; omega)] at hj
                  have hj2 : es.flatten[a.toNat * esz + j]? = some d := by
                    have hsplit : es.flatten = (es.take b.toNat).flatten ++ (es.drop b.toNat).flatten := by rw [← List.flatten_append, List.take_append_drop]
                    rw [hsplit, List.getElem?_append_left (List.getElem?_eq_some_iff.1 hj).1]
                    exact hj
                  exact hv _ d hj2
        · exact Does.no
      · exact Does.no
  · exact Does.no
end
end Go.Ab
