/-
  ABSTRACT VALUES FOR A WALK, PART 12: the judgement on a piece of code, the judgement on a call, and one operation at a time.
-/
import Derived.Test.YtjfhgcnoielpfaaAbK
import Derived.IntWalk
import Derived.Laws.Externs
set_option linter.unusedSimpArgs false
set_option linter.unusedVariables false
namespace Go.Ab

def newObj (s : St) (dst : Option Nat) (o : Obj) (mk : Key → V) (K : St → Prop) : Prop :=
  match s.st with
  | own :: Ω => K (St.put ⟨s.tm, (own ++ [o]) :: Ω⟩ dst (mk (0, own.length)))
  | [] => False

def allocW (P : Program) (t : TypeId) (s : St) (dst : Option Nat) (K : St → Prop) : Prop :=
  match zeroCs P t with
  | some zs => newObj s dst (.box zs) (fun k => .c (.ptr k 0)) K
  | none => False

def boxW (v : V) (s : St) (dst : Option Nat) (K : St → Prop) : Prop :=
  match cellsV v with
  | some cs => newObj s dst (.box cs) (fun k => .c (.ptr k 0)) K
  | none => False

def storeW (P : Program) (t : TypeId) (a x : V) (s : St) (dst : Option Nat) (K : St → Prop) : Prop :=
  match a with
  | .c (.ptr k off) =>
    match getO s.st k, (cellsV x).bind (·.mapM (C.down k.1)) with
    | some (.box cs), some xs => xs.length = P.cellsOf t ∧ off + xs.length ≤ cs.length ∧ (P.info? t).isSome = true ∧ K (St.put ⟨s.tm, setO s.st k (.box (splice cs off xs))⟩ dst (.tup []))
    | _, _ => False
  | .c (.eptr k i off) =>
    match getO s.st k, (cellsV x).bind (·.mapM toD) with
    | some (.mrow esz es), some ds => ds.length = P.cellsOf t ∧ off + ds.length ≤ esz ∧ i < es.length ∧ (P.info? t).isSome = true ∧
        K (St.put ⟨s.tm, setO s.st k (.mrow esz (es.set i (spliceD (es.getD i []) off ds)))⟩ dst (.tup []))
    | _, _ => False
  | _ => False

def makeW (P : Program) (t : TypeId) (l c : V) (s : St) (dst : Option Nat) (K : St → Prop) : Prop :=
  match P.underlying t, l, c with
  | some (.slice e), .c (.d (.i _ n)), .c (.d (.i _ m)) =>
    match (zeroCs P e).bind (·.mapM toD) with
    | some zd => zd.length = P.cellsOf e ∧ P.bytesOf e ≤ 4096 ∧ 0 ≤ n ∧ n ≤ 1073741824 ∧ n = m ∧ newObj s dst (.mrow (P.cellsOf e) (List.replicate n.toNat zd)) (fun k => .c (.msl k)) K
    | none => False
  | _, _, _ => False

def mapNewW (s : St) (dst : Option Nat) (K : St → Prop) : Prop := newObj s dst (.mp []) (fun k => .c (.mp k)) K

/-- A word put into the set. -/
def addW (l : List UInt8) (m : List (List UInt8)) : List (List UInt8) := if l ∈ m then m else m ++ [l]

def mapPutW (P : Program) (t : TypeId) (x k v : V) (s : St) (dst : Option Nat) (K : St → Prop) : Prop :=
  match P.underlying t, x, k, v with
  | some (.map kt _), .c (.mp key), .c (.d (.s l)), .c (.d (.b true)) =>
    match getO s.st key, P.underlying kt with
    | some (.mp m), some .string => K (St.put ⟨s.tm, setO s.st key (.mp (addW l m))⟩ dst (.tup []))
    | _, _ => False
  | _, _, _, _ => False

def srcV (P : Program) (u : TypeId) (v : V) : Option (List (List D)) :=
  match P.underlying u, v with
  | some (.slice _), .c x => sliceC x
  | some .string, .c (.d (.s l)) => some (l.map fun b => [D.i .u8 b.toNat])
  | _, _ => none

def appendW (P : Program) (t u : TypeId) (x y : V) (s : St) (dst : Option Nat) (K : St → Prop) : Prop :=
  match P.underlying t, srcV P u y with
  | some (.slice e), some ys =>
    (∀ y ∈ ys, y.length = P.cellsOf e) ∧ P.bytesOf e ≤ 4096 ∧ (∃ zs, zeroCs P e = some zs ∧ zs.length = P.cellsOf e) ∧
    match x with
    | .c (.tsl k es) =>
      match getO s.st k with
      | some (.tok esz es') => esz = P.cellsOf e ∧ es' = es ∧ es.length + ys.length ≤ 1073741824 ∧ K (St.put ⟨s.tm, setO s.st k (.tok esz (es ++ ys))⟩ dst (.c (.tsl k (es ++ ys))))
      | _ => False
    | .c (.fsl es) => (∀ y ∈ es, y.length = P.cellsOf e) ∧ es.length + ys.length ≤ 1073741824 ∧ newObj s dst (.tok (P.cellsOf e) (es ++ ys)) (fun k => .c (.tsl k (es ++ ys))) K
    | _ => False
  | _, _ => False

def Known (P : Program) (f : FuncId) : Prop := ∃ fn, P.funcs[f]? = some fn ∧ (fn.name == "runtime.NumGoroutine") = false ∧ fn.body.isSome = true

/-- The values stand for the arguments. -/
def RepVs (w : World) (σ : Nat → Nat) (S : Store) (β : Hs) (xs : List V) (vs : List Value) : Prop :=
  xs.length = vs.length ∧ ∀ (j : Nat) (x : V), xs[j]? = some x → ∃ v : Value, vs[j]? = some v ∧ RepV w σ S β x v

/-- A call of function f with these abstract arguments, the stack of objects being S, returns an abstract value and leaves a stack as 'post' says. -/
def ACall (P : Program) (f : FuncId) (args : List V) (S : Store) (post : V → Store → Prop) : Prop :=
  Known P f ∧ ∀ w σ β vs, RepS w σ S β → RepVs w σ S β args vs →
    Calls P f vs.toArray w fun e w' => ∃ v r S' σ' β', e = .returned v ∧ RepS w' σ' S' β' ∧ Keep S β S' β' ∧ Step S β σ w S' β' σ' w' ∧ RepV w' σ' S' β' r v ∧ post r S'

/-- A call that only computes. -/
def PCall (P : Program) (f : FuncId) (args : List V) (r : V) : Prop := ∀ S, ACall P f args S fun r' S' => r' = r ∧ S' = S

/-- A call of a function without a body for which the model stands in: it only computes. -/
def XCall (P : Program) (f : FuncId) (args : List V) (r : V) : Prop :=
  ∃ fn e, P.funcs[f]? = some fn ∧ (fn.name == "runtime.NumGoroutine") = false ∧ fn.body.isNone = true ∧ Extern.findNext fn = none ∧ Extern.find fn = some e ∧
    ∀ w σ S β vs, RepS w σ S β → RepVs w σ S β args vs → ∃ v, (e vs.toArray).run P w = .ok v w ∧ RepV w σ S β r v

def CallW (P : Program) (f : FuncId) (args : List V) (s : St) (dst : Option Nat) (K : St → Prop) : Prop :=
  (∃ post, ACall P f args s.st post ∧ ∀ r S', post r S' → K (St.put ⟨s.tm, S'⟩ dst r)) ∨ (∃ r, XCall P f args r ∧ K (St.put s dst r))

def callW (P : Program) (c : Call) (s : St) (dst : Option Nat) (K : St → Prop) : Prop :=
  match c.callee with
  | .value x =>
    match ev s.tm x with
    | .c (.fn f caps) => CallW P f (c.args.toList.map (ev s.tm) ++ caps.map fun y => .c (.ptr y.1 y.2)) s dst K
    | _ => False
  | .builtin .append =>
    match c.args.toList, c.argTypes.toList with
    | [x, y], [t, u] => appendW P t u (ev s.tm x) (ev s.tm y) s dst K
    | _, _ => False
  | .builtin .len =>
    match c.args.toList, c.argTypes.toList with
    | [x], [t] => (lenV P s.st t (ev s.tm x)).1 ∧ K (s.put dst (lenV P s.st t (ev s.tm x)).2)
    | _, _ => False
  | .builtin .max =>
    match c.args.toList with
    | [x, y] => (maxV true (ev s.tm x) (ev s.tm y)).1 ∧ K (s.put dst (maxV true (ev s.tm x) (ev s.tm y)).2)
    | _ => False
  | .builtin .min =>
    match c.args.toList with
    | [x, y] => (maxV false (ev s.tm x) (ev s.tm y)).1 ∧ K (s.put dst (maxV false (ev s.tm x) (ev s.tm y)).2)
    | _ => False
  | _ => False

def execW (P : Program) (o : Oper) (s : St) (K : St → Prop) : Prop :=
  match o.op with
  | .alloc t => allocW P t s o.dst K
  | .box _ x => boxW (ev s.tm x) s o.dst K
  | .store t a x => storeW P t (ev s.tm a) (ev s.tm x) s o.dst K
  | .makeSlice t l c => makeW P t (ev s.tm l) (ev s.tm c) s o.dst K
  | .makeMap _ none => mapNewW s o.dst K
  | .mapUpdate t m k v => mapPutW P t (ev s.tm m) (ev s.tm k) (ev s.tm v) s o.dst K
  | .call c => callW P c s o.dst K
  | op => (nval P s.st s.tm op).1 ∧ K (s.put o.dst (nval P s.st s.tm op).2)

structure Rep (N : Nat) (s : St) (a : Act) (w : World) (σ : Nat → Nat) (β : Hs) : Prop where
  size : a.tmps.size = N
  defers : a.defers = []
  S : RepS w σ s.st β
  T : RepT w σ s.st β s.tm a

/-- What is known behind a step. -/
def Then (N : Nat) (S : Store) (β : Hs) (σ : Nat → Nat) (w : World) (K : St → Prop) (a' : Act) (w' : World) : Prop :=
  ∃ s' σ' β', Rep N s' a' w' σ' β' ∧ Step S β σ w s'.st β' σ' w' ∧ Keep S β s'.st β' ∧ K s'

section
variable {P : Program} {w w' : World} {σ σ' : Nat → Nat} {S : Store} {β β' : Hs} {N : Nat} {s : St} {a : Act}

theorem look_put {d t : Nat} {v : V} {tm : List (Nat × V)} : look ((d, v) :: tm) t = if d = t then v else look tm t := rfl

theorem rep_put {S' : Store} {tm : List (Nat × V)} {dst : Option Nat} {x : V} {v : Value} (hd : ∀ d, dst = some d → d < N) (hsz : a.tmps.size = N) (hdf : a.defers = []) (hS : RepS w' σ' S' β') (hT : RepT w' σ' S' β' tm a) (hx : RepV w' σ' S' β' x v) :
    Rep N (St.put ⟨tm, S'⟩ dst x) (a.put dst v) w' σ' β' := by
  cases dst with
  | none => exact ⟨hsz, hdf, hS, hT⟩
  | some d =>
    refine ⟨by simp [Act.put, hsz], hdf, hS, fun t => ?_⟩
    show RepV w' σ' S' β' (if d = t then x else look tm t) ((a.tmps.setIfInBounds d v).getD t undef)
    have hlt : d < a.tmps.size := by rw [hsz]; exact hd d rfl
    by_cases e : d = t
    · subst e
      rw [if_pos rfl]
      simp [Array.getD, hlt]
      exact hx
    · rw [if_neg e]
      have : (a.tmps.setIfInBounds d v).getD t undef = a.tmps.getD t undef := by
        simp only [Array.getD_eq_getD_getElem?]
        rw [Array.getElem?_setIfInBounds_ne e]
      rw [this]
      exact hT t

theorem then_value {o : Oper} {K : St → Prop} {Q : Exit → Act → World → Prop} {x : V} {v : Value} (hd : ∀ d, o.dst = some d → d < N) (hR : Rep N s a w σ β) (hg : Grow w σ w' σ')
    (hx : RepV w' σ' s.st β x v) (hrun : (execOp a.eval o).run P w = .ok (.value v) w') (hK : K (s.put o.dst x)) : o.wp P a w (Then N s.st β σ w K) Q := by
  unfold Oper.wp
  rw [hrun]
  show Then N s.st β σ w K (a.put o.dst v) w'
  have hr : Rep N (St.put ⟨s.tm, s.st⟩ o.dst x) (a.put o.dst v) w' σ' β := rep_put hd hR.size hR.defers (hR.S.grow hg) (hR.T.mono hg.near (Keep.refl _ _)) hx
  refine ⟨s.put o.dst x, σ', β, hr, ?_, ?_, hK⟩
  · have : (s.put o.dst x).st = s.st := by cases h : o.dst <;> rfl
    rw [this]; exact Step.of_grow hg
  · have : (s.put o.dst x).st = s.st := by cases h : o.dst <;> rfl
    rw [this]; exact Keep.refl _ _

theorem put_st (dst : Option Nat) (tm : List (Nat × V)) (S : Store) (x : V) : (St.put ⟨tm, S⟩ dst x).st = S := by cases dst <;> rfl

/-- A step that changes the stack. -/
theorem then_change {o : Oper} {K : St → Prop} {Q : Exit → Act → World → Prop} {S' : Store} {x : V} {v : Value} {nx : Next} (hd : ∀ d, o.dst = some d → d < N) (hR : Rep N s a w σ β) (hS : RepS w' σ' S' β') (hk : Keep s.st β S' β')
    (hst : Step s.st β σ w S' β' σ' w') (hx : RepV w' σ' S' β' x v) (hnx : nx = .value v ∨ (nx = .skip ∧ v = undef)) (hrun : (execOp a.eval o).run P w = .ok nx w') (hK : K (St.put ⟨s.tm, S'⟩ o.dst x)) :
    o.wp P a w (Then N s.st β σ w K) Q := by
  unfold Oper.wp
  rw [hrun]
  have hr : Rep N (St.put ⟨s.tm, S'⟩ o.dst x) (a.put o.dst v) w' σ' β' := rep_put hd hR.size hR.defers hS (hR.T.mono hst.near hk) hx
  have hthen : Then N s.st β σ w K (a.put o.dst v) w' := ⟨_, σ', β', hr, by rw [put_st]; exact hst, by rw [put_st]; exact hk, hK⟩
  rcases hnx with rfl | ⟨rfl, rfl⟩
  · exact hthen
  · exact hthen

theorem undef_rep : RepV w σ S β (.tup []) undef := ⟨#[], rfl, rfl, fun j y h => by simp at h⟩

theorem newObj_box {o : Oper} {K : St → Prop} {Q : Exit → Act → World → Prop} {cs : List C} {v : Value} {t : TypeId} (hd : ∀ d, o.dst = some d → d < N) (hR : Rep N s a w σ β)
    (hc : RepCs w σ s.st β cs v.cells.toList) (hrun : ∀ ad w', (newVar t v).run P w = .ok ad w' → (execOp a.eval o).run P w = .ok (.value (.pointer (some ad))) w') (h : newObj s o.dst (.box cs) (fun k => .c (.ptr k 0)) K) :
    o.wp P a w (Then N s.st β σ w K) Q := by
  obtain ⟨tm, st⟩ := s
  cases st with
  | nil => exact h.elim
  | cons own Ω =>
    cases β with
    | nil => have := hR.S.shape.1; simp at this
    | cons bo bΩ =>
      have hlen : bo.length = own.length := by
        obtain ⟨gr, h1, h2⟩ := hR.S.shape.2 0 own rfl
        simp at h1; rw [h1]; exact h2
      obtain ⟨w', σ', h', hnv, rfl, hS', hk, hst⟩ := box_new (P := P) (t := t) hR.S hlen hc
      exact then_change hd hR hS' hk hst (ptr_new hlen) (.inl rfl) (hrun _ _ hnv) h

theorem frames {tm : List (Nat × V)} {own : List Obj} {Ω : Store} (hR : Rep N ⟨tm, own :: Ω⟩ a w σ β) : ∃ bo bΩ, β = bo :: bΩ ∧ bo.length = own.length := by
  cases β with
  | nil => have := hR.S.shape.1; simp at this
  | cons bo bΩ =>
    refine ⟨bo, bΩ, rfl, ?_⟩
    obtain ⟨gr, h1, h2⟩ := hR.S.shape.2 0 own rfl
    simp at h1; rw [h1]; exact h2

theorem store_sound {o : Oper} {K : St → Prop} {Q : Exit → Act → World → Prop} {t : TypeId} {x y : Operand} (ho : o.op = .store t x y) (hd : ∀ d, o.dst = some d → d < N) (hR : Rep N s a w σ β)
    (h : storeW P t (ev s.tm x) (ev s.tm y) s o.dst K) : o.wp P a w (Then N s.st β σ w K) Q := by
  have hx := rep_ev hR.T x
  have hy := rep_ev hR.T y
  have hrun : ∀ w', (Instr.storeAt t (a.eval x) (a.eval y)).run P w = .ok () w' → (execOp a.eval o).run P w = .ok .skip w' := by
    intro w' hst
    clear h
    obtain ⟨dst, op, ty, pos, after, guard⟩ := o
    simp only at ho; subst ho
    simp [execOp, hst]
  unfold storeW at h
  split at h
  · rename_i k off hex
    rw [hex] at hx
    split at h
    · rename_i cs xs hk hxs
      obtain ⟨h1, h2, h3, h4⟩ := h
      cases hcv : cellsV (ev s.tm y) with
      | none => rw [hcv] at hxs; cases hxs
      | some ys =>
        rw [hcv] at hxs
        obtain ⟨w', σ', hh, hrs, hb, hS', hkp, hst⟩ := store_box (P := P) (t := t) hR.S hx hk (rep_downs hxs (rep_cellsV hcv hy)) h1 h2 h3
        exact then_change hd hR hS' hkp hst undef_rep (.inr ⟨rfl, rfl⟩) (hrun _ hrs) h4
    · exact h.elim
  · rename_i k i off hex
    rw [hex] at hx
    split at h
    · rename_i esz es ds hk hds
      obtain ⟨h1, h2, h3, h4, h5⟩ := h
      cases hcv : cellsV (ev s.tm y) with
      | none => rw [hcv] at hds; cases hds
      | some ys =>
        rw [hcv] at hds
        obtain ⟨l1, l2⟩ := rep_toD hds (rep_cellsV hcv hy)
        obtain ⟨w', σ', hh, hrs, hb, hS', hkp, hst⟩ := store_row (P := P) (t := t) hR.S hx hk ⟨by simpa using l1, l2⟩ h1 h2 h3 h4
        exact then_change hd hR hS' hkp hst undef_rep (.inr ⟨rfl, rfl⟩) (hrun _ hrs) h5
    · exact h.elim
  · exact h.elim

theorem make_sound {o : Oper} {K : St → Prop} {Q : Exit → Act → World → Prop} {t : TypeId} {x y : Operand} (ho : o.op = .makeSlice t x y) (hd : ∀ d, o.dst = some d → d < N) (hR : Rep N s a w σ β)
    (h : makeW P t (ev s.tm x) (ev s.tm y) s o.dst K) : o.wp P a w (Then N s.st β σ w K) Q := by
  have hx := rep_ev hR.T x
  have hy := rep_ev hR.T y
  unfold makeW at h
  split at h
  · rename_i e k1 n k2 m ht hex hey
    rw [hex] at hx
    rw [hey] at hy
    obtain ⟨hx1, _⟩ := hx
    obtain ⟨hy1, _⟩ := hy
    generalize hxe : a.eval x = xv at hx1
    generalize hye : a.eval y = yv at hy1
    cases hx1; cases hy1
    split at h
    · rename_i zd hzd
      obtain ⟨h1, hb, h2, h3, h4, h5⟩ := h
      subst h4
      cases hzs : zeroCs P e with
      | none => rw [hzs] at hzd; cases hzd
      | some zs =>
        rw [hzs] at hzd
        obtain ⟨z, hzr, hzc⟩ := run_zero (w := w) (σ := σ) (S := s.st) (β := β) hzs
        obtain ⟨l1, l2⟩ := rep_toD hzd hzc
        have hinfo : (P.info? e).isSome = true := by
          unfold zeroCs at hzs
          cases hi : P.info? e with
          | none => rw [hi] at hzs; cases hzs
          | some i => rfl
        obtain ⟨info, hi⟩ := Option.isSome_iff_exists.1 hinfo
        have hib : info.bytes = P.bytesOf e := by simp [Program.bytesOf, hi]
        have his : info.size = P.cellsOf e := by simp [Program.cellsOf, hi]
        have hzsz : z.cells.size = P.cellsOf e := by simp at l1; omega
        obtain ⟨nn, rfl⟩ := Int.eq_ofNat_of_zero_le h2
        have hwrap : IntKind.i64.wrap (nn : Int) = (nn : Int) := by
          exact IntWalk.i64_in _ (by omega)
        have hnb : ¬ (281474976710656 < (info.bytes : Int) * nn) := by
          have : info.bytes * nn ≤ 4096 * 1073741824 := Nat.mul_le_mul (by omega) (by omega)
          have h' : ((info.bytes * nn : Nat) : Int) ≤ 4398046511104 := by omega
          rw [Int.natCast_mul] at h'
          omega
        have hnneg : ¬ ((nn : Int) < 0) := by omega
        let zero : Array Value := if nn * P.cellsOf e = 0 then #[] else z.cells
        let row : Array Value := (Array.range (nn * P.cellsOf e)).map (zero[· % zero.size]!)
        have hrun : (execOp a.eval o).run P w = .ok (.value (.slice (some ⟨w.heap.size, 0, none⟩) nn nn)) { w with heap := w.heap.push (.cells row e) } := by
          obtain ⟨dst, op, ty, pos, after, guard⟩ := o
          simp only at ho; subst ho
          have hrow : ∀ z', z' = zero → (Array.range (nn * P.cellsOf e)).map (z'[· % z'.size]!) = row := fun z' e => by rw [e]
          by_cases h0 : nn * P.cellsOf e = 0
          · have hz0 : zero = #[] := if_pos h0
            have hr := hrow #[] hz0.symm
            simp only [execOp, hxe, hye, Instr.makeSlice, Sem.run_bind, run_underlying ht, Result.andThen_ok, asInt, asIntOf, Sem.run_pure, typeInfo, run_program, hi, hwrap, run_askRoom, sizeOf, his, h0, if_true, Int.toNat_natCast]
            simp [hnb, hnneg, newRow, ← hr, h0, hi, his]
          · have hz0 : zero = z.cells := if_neg h0
            have hr := hrow z.cells hz0.symm
            have hzr' : (zeroValue e).run P w = .ok z w := hzr
            simp only [execOp, hxe, hye, Instr.makeSlice, Sem.run_bind, run_underlying ht, Result.andThen_ok, asInt, asIntOf, Sem.run_pure, typeInfo, run_program, hi, hwrap, run_askRoom, sizeOf, his, h0, if_false, Int.toNat_natCast]
            simp [hnb, hnneg, newRow, ← hr, h0, hzr', hi, his]
        obtain ⟨tm, st⟩ := s
        cases st with
        | nil => exact h5.elim
        | cons own Ω =>
          obtain ⟨bo, bΩ, rfl, hlen⟩ := frames hR
          have hg := push_cells w σ hR.S.live row e 0
          have hrs : row.size = nn * P.cellsOf e := by simp [row]
          have hflat : (List.replicate nn zd).flatten.length = nn * P.cellsOf e := by
            rw [flat_len _ (P.cellsOf e) (fun e he => by rw [List.eq_of_mem_replicate he]; exact h1)]; simp
          obtain ⟨hS', hk, hst⟩ := hR.S.push (o := .mrow (P.cellsOf e) (List.replicate nn zd)) (h := .slice (some ⟨w.heap.size, 0, none⟩) nn nn) hg hlen (by
            refine ⟨w.heap.size, row, e, nn, by simp, by simp, by simp, by simp, fun e he => by rw [List.eq_of_mem_replicate he]; exact h1, by simp [hrs], fun j d hj => ?_⟩
            have hjl : j < nn * P.cellsOf e := by rw [← hflat]; exact (List.getElem?_eq_some_iff.1 hj).1
            have hpos : 0 < P.cellsOf e := by
              rcases Nat.eq_zero_or_pos (P.cellsOf e) with h | h
              · rw [h] at hjl; simp at hjl
              · exact h
            have hz0 : zero = z.cells := if_neg (by omega)
            have hdm : j / P.cellsOf e < (List.replicate nn zd).length := by
              rw [List.length_replicate]
              exact (Nat.div_lt_iff_lt_mul hpos).2 hjl
            have hfg := flat_get (List.replicate nn zd) (P.cellsOf e) (fun e he => by rw [List.eq_of_mem_replicate he]; exact h1) (j / P.cellsOf e) (j % P.cellsOf e) hdm (Nat.mod_lt _ hpos)
            rw [Nat.mul_comm, Nat.div_add_mod] at hfg
            rw [hj, List.getElem_replicate] at hfg
            obtain ⟨v, hv, hr⟩ := l2 _ d hfg.symm
            refine ⟨v, ?_, hr.mono hg.near⟩
            have hlt : j % P.cellsOf e < z.cells.size := by rw [hzsz]; exact Nat.mod_lt _ hpos
            have hv' : z.cells[j % P.cellsOf e]? = some v := by simpa using hv
            simp only [row, Array.getElem?_map, Array.getElem?_range, hjl, if_true, Option.map_some, hz0, hzsz]
            rw [getElem!_pos z.cells (j % P.cellsOf e) hlt]
            rw [Array.getElem?_eq_getElem hlt] at hv'
            exact hv') (fun b hb => by cases hb; exact Nat.le_refl _)
          refine then_change (x := .c (.msl (0, own.length))) hd hR hS' hk hst ⟨⟨_, getO_push_new _ _ _, fun esz es e => ?_⟩, rfl⟩ (.inl rfl) hrun (by rw [Int.toNat_natCast] at h5; exact h5)
          rw [← hlen, getO_push_new]
    · exact h.elim
  · exact h.elim


theorem mapNew_sound {o : Oper} {K : St → Prop} {Q : Exit → Act → World → Prop} {t : TypeId} (ho : o.op = .makeMap t none) (hd : ∀ d, o.dst = some d → d < N) (hR : Rep N s a w σ β)
    (h : mapNewW s o.dst K) : o.wp P a w (Then N s.st β σ w K) Q := by
  obtain ⟨tm, st⟩ := s
  cases st with
  | nil => exact h.elim
  | cons own Ω =>
    obtain ⟨bo, bΩ, rfl, hlen⟩ := frames hR
    let w' : World := { w with heap := w.heap.push (.map #[] 0) }
    have hrun : (execOp a.eval o).run P w = .ok (.value (.map (some w.heap.size))) w' := by
      obtain ⟨dst, op, ty, pos, after, guard⟩ := o
      simp only at ho; subst ho
      simp [execOp, Instr.makeMap, newObj, w']
    have hg : Grow w σ w' σ := ⟨by simp [w'], rfl, rfl, fun b hb => ⟨by simp [w', Array.getElem?_push, Nat.ne_of_lt hb], rfl⟩, fun b => by
      rcases hR.S.live b with h | h
      · exact .inl (by simp [w']; omega)
      · exact .inr h⟩
    have hs0 : σ w.heap.size = 0 := by
      rcases hR.S.live w.heap.size with h | h
      · omega
      · exact h
    obtain ⟨hS', hk, hst⟩ := hR.S.push (o := .mp []) (h := .map (some w.heap.size)) hg hlen ⟨w.heap.size, #[], 0, rfl, by simp [w'], hs0, rfl⟩ (fun b hb => by cases hb; exact Nat.le_refl _)
    refine then_change (x := .c (.mp (0, own.length))) hd hR hS' hk hst ⟨⟨_, getO_push_new _ _ _, fun m e => ?_⟩, rfl⟩ (.inl rfl) hrun h
    rw [← hlen, getO_push_new]

theorem mapPut_sound {o : Oper} {K : St → Prop} {Q : Exit → Act → World → Prop} {t : TypeId} {x y z : Operand} (ho : o.op = .mapUpdate t x y z) (hd : ∀ d, o.dst = some d → d < N) (hR : Rep N s a w σ β)
    (h : mapPutW P t (ev s.tm x) (ev s.tm y) (ev s.tm z) s o.dst K) : o.wp P a w (Then N s.st β σ w K) Q := by
  have hx := rep_ev hR.T x
  have hy := rep_ev hR.T y
  have hz := rep_ev hR.T z
  unfold mapPutW at h
  split at h
  · rename_i kt et key l ht hex hey hez
    rw [hex] at hx
    rw [hey] at hy
    rw [hez] at hz
    split at h
    · rename_i m hk hkt
      obtain ⟨⟨o', ho', h2⟩, _⟩ := hx
      rw [hk] at ho'; cases ho'
      have hh := h2 m rfl
      obtain ⟨hv, hh', hr⟩ := hR.S.obj key _ hk
      rw [hh] at hh'; cases hh'
      generalize hxe : a.eval x = xv at hh hr
      generalize hye : a.eval y = yv at hy
      generalize hze : a.eval z = zv at hz
      obtain ⟨b, es, clock, rfl, hb, hσ, hes⟩ := hr
      obtain ⟨hy1, _⟩ := hy
      cases hy1
      obtain ⟨hz1, _⟩ := hz
      cases hz1
      obtain ⟨hks, hvs, hmem⟩ := mp_keys hes
      have hkey : MapKept.IsKey .string (.string ⟨l.toArray⟩) := trivial
      -- what is there behind it
      have main : ∃ es' clock', (Instr.mapUpdate t (.map (some b)) (.string ⟨l.toArray⟩) (.bool true)).run P w = .ok () { w with heap := w.heap.setIfInBounds b (.map es' clock') } ∧
          es'.toList.map (fun e => (e.key, e.val)) = (addW l m).map (fun l => (Value.string ⟨l.toArray⟩, Value.bool true)) := by
        rcases MapKept.findNow_spec hkey es.toList 0 hks with ⟨h1, h3⟩ | ⟨j, e0, h1, h3, h4⟩
        · have hn : l ∉ m := fun hl => by
            obtain ⟨e, he, hke⟩ := (hmem l).1 hl
            exact h3 e he hke
          refine ⟨es.push ⟨.string ⟨l.toArray⟩, .bool true, clock⟩, clock + 1, ?_, ?_⟩
          · simp [Instr.mapUpdate, run_underlying ht, MapKept.run_getObj_map hb, MapKept.run_checkKey hkt hkey, MapKept.run_findKey hkt h1, MapKept.run_setObj_map _ hb, Result.andThen]
          · rw [addW, if_neg hn, Array.toList_push, List.map_append, List.map_append, hes]
            rfl
        · have hj : es[j]? = some e0 := by simpa using h3
          have he0 : e0 ∈ es.toList := List.mem_of_getElem? h3
          have hy : l ∈ m := (hmem l).2 ⟨e0, he0, h4⟩
          refine ⟨es.modify j (fun e' => { e' with key := .string ⟨l.toArray⟩, val := .bool true }), clock, ?_, ?_⟩
          · simp [Instr.mapUpdate, run_underlying ht, MapKept.run_getObj_map hb, MapKept.run_checkKey hkt hkey, MapKept.run_findKey hkt h1, hj, h4, MapKept.run_keyThatStays hkey, MapKept.run_setObj_map _ hb, Result.andThen]
          · rw [addW, if_pos hy, ← hes]
            refine List.ext_getElem? fun i => ?_
            simp only [List.getElem?_map, Array.getElem?_toList, Array.getElem?_modify]
            by_cases e : j = i
            · subst e
              rw [if_pos rfl, hj]
              simp only [Option.map_some, Option.some.injEq, Prod.mk.injEq]
              exact ⟨h4.symm, (hvs e0 he0).symm⟩
            · rw [if_neg e]
      obtain ⟨es', clock', hrun, hes'⟩ := main
      have hlt : b < w.heap.size := lt_of_some hb
      have hne : ∀ b', b' ≠ b → (w.heap.setIfInBounds b (.map es' clock'))[b']? = w.heap[b']? := fun b' hb' => by simp [Ne.symm hb']
      have hn : Near w σ { w with heap := w.heap.setIfInBounds b (.map es' clock') } σ := by
        intro b1 c1 t1 fz1 e1
        refine ⟨Nat.le_refl _, c1, ?_, rfl, fun _ _ => rfl⟩
        by_cases hb1 : b1 = b
        · subst hb1; rw [hb] at e1; cases e1
        · exact (hne b1 hb1).trans e1
      obtain ⟨hS', hkp, hst⟩ := hR.S.set (w' := { w with heap := w.heap.setIfInBounds b (.map es' clock') }) (σ' := σ) (o' := .mp (addW l m)) (h' := .map (some b)) hk hh (by simp) rfl rfl hn (fun x => by simpa using hR.S.live x)
        (fun b1 hb1 hbk => ⟨hne b1 (fun e => hbk (by rw [e]; rfl)), rfl⟩) (.inr ⟨⟨_, rfl⟩, rfl⟩) ⟨b, es', clock', rfl, by simp [hlt], hσ, hes'⟩ (fun b1 e => .inl e)
      refine then_change hd hR hS' hkp hst undef_rep (.inr ⟨rfl, rfl⟩) ?_ h
      obtain ⟨dst, op, ty, pos, after, guard⟩ := o
      simp only at ho; subst ho
      simp [execOp, hxe, hye, hze, hrun]
    · exact h.elim
  · exact h.elim

end
end Go.Ab
