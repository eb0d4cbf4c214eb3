/-
  ABSTRACT VALUES FOR A WALK, PART 16: a region whose order is drawn: what it comes to in the order of the text it comes to in every order that its edges allow.
-/
import Derived.Test.YtjfhgcnoielpfaaAbO
set_option linter.unusedSimpArgs false
set_option linter.unusedVariables false
namespace Go.Ab

def isD : Op → Bool
  | .alloc _ => true
  | .box _ _ => true
  | .store _ _ _ => true
  | .makeSlice _ _ _ => true
  | .makeMap _ none => true
  | .mapUpdate _ _ _ _ => true
  | .call { callee := .builtin .append, args := _, argTypes := _ } => true
  | _ => false

def isStore : Op → Bool
  | .store _ _ _ => true
  | .mapUpdate _ _ _ _ => true
  | _ => false

/-- A call of a function's value. -/
def isCallV : Op → Bool
  | .call { callee := .value _, args := _, argTypes := _ } => true
  | _ => false

/-- What may change the objects: with E, calls too. -/
def isDx (E : Bool) (op : Op) : Bool := isD op || (E && isCallV op)
def isSx (E : Bool) (op : Op) : Bool := isStore op || (E && isCallV op)

theorem isD_isDx {E : Bool} {op : Op} (h : isD op = true) : isDx E op = true := by simp [isDx, h]
theorem isSx_isDx {E : Bool} {op : Op} (h : isSx E op = true) : isDx E op = true := by
  unfold isSx isDx at *
  rw [Bool.or_eq_true] at h ⊢
  refine h.imp (fun hs => ?_) id
  cases op <;> first | rfl | simp [isStore] at hs
theorem isDx_not {E : Bool} {op : Op} (h : isDx E op = true) (hs : isSx E op = false) : isD op = true := by
  unfold isSx at hs
  unfold isDx at h
  rw [Bool.or_eq_false_iff] at hs
  rw [hs.2, Bool.or_false] at h
  exact h

def callN (P : Program) (tm : List (Nat × V)) (c : Call) (r : V) : Prop :=
  match c.callee with
  | .value x => match ev tm x with
    | .c (.fn f caps) => PCall P f (c.args.toList.map (ev tm) ++ caps.map fun y => .c (.ptr y.1 y.2)) r
    | _ => False
  | _ => False

def dexecW (P : Program) (E : Bool) (o : Oper) (s : St) (K : St → Prop) : Prop :=
  if isD o.op then execW P o s K else
  match o.op with
  | .call { callee := .value x, args, argTypes } => match E with
    | true => ∃ S' v, execW P o s (fun t => t = St.put ⟨s.tm, S'⟩ o.dst v) ∧ K (St.put ⟨s.tm, S'⟩ o.dst v)
    | false => ∃ r, callN P s.tm { callee := .value x, args, argTypes } r ∧ K (s.put o.dst r)
  | op => (nval P s.st s.tm op).1 ∧ K (s.put o.dst (nval P s.st s.tm op).2)

def dguardW (P : Program) (E : Bool) (R : Array Oper) (o : Oper) (s : St) (K : St → Prop) : Prop :=
  match o.guard with
  | none => dexecW P E o s K
  | some (j, want) =>
    match (dstOf R j).map (look s.tm) with
    | some (.c (.d (.b x))) => (x = want → dexecW P E o s K) ∧ (x = !want → K (s.put o.dst (.tup [])))
    | some (.tup []) => K (s.put o.dst (.tup []))
    | _ => False

def dops (P : Program) (E : Bool) (R : Array Oper) : List Oper → St → (St → Prop) → Prop
  | [], s, K => K s
  | o :: os, s, K => dguardW P E R o s fun s' => dops P E R os s' K

/-- A quiet operation's value. -/
def NV (P : Program) (S : Store) (tm : List (Nat × V)) (op : Op) (v : V) : Prop :=
  (∃ c, op = .call c ∧ callN P tm c v) ∨ ((nval P S tm op).1 ∧ v = (nval P S tm op).2)

def gd (R : Array Oper) (o : Oper) (tm : List (Nat × V)) : Option Bool :=
  match o.guard with
  | none => some true
  | some (j, want) =>
    match (dstOf R j).map (look tm) with
    | some (.c (.d (.b x))) => some (x == want)
    | some (.tup []) => some false
    | _ => none

/-- One operation, in the order of the text. -/
def TStep (P : Program) (E : Bool) (R : Array Oper) (o : Oper) (s : St) (v : V) (s' : St) : Prop :=
  (gd R o s.tm = some false ∧ v = .tup [] ∧ s' = s.put o.dst v) ∨
  (gd R o s.tm = some true ∧ isDx E o.op = false ∧ NV P s.st s.tm o.op v ∧ s' = s.put o.dst v) ∨
  (gd R o s.tm = some true ∧ isDx E o.op = true ∧ execW P o s (fun t => t = s') ∧ s' = St.put ⟨s.tm, s'.st⟩ o.dst v)

section
variable {P : Program} {w w' : World} {σ σ' : Nat → Nat} {S S' : Store} {β β' : Hs} {N : Nat} {s : St} {a : Act}

theorem newObj_ex {dst : Option Nat} {o : Obj} {mk : Key → V} {K : St → Prop} (h : newObj s dst o mk K) : ∃ S' v, newObj s dst o mk (fun t => t = St.put ⟨s.tm, S'⟩ dst v) ∧ K (St.put ⟨s.tm, S'⟩ dst v) := by
  unfold newObj at h ⊢
  split at h
  · rename_i own Ω hst
    exact ⟨_, _, rfl, h⟩
  · exact h.elim

/-- An operation on memory comes to one state. -/
theorem execD_ex {o : Oper} {K : St → Prop} (hD : isD o.op = true) (h : execW P o s K) : ∃ S' v, execW P o s (fun t => t = St.put ⟨s.tm, S'⟩ o.dst v) ∧ K (St.put ⟨s.tm, S'⟩ o.dst v) := by
  obtain ⟨dst, op, ty, pos, after, guard⟩ := o
  cases op with
  | alloc t =>
    simp only [execW, allocW] at h ⊢
    split at h
    · exact newObj_ex h
    · exact h.elim
  | box t x =>
    simp only [execW, boxW] at h ⊢
    split at h
    · exact newObj_ex h
    · exact h.elim
  | makeSlice t l c =>
    simp only [execW, makeW] at h ⊢
    split at h
    · split at h
      · obtain ⟨h1, h2, h3, h4, h5, h6⟩ := h
        obtain ⟨S', v, k1, k2⟩ := newObj_ex h6
        exact ⟨S', v, ⟨h1, h2, h3, h4, h5, k1⟩, k2⟩
      · exact h.elim
    · exact h.elim
  | store t x y =>
    simp only [execW, storeW] at h ⊢
    split at h
    · split at h
      · obtain ⟨h1, h2, h3, h4⟩ := h
        exact ⟨_, _, ⟨h1, h2, h3, rfl⟩, h4⟩
      · exact h.elim
    · split at h
      · obtain ⟨h1, h2, h3, h4, h5⟩ := h
        exact ⟨_, _, ⟨h1, h2, h3, h4, rfl⟩, h5⟩
      · exact h.elim
    · exact h.elim
  | makeMap t r =>
    cases r with
    | none =>
      simp only [execW, mapNewW] at h ⊢
      exact newObj_ex h
    | some r => simp [isD] at hD
  | mapUpdate t x y z =>
    simp only [execW, mapPutW] at h ⊢
    split at h
    · split at h
      · exact ⟨_, _, rfl, h⟩
      · exact h.elim
    · exact h.elim
  | call c =>
    obtain ⟨cal, args, aty⟩ := c
    cases cal with
    | builtin b =>
      cases b with
      | append =>
        simp only [execW, callW] at h ⊢
        split at h
        · simp only [appendW] at h ⊢
          split at h
          · obtain ⟨h1, h2, h3, h4⟩ := h
            split at h4
            · split at h4
              · obtain ⟨k1, k2, k3, k4⟩ := h4
                exact ⟨_, _, ⟨h1, h2, h3, k1, k2, k3, rfl⟩, k4⟩
              · exact h4.elim
            · obtain ⟨k1, k2, k3⟩ := h4
              obtain ⟨S', v, l1, l2⟩ := newObj_ex k3
              exact ⟨S', v, ⟨h1, h2, h3, k1, k2, l1⟩, l2⟩
            · exact h4.elim
          · exact h.elim
        · exact h.elim
      | _ => simp [isD] at hD
    | _ => simp [isD] at hD
  | _ => simp [isD] at hD

theorem newObj_tm {tm tm' : List (Nat × V)} {dst : Option Nat} {o : Obj} {mk : Key → V} {v : V} (h : newObj ⟨tm, S⟩ dst o mk (fun t => t = St.put ⟨tm, S'⟩ dst v)) (hd : dst ≠ none) :
    newObj ⟨tm', S⟩ dst o mk (fun t => t = St.put ⟨tm', S'⟩ dst v) := by
  unfold newObj at h ⊢
  cases S with
  | nil => exact h
  | cons own Ω =>
    cases dst with
    | none => exact absurd rfl hd
    | some d =>
      simp only [St.put, St.mk.injEq, List.cons.injEq, Prod.mk.injEq, and_true, true_and] at h ⊢
      exact h

theorem newObj_tm0 {tm tm' : List (Nat × V)} {o : Obj} {mk : Key → V} {v : V} (h : newObj ⟨tm, S⟩ none o mk (fun t => t = St.put ⟨tm, S'⟩ none v)) :
    newObj ⟨tm', S⟩ none o mk (fun t => t = St.put ⟨tm', S'⟩ none v) := by
  unfold newObj at h ⊢
  cases S with
  | nil => exact h
  | cons own Ω =>
    simp only [St.put, St.mk.injEq, true_and] at h ⊢
    exact h

theorem newObj_tm' {tm tm' : List (Nat × V)} {dst : Option Nat} {o : Obj} {mk : Key → V} {v : V} (h : newObj ⟨tm, S⟩ dst o mk (fun t => t = St.put ⟨tm, S'⟩ dst v)) :
    newObj ⟨tm', S⟩ dst o mk (fun t => t = St.put ⟨tm', S'⟩ dst v) := by
  cases dst with
  | none => exact newObj_tm0 h
  | some d => exact newObj_tm h (by simp)

theorem put_tm {tm tm' : List (Nat × V)} {dst : Option Nat} {S1 S2 : Store} {v v' : V} (h : St.put ⟨tm, S1⟩ dst v = St.put ⟨tm, S2⟩ dst v') : St.put ⟨tm', S1⟩ dst v = St.put ⟨tm', S2⟩ dst v' := by
  cases dst with
  | none => simp only [St.put, St.mk.injEq, true_and] at h ⊢; exact h
  | some d => simp only [St.put, St.mk.injEq, List.cons.injEq, Prod.mk.injEq, and_true, true_and] at h ⊢; exact h

/-- It hangs on its operands alone. -/
theorem execD_tm {o : Oper} {tm tm' : List (Nat × V)} {v : V} (hD : isD o.op = true) (he : ∀ x ∈ o.op.operands, ev tm x = ev tm' x) (h : execW P o ⟨tm, S⟩ (fun t => t = St.put ⟨tm, S'⟩ o.dst v)) :
    execW P o ⟨tm', S⟩ (fun t => t = St.put ⟨tm', S'⟩ o.dst v) := by
  obtain ⟨dst, op, ty, pos, after, guard⟩ := o
  cases op with
  | alloc t =>
    simp only [execW, allocW] at h ⊢
    split at h
    · exact newObj_tm' h
    · exact h.elim
  | box t x =>
    have e1 := he x (by simp [Op.operands])
    simp only [execW, boxW, e1] at h ⊢
    split at h
    · exact newObj_tm' h
    · exact h.elim
  | makeSlice t l c =>
    have e1 := he l (by simp [Op.operands])
    have e2 := he c (by simp [Op.operands])
    simp only [execW, makeW, e1, e2] at h ⊢
    split at h
    · split at h
      · obtain ⟨h1, h2, h3, h4, h5, h6⟩ := h
        exact ⟨h1, h2, h3, h4, h5, newObj_tm' h6⟩
      · exact h.elim
    · exact h.elim
  | store t x y =>
    have e1 := he x (by simp [Op.operands])
    have e2 := he y (by simp [Op.operands])
    simp only [execW, storeW, e1, e2] at h ⊢
    split at h
    · split at h
      · obtain ⟨h1, h2, h3, h4⟩ := h
        exact ⟨h1, h2, h3, put_tm h4⟩
      · exact h.elim
    · split at h
      · obtain ⟨h1, h2, h3, h4, h5⟩ := h
        exact ⟨h1, h2, h3, h4, put_tm h5⟩
      · exact h.elim
    · exact h.elim
  | makeMap t r =>
    cases r with
    | none =>
      simp only [execW, mapNewW] at h ⊢
      exact newObj_tm' h
    | some r => simp [isD] at hD
  | mapUpdate t x y z =>
    have e1 := he x (by simp [Op.operands])
    have e2 := he y (by simp [Op.operands])
    have e3 := he z (by simp [Op.operands])
    simp only [execW, mapPutW, e1, e2, e3] at h ⊢
    split at h
    · split at h
      · exact put_tm h
      · exact h.elim
    · exact h.elim
  | call c =>
    obtain ⟨cal, args, aty⟩ := c
    cases cal with
    | builtin b =>
      cases b with
      | append =>
        simp only [execW, callW] at h ⊢
        split at h
        · rename_i x y t u hxy htu
          have hargs : args = #[x, y] := by rw [← Array.toArray_toList (xs := args), hxy]
          have e1 := he x (by simp [Op.operands, Call.operands, hargs])
          have e2 := he y (by simp [Op.operands, Call.operands, hargs])
          simp only [appendW, e1, e2] at h ⊢
          split at h
          · obtain ⟨h1, h2, h3, h4⟩ := h
            refine ⟨h1, h2, h3, ?_⟩
            split at h4
            · split at h4
              · obtain ⟨k1, k2, k3, k4⟩ := h4
                exact ⟨k1, k2, k3, put_tm k4⟩
              · exact h4.elim
            · obtain ⟨k1, k2, k3⟩ := h4
              exact ⟨k1, k2, newObj_tm' k3⟩
            · exact h4.elim
          · exact h.elim
        · exact h.elim
      | _ => simp [isD] at hD
    | _ => simp [isD] at hD
  | _ => simp [isD] at hD

theorem CallW_tm {f : FuncId} {args : List V} {tm tm' : List (Nat × V)} {dst : Option Nat} {v : V} (h : CallW P f args ⟨tm, S⟩ dst (fun t => t = St.put ⟨tm, S'⟩ dst v)) : CallW P f args ⟨tm', S⟩ dst (fun t => t = St.put ⟨tm', S'⟩ dst v) := by
  rcases h with ⟨post, h1, h2⟩ | ⟨r, h1, h2⟩
  · exact .inl ⟨post, h1, fun r S'' hp => put_tm (h2 r S'' hp)⟩
  · exact .inr ⟨r, h1, put_tm h2⟩

theorem execX_tm {E : Bool} {o : Oper} {tm tm' : List (Nat × V)} {v : V} (hD : isDx E o.op = true) (he : ∀ x ∈ o.op.operands, ev tm x = ev tm' x) (h : execW P o ⟨tm, S⟩ (fun t => t = St.put ⟨tm, S'⟩ o.dst v)) :
    execW P o ⟨tm', S⟩ (fun t => t = St.put ⟨tm', S'⟩ o.dst v) := by
  by_cases hd : isD o.op = true
  · exact execD_tm hd he h
  · have hc : isCallV o.op = true := by
      unfold isDx at hD
      rw [Bool.or_eq_true, Bool.and_eq_true] at hD
      rcases hD with h | h
      · exact absurd h hd
      · exact h.2
    obtain ⟨dst, op, ty, pos, after, guard⟩ := o
    cases op with
    | call c =>
      obtain ⟨cal, args, aty⟩ := c
      cases cal with
      | value x =>
        have h1 : args.toList.map (ev tm) = args.toList.map (ev tm') := List.map_congr_left fun y hy => he y (by simp [Op.operands, Call.operands]; exact .inr (by simpa using hy))
        have h2 : ev tm x = ev tm' x := he x (by simp [Op.operands, Call.operands])
        simp only [execW, callW, h1, h2] at h ⊢
        split at h
        · exact CallW_tm h
        · exact h.elim
      | _ => simp [isCallV] at hc
    | _ => simp [isCallV] at hc

theorem nval_tm {tm tm' : List (Nat × V)} {op : Op} (he : ∀ x ∈ op.operands, ev tm x = ev tm' x) : nval P S tm op = nval P S tm' op := by
  unfold nval
  split <;> try rfl
  · rw [he _ (by simp [Op.operands])]
  · rw [he _ (by simp [Op.operands])]
  · rename_i c x y; rw [he c (by simp [Op.operands]), he x (by simp [Op.operands]), he y (by simp [Op.operands])]
  · rw [he _ (by simp [Op.operands])]
  · rw [he _ (by simp [Op.operands])]
  · rw [he _ (by simp [Op.operands])]
  · rename_i t x i; rw [he x (by simp [Op.operands]), he i (by simp [Op.operands])]
  · rename_i t x i; rw [he x (by simp [Op.operands]), he i (by simp [Op.operands])]
  · rename_i op t x y _; rw [he x (by simp [Op.operands]), he y (by simp [Op.operands])]
  · rw [he _ (by simp [Op.operands])]
  · rw [he _ (by simp [Op.operands])]
  · rw [he _ (by simp [Op.operands])]
  · rename_i fn first caps
    have h1 : first.toList.map (ev tm) = first.toList.map (ev tm') := List.map_congr_left fun x hx => he x (by simp [Op.operands]; exact .inl (by simpa using hx))
    have h2 : caps.toList.map (ev tm) = caps.toList.map (ev tm') := List.map_congr_left fun x hx => he x (by simp [Op.operands]; exact .inr (by simpa using hx))
    rw [h1, h2]
  · rw [he _ (by simp [Op.operands])]
  · rename_i t x lo hi mx
    rw [he x (by simp [Op.operands])]
    have h1 : lo.map (ev tm) = lo.map (ev tm') := by
      cases lo with
      | none => rfl
      | some y => simp [he y (by simp [Op.operands])]
    have h2 : hi.map (ev tm) = hi.map (ev tm') := by
      cases hi with
      | none => rfl
      | some y => simp [he y (by simp [Op.operands])]
    have h3 : mx.map (ev tm) = mx.map (ev tm') := by
      cases mx with
      | none => rfl
      | some y => simp [he y (by simp [Op.operands])]
    rw [h1, h2, h3]
  · rename_i t parts
    have h1 : (parts.toList.map fun x => (x.1, ev tm x.2)) = parts.toList.map fun x => (x.1, ev tm' x.2) := List.map_congr_left fun x hx => by
      rw [he x.2 (by simp only [Op.operands, List.mem_toArray, List.mem_map]; exact ⟨x, hx, rfl⟩)]
    rw [h1]
  · rename_i t n parts
    have h1 : (parts.toList.map fun x => (x.1, ev tm x.2)) = parts.toList.map fun x => (x.1, ev tm' x.2) := List.map_congr_left fun x hx => by
      rw [he x.2 (by simp only [Op.operands, List.mem_toArray, List.mem_map]; exact ⟨x, hx, rfl⟩)]
    rw [h1]
  · rename_i t x i; rw [he x (by simp [Op.operands]), he i (by simp [Op.operands])]
  · rename_i args aty
    split
    · rename_i x t hx ht
      have hargs : args = #[x] := by rw [← Array.toArray_toList (xs := args), hx]
      rw [he x (by simp [Op.operands, Call.operands, hargs])]
    · rfl
  · rename_i args aty
    split
    · rename_i x y hx
      have hargs : args = #[x, y] := by rw [← Array.toArray_toList (xs := args), hx]
      rw [he x (by simp [Op.operands, Call.operands, hargs]), he y (by simp [Op.operands, Call.operands, hargs])]
    · rfl
  · rename_i args aty
    split
    · rename_i x y hx
      have hargs : args = #[x, y] := by rw [← Array.toArray_toList (xs := args), hx]
      rw [he x (by simp [Op.operands, Call.operands, hargs]), he y (by simp [Op.operands, Call.operands, hargs])]
    · rfl

theorem callN_tm {tm tm' : List (Nat × V)} {c : Call} {v : V} (he : ∀ x ∈ c.operands, ev tm x = ev tm' x) (h : callN P tm c v) : callN P tm' c v := by
  unfold callN at h ⊢
  obtain ⟨cal, args, aty⟩ := c
  cases cal with
  | value x =>
    simp only at h ⊢
    rw [← he x (by simp [Call.operands])]
    have h1 : args.toList.map (ev tm) = args.toList.map (ev tm') := List.map_congr_left fun y hy => he y (by simp [Call.operands]; exact .inr (by simpa using hy))
    rw [← h1]
    exact h
  | _ => exact h

/-- An object that is read. -/
def Readable : Obj → Prop
  | .box _ => True
  | .mrow _ _ => True
  | .mp _ => True
  | _ => False

/-- Objects that are read stay what they were. -/
def Fix (S S' : Store) : Prop := ∀ k o, getO S k = some o → Readable o → getO S' k = some o

theorem Fix.refl (S : Store) : Fix S S := fun _ _ h _ => h

theorem no_false {q : Prop} (h : no.1) : q := h.elim

theorem nval_fix {tm : List (Nat × V)} {op : Op} (h : (nval P S tm op).1)
    (hf : ∀ x ∈ op.operands, ∀ k, (∃ off, ev tm x = .c (.ptr k off)) ∨ (∃ i off, ev tm x = .c (.eptr k i off)) ∨ ev tm x = .c (.msl k) ∨ ev tm x = .c (.mp k) →
      ∀ o, getO S k = some o → Readable o → getO S' k = some o) : nval P S' tm op = nval P S tm op := by
  unfold nval at h ⊢
  split at h <;> try rfl
  · rename_i t x
    have hf := hf x (by simp [Op.operands])
    unfold loadV at h ⊢
    split at h
    · rfl
    · split at h
      · rename_i hx; simp only [hx]
      · rename_i k off hx
        split at h
        · rename_i cs hk; rw [hf k (.inl ⟨off, hx⟩) _ hk trivial]
        · exact no_false h
      · rename_i k i off hx
        split at h
        · rename_i esz es hk; rw [hf k (.inr (.inl ⟨i, off, hx⟩)) _ hk trivial]
        · exact no_false h
      · exact no_false h
  · rename_i t x f
    have hf := hf x (by simp [Op.operands])
    unfold fieldAddrV at h ⊢
    split at h
    · split at h
      · split at h
        · exact no_false h
        · rename_i fs hs _ fd hfd hne
          split at h
          · rename_i hx; simp [hs, hfd, hne, hx]
          · rename_i k off hx
            split at h
            · rename_i cs hk
              simp only [hs, hfd, hne, if_false, hx, hf k (.inl ⟨off, hx⟩) _ hk trivial, hk]
            · exact no_false h
          · rename_i k i off hx
            split at h
            · rename_i esz es hk
              simp only [hs, hfd, hne, if_false, hx, hf k (.inr (.inl ⟨i, off, hx⟩)) _ hk trivial, hk]
            · exact no_false h
          · exact no_false h
      · exact no_false h
    · exact no_false h
  · rename_i t x i
    have hf := hf x (by simp [Op.operands])
    unfold indexAddrV at h ⊢
    split at h
    · rename_i e k n' n ht hx hi
      split at h
      · rename_i esz es hk
        simp only [ht, hx, hi, hf k (.inr (.inr (.inl hx))) _ hk trivial, hk]
      · exact no_false h
    · rename_i len e k off n' n ht hx hi
      split at h
      · rename_i cs hk
        simp only [ht, hx, hi, hf k (.inl ⟨off, hx⟩) _ hk trivial, hk]
      · exact no_false h
    · rename_i e y n' n hy ht hx hi
      simp only [ht, hx, hi]
    · exact no_false h
  · rename_i x
    have hf := hf x (by simp [Op.operands])
    unfold nilCheckV at h ⊢
    split at h
    · rename_i k off hx
      split at h
      · rename_i cs hk
        simp only [hx, hf k (.inl ⟨off, hx⟩) _ hk trivial, hk]
      · exact no_false h
    · rename_i hx; simp only [hx]
    · exact no_false h
  · rename_i t x i
    have hf := hf x (by simp [Op.operands])
    unfold lookupV at h ⊢
    split at h
    · rename_i kt et k l ht hxx hi
      split at h
      · rename_i m hk hkt hz
        simp only [ht, hxx, hi, hf k (.inr (.inr (.inr hxx))) _ hk trivial, hk, hkt, hz]
      · exact no_false h
    · exact no_false h
  · rename_i args aty
    split at h
    · rename_i x t hx ht
      have hargs : args = #[x] := by rw [← Array.toArray_toList (xs := args), hx]
      have hf := hf x (by simp [Op.operands, Call.operands, hargs])
      unfold lenV at h ⊢
      split at h
      · rename_i l htt hxx; simp only [htt, hxx]
      · rename_i n e htt; simp only [htt]
      · rename_i e k htt hxx
        split at h
        · rename_i esz es hk
          simp only [htt, hxx, hf k (.inr (.inr (.inl hxx))) _ hk trivial, hk]
        · exact no_false h
      · rename_i e y hy htt hxx
        simp only [htt, hxx]
      · exact no_false h
    · exact no_false h

end
end Go.Ab
