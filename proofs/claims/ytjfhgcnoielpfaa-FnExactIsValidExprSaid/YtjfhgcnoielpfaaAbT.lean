/-
  ABSTRACT VALUES FOR A WALK, PART 20: the rules in the form in which a walk uses them, and the equations by which simp walks a region.
-/
import Derived.Test.YtjfhgcnoielpfaaAbS
set_option linter.unusedSimpArgs false
set_option linter.unusedVariables false
namespace Go.Ab

section
variable {P : Program} {E : Bool} {S S' : Store} {N : Nat} {s : St}

/-! ### values of several operands (no function stands alone, so that simp does not go into it) -/

def lookO (tm : List (Nat × V)) (t : Option Nat) : Option V := t.map (look tm)
theorem lookO_eq {tm : List (Nat × V)} {t : Option Nat} : lookO tm t = t.map (look tm) := rfl
theorem lookO_some {tm : List (Nat × V)} {t : Nat} : lookO tm (some t) = some (look tm t) := rfl
theorem lookO_none {tm : List (Nat × V)} : lookO tm none = none := rfl
def evL (tm : List (Nat × V)) (l : List Operand) : List V := l.map (ev tm)
theorem evL_nil {tm : List (Nat × V)} : evL tm [] = [] := rfl
theorem evL_cons {tm : List (Nat × V)} {x : Operand} {l : List Operand} : evL tm (x :: l) = ev tm x :: evL tm l := rfl
def evO (tm : List (Nat × V)) (x : Option Operand) : Option V := x.map (ev tm)
theorem evO_some {tm : List (Nat × V)} {x : Operand} : evO tm (some x) = some (ev tm x) := rfl
theorem evO_none {tm : List (Nat × V)} : evO tm none = none := rfl
def evP (tm : List (Nat × V)) (l : List (Nat × Operand)) : List (Nat × V) := l.map fun x => (x.1, ev tm x.2)
theorem evP_nil {tm : List (Nat × V)} : evP tm [] = [] := rfl
theorem evP_cons {tm : List (Nat × V)} {i : Nat} {x : Operand} {l : List (Nat × Operand)} : evP tm ((i, x) :: l) = (i, ev tm x) :: evP tm l := rfl

/-! ### conditions -/

/-- Two ways on, by a bool. -/
def Split (x : Bool) (A B : St → Prop) (s : St) : Prop := (x = true → A s) ∧ (x = false → B s)

theorem split2 {x : Bool} {A B : St → Prop} (h1 : x = true → A s) (h2 : x = false → B s) : Split x A B s := ⟨h1, h2⟩
theorem split_true {A B : St → Prop} : Split true A B s = A s := by simp [Split]
theorem split_false {A B : St → Prop} : Split false A B s = B s := by simp [Split]

def putK (dst : Option Nat) (v : V) (K : St → Prop) (s : St) : Prop := K (s.put dst v)
theorem putK_eq {dst : Option Nat} {v : V} {K : St → Prop} : putK dst v K s = K (s.put dst v) := rfl

def execK (P : Program) (o : Oper) (K : St → Prop) (s : St) : Prop := execW P o s K
def dexecK (P : Program) (E : Bool) (o : Oper) (K : St → Prop) (s : St) : Prop := dexecW P E o s K
theorem execK_eq {o : Oper} {K : St → Prop} : execK P o K s = execW P o s K := rfl
theorem dexecK_eq {o : Oper} {K : St → Prop} : dexecK P E o K s = dexecW P E o s K := rfl

def guardV (dst : Option Nat) (want : Bool) (A K : St → Prop) (s : St) : Option V → Prop
  | some (.c (.d (.b x))) => match want with
    | true => Split x A (putK dst (.tup []) K) s
    | false => Split x (putK dst (.tup []) K) A s
  | some (.tup []) => K (s.put dst (.tup []))
  | _ => False

theorem guardW_none {R : Array Oper} {dst op ty pos after} {K : St → Prop} : guardW P R ⟨dst, op, ty, pos, after, none⟩ s K = execW P ⟨dst, op, ty, pos, after, none⟩ s K := rfl
theorem guardW_some {R : Array Oper} {dst op ty pos after j want} {K : St → Prop} : guardW P R ⟨dst, op, ty, pos, after, some (j, want)⟩ s K =
    guardV dst want (execK P ⟨dst, op, ty, pos, after, some (j, want)⟩ K) K s (lookO s.tm (dstOf R j)) := by
  show guardW P R _ s K = _
  simp only [guardW, ← lookO_eq]
  generalize lookO s.tm (dstOf R j) = v
  cases v with
  | none => rfl
  | some v =>
    cases v with
    | c x => cases x with
      | d x => cases x with
        | b x => cases want <;> simp [guardV, Split, putK, execK, and_comm]
        | _ => rfl
      | _ => rfl
    | tup l => cases l <;> rfl
    | _ => rfl
theorem dguardW_none {R : Array Oper} {dst op ty pos after} {K : St → Prop} : dguardW P E R ⟨dst, op, ty, pos, after, none⟩ s K = dexecW P E ⟨dst, op, ty, pos, after, none⟩ s K := rfl
theorem dguardW_some {R : Array Oper} {dst op ty pos after j want} {K : St → Prop} : dguardW P E R ⟨dst, op, ty, pos, after, some (j, want)⟩ s K =
    guardV dst want (dexecK P E ⟨dst, op, ty, pos, after, some (j, want)⟩ K) K s (lookO s.tm (dstOf R j)) := by
  simp only [dguardW, ← lookO_eq]
  generalize lookO s.tm (dstOf R j) = v
  cases v with
  | none => rfl
  | some v =>
    cases v with
    | c x => cases x with
      | d x => cases x with
        | b x => cases want <;> simp [guardV, Split, putK, dexecK, and_comm]
        | _ => rfl
      | _ => rfl
    | tup l => cases l <;> rfl
    | _ => rfl

/-! ### what stands behind an operation is left alone -/

@[congr] theorem rops_congr {R : Array Oper} {os : List Oper} {s s' : St} {K : St → Prop} (h2 : s = s') : rops P R os s K = rops P R os s' K := by rw [h2]
@[congr] theorem dops_congr {R : Array Oper} {os : List Oper} {s s' : St} {K : St → Prop} (h2 : s = s') : dops P E R os s K = dops P E R os s' K := by rw [h2]
@[congr] theorem guardW_congr {R : Array Oper} {o : Oper} {s s' : St} {K : St → Prop} (h2 : s = s') : guardW P R o s K = guardW P R o s' K := by rw [h2]
@[congr] theorem dguardW_congr {R : Array Oper} {o : Oper} {s s' : St} {K : St → Prop} (h2 : s = s') : dguardW P E R o s K = dguardW P E R o s' K := by rw [h2]
@[congr] theorem guardV_congr {dst : Option Nat} {want : Bool} {A K : St → Prop} {s s' : St} {v v' : Option V} (h2 : s = s') (h3 : v = v') : guardV dst want A K s v = guardV dst want A K s' v' := by rw [h2, h3]
@[congr] theorem Split_congr {x x' : Bool} {A B : St → Prop} {s s' : St} (h : x = x') (h2 : s = s') : Split x A B s = Split x' A B s' := by rw [h, h2]
@[congr] theorem execW_congr {o : Oper} {s s' : St} {K : St → Prop} (h2 : s = s') : execW P o s K = execW P o s' K := by rw [h2]
@[congr] theorem dexecW_congr {o : Oper} {s s' : St} {K : St → Prop} (h2 : s = s') : dexecW P E o s K = dexecW P E o s' K := by rw [h2]
@[congr] theorem newObj_congr {s s' : St} {dst : Option Nat} {o o' : Obj} {mk : Key → V} {K : St → Prop} (h1 : s = s') (h2 : o = o') : newObj s dst o mk K = newObj s' dst o' mk K := by rw [h1, h2]
@[congr] theorem allocW_congr {t : TypeId} {s s' : St} {dst : Option Nat} {K : St → Prop} (h1 : s = s') : allocW P t s dst K = allocW P t s' dst K := by rw [h1]
@[congr] theorem boxW_congr {v v' : V} {s s' : St} {dst : Option Nat} {K : St → Prop} (h1 : v = v') (h2 : s = s') : boxW v s dst K = boxW v' s' dst K := by rw [h1, h2]
@[congr] theorem storeW_congr {t : TypeId} {a a' x x' : V} {s s' : St} {dst : Option Nat} {K : St → Prop} (h1 : a = a') (h3 : x = x') (h2 : s = s') : storeW P t a x s dst K = storeW P t a' x' s' dst K := by rw [h1, h2, h3]
@[congr] theorem makeW_congr {t : TypeId} {a a' x x' : V} {s s' : St} {dst : Option Nat} {K : St → Prop} (h1 : a = a') (h3 : x = x') (h2 : s = s') : makeW P t a x s dst K = makeW P t a' x' s' dst K := by rw [h1, h2, h3]
@[congr] theorem appendW_congr {t u : TypeId} {a a' x x' : V} {s s' : St} {dst : Option Nat} {K : St → Prop} (h1 : a = a') (h3 : x = x') (h2 : s = s') : appendW P t u a x s dst K = appendW P t u a' x' s' dst K := by rw [h1, h2, h3]
@[congr] theorem mapNewW_congr {s s' : St} {dst : Option Nat} {K : St → Prop} (h2 : s = s') : mapNewW s dst K = mapNewW s' dst K := by rw [h2]
@[congr] theorem mapPutW_congr {t : TypeId} {a a' x x' y y' : V} {s s' : St} {dst : Option Nat} {K : St → Prop} (h1 : a = a') (h3 : x = x') (h4 : y = y') (h2 : s = s') : mapPutW P t a x y s dst K = mapPutW P t a' x' y' s' dst K := by rw [h1, h2, h3, h4]
@[congr] theorem CallW_congr {f : FuncId} {args args' : List V} {s s' : St} {dst : Option Nat} {K : St → Prop} (h1 : args = args') (h2 : s = s') : CallW P f args s dst K = CallW P f args' s' dst K := by rw [h1, h2]
@[congr] theorem callW_congr {c : Call} {s s' : St} {dst : Option Nat} {K : St → Prop} (h2 : s = s') : callW P c s dst K = callW P c s' dst K := by rw [h2]
@[congr] theorem thenK_congr {K : St → Prop} {Q : Exit → St → Prop} {e : Exit} {s s' : St} (h2 : s = s') : thenK K Q e s = thenK K Q e s' := by rw [h2]

/-- A side condition, and what is asked of the value. -/
def nextW (s : St) (dst : Option Nat) (K : St → Prop) (r : R) : Prop := r.1 ∧ K (s.put dst r.2)
@[congr] theorem nextW_congr {s s' : St} {dst : Option Nat} {K : St → Prop} {r r' : R} (h1 : s = s') (h2 : r = r') : nextW s dst K r = nextW s' dst K r' := by rw [h1, h2]
theorem nextW_mk {dst : Option Nat} {K : St → Prop} {p : Prop} {v : V} : nextW s dst K (p, v) = (p ∧ K (s.put dst v)) := rfl

/-! ### calls -/

def capV (caps : List (Key × Nat)) : List V := caps.map fun y => .c (.ptr y.1 y.2)

/-- A call of a function value, in the order of the text. -/
def CallV (P : Program) (fv : V) (args : List V) (s : St) (dst : Option Nat) (K : St → Prop) : Prop :=
  match fv with
  | .c (.fn f caps) => CallW P f (args ++ capV caps) s dst K
  | _ => False

/-- A call in a drawn order: one that comes to one state if E, else one that only computes. -/
def CallN (P : Program) (E : Bool) (f : FuncId) (args : List V) (s : St) (dst : Option Nat) (K : St → Prop) : Prop :=
  match E with
  | true => ∃ S' v, CallW P f args s dst (fun t => t = St.put ⟨s.tm, S'⟩ dst v) ∧ K (St.put ⟨s.tm, S'⟩ dst v)
  | false => ∃ r, PCall P f args r ∧ K (s.put dst r)

def CallM (P : Program) (E : Bool) (fv : V) (args : List V) (s : St) (dst : Option Nat) (K : St → Prop) : Prop :=
  match fv with
  | .c (.fn f caps) => CallN P E f (args ++ capV caps) s dst K
  | _ => False

@[congr] theorem CallV_congr {fv fv' : V} {args args' : List V} {s s' : St} {dst : Option Nat} {K : St → Prop} (h1 : fv = fv') (h3 : args = args') (h2 : s = s') : CallV P fv args s dst K = CallV P fv' args' s' dst K := by rw [h1, h2, h3]
@[congr] theorem CallM_congr {fv fv' : V} {args args' : List V} {s s' : St} {dst : Option Nat} {K : St → Prop} (h1 : fv = fv') (h3 : args = args') (h2 : s = s') : CallM P E fv args s dst K = CallM P E fv' args' s' dst K := by rw [h1, h2, h3]
@[congr] theorem CallN_congr {f : FuncId} {args args' : List V} {s s' : St} {dst : Option Nat} {K : St → Prop} (h1 : args = args') (h2 : s = s') : CallN P E f args s dst K = CallN P E f args' s' dst K := by rw [h1, h2]


theorem callW_value {x : Operand} {args : Array Operand} {ts : Array TypeId} {dst : Option Nat} {K : St → Prop} : callW P ⟨.value x, args, ts⟩ s dst K = CallV P (ev s.tm x) (evL s.tm args.toList) s dst K := rfl
theorem callW_append {x y : Operand} {t u : TypeId} {dst : Option Nat} {K : St → Prop} : callW P ⟨.builtin .append, #[x, y], #[t, u]⟩ s dst K = appendW P t u (ev s.tm x) (ev s.tm y) s dst K := rfl
theorem callW_len {x : Operand} {t : TypeId} {dst : Option Nat} {K : St → Prop} : callW P ⟨.builtin .len, #[x], #[t]⟩ s dst K = nextW s dst K (lenV P s.st t (ev s.tm x)) := rfl
theorem callW_max {x y : Operand} {ts : Array TypeId} {dst : Option Nat} {K : St → Prop} : callW P ⟨.builtin .max, #[x, y], ts⟩ s dst K = nextW s dst K (maxV true (ev s.tm x) (ev s.tm y)) := rfl
theorem callW_min {x y : Operand} {ts : Array TypeId} {dst : Option Nat} {K : St → Prop} : callW P ⟨.builtin .min, #[x, y], ts⟩ s dst K = nextW s dst K (maxV false (ev s.tm x) (ev s.tm y)) := rfl
theorem nval_len {x : Operand} {t : TypeId} {tm : List (Nat × V)} : nval P S tm (.call ⟨.builtin .len, #[x], #[t]⟩) = lenV P S t (ev tm x) := rfl

/-- A call, in the order of the text (none) or in a drawn one. -/
def CallG (P : Program) (mode : Option Bool) (f : FuncId) (args : List V) (s : St) (dst : Option Nat) (K : St → Prop) : Prop :=
  match mode with
  | some E => CallN P E f args s dst K
  | none => CallW P f args s dst K
@[congr] theorem CallG_congr {dr : Option Bool} {f : FuncId} {args args' : List V} {s s' : St} {dst : Option Nat} {K : St → Prop} (h1 : args = args') (h2 : s = s') : CallG P dr f args s dst K = CallG P dr f args' s' dst K := by rw [h1, h2]
theorem callV_fn {f : Nat} {caps : List (Key × Nat)} {args : List V} {dst : Option Nat} {K : St → Prop} : CallV P (.c (.fn f caps)) args s dst K = CallG P none f (args ++ capV caps) s dst K := rfl
theorem callM_fn {f : Nat} {caps : List (Key × Nat)} {args : List V} {dst : Option Nat} {K : St → Prop} : CallM P E (.c (.fn f caps)) args s dst K = CallG P (some E) f (args ++ capV caps) s dst K := rfl

/-- A call that only computes, in either order. -/
theorem call_w {dr : Option Bool} {f : FuncId} {args : List V} {dst : Option Nat} {K : St → Prop} {r : V} (h : PCall P f (args.map V.bor) r) (hK : K (s.put dst r)) : CallG P dr f args s dst K := by
  cases dr with
  | none => exact callW_pure h hK
  | some E =>
    cases E with
    | true => exact ⟨s.st, r, callW_pure h rfl, hK⟩
    | false => exact ⟨r, fun S => (h S).bor, hK⟩

/-- May a call there change the objects? -/
def effOk : Option Bool → Bool
  | some false => false
  | _ => true

/-- A call that comes to one state. -/
theorem call_d {dr : Option Bool} {f : FuncId} {args : List V} {dst : Option Nat} {K : St → Prop} {r : V} {S1 : Store} (hm : effOk dr = true) (h : ACall P f args s.st (fun r' S' => r' = r ∧ S' = S1)) (hK : K (St.put ⟨s.tm, S1⟩ dst r)) : CallG P dr f args s dst K := by
  cases dr with
  | none => exact .inl ⟨_, h, fun r' S' e => by rw [e.1, e.2]; exact hK⟩
  | some E =>
    cases E with
    | true => exact ⟨S1, r, .inl ⟨_, h, fun r' S' e => by rw [e.1, e.2]⟩, hK⟩
    | false => cases hm

/-- A call that may change the stack. -/
theorem call_e {f : FuncId} {args : List V} {dst : Option Nat} {K : St → Prop} {post : V → Store → Prop} (h : ACall P f args s.st post) (hK : ∀ r S', post r S' → K (St.put ⟨s.tm, S'⟩ dst r)) : CallG P none f args s dst K := .inl ⟨post, h, hK⟩

/-- A call of a function that the model stands in for. -/
theorem call_x {f : FuncId} {args : List V} {dst : Option Nat} {K : St → Prop} {r : V} (h : XCall P f args r) (hK : K (St.put s dst r)) : CallG P none f args s dst K := .inr ⟨r, h, hK⟩

/-! ### the operations, one at a time -/

def ropsK (P : Program) (R : Array Oper) (os : List Oper) (K : St → Prop) (s : St) : Prop := rops P R os s K
def dopsK (P : Program) (E : Bool) (R : Array Oper) (os : List Oper) (K : St → Prop) (s : St) : Prop := dops P E R os s K
@[congr] theorem ropsK_congr {R : Array Oper} {os : List Oper} {s s' : St} {K : St → Prop} (h2 : s = s') : ropsK P R os K s = ropsK P R os K s' := by rw [h2]
@[congr] theorem dopsK_congr {R : Array Oper} {os : List Oper} {s s' : St} {K : St → Prop} (h2 : s = s') : dopsK P E R os K s = dopsK P E R os K s' := by rw [h2]

-- the state is a pair here, so that it is computed before an operation is looked at
section
variable {tm : List (Nat × V)} {R : Array Oper} {o : Oper} {os : List Oper} {K : St → Prop}
theorem rops_nil : rops P R [] ⟨tm, S⟩ K = K ⟨tm, S⟩ := rfl
theorem rops_cons : rops P R (o :: os) ⟨tm, S⟩ K = guardW P R o ⟨tm, S⟩ (ropsK P R os K) := rfl
theorem ropsK_nil : ropsK P R [] K ⟨tm, S⟩ = K ⟨tm, S⟩ := rfl
theorem ropsK_cons : ropsK P R (o :: os) K ⟨tm, S⟩ = guardW P R o ⟨tm, S⟩ (ropsK P R os K) := rfl
theorem dops_nil : dops P E R [] ⟨tm, S⟩ K = K ⟨tm, S⟩ := rfl
theorem dops_cons : dops P E R (o :: os) ⟨tm, S⟩ K = dguardW P E R o ⟨tm, S⟩ (dopsK P E R os K) := rfl
theorem dopsK_nil : dopsK P E R [] K ⟨tm, S⟩ = K ⟨tm, S⟩ := rfl
theorem dopsK_cons : dopsK P E R (o :: os) K ⟨tm, S⟩ = dguardW P E R o ⟨tm, S⟩ (dopsK P E R os K) := rfl
end

section
variable {dst : Option Nat} {ty : TypeId} {pos : String} {after : Array Edge} {g : Option (Nat × Bool)} {K : St → Prop}

theorem exec_alloc {t : TypeId} : execW P ⟨dst, .alloc t, ty, pos, after, g⟩ s K = allocW P t s dst K := rfl
theorem exec_box {t : TypeId} {x : Operand} : execW P ⟨dst, .box t x, ty, pos, after, g⟩ s K = boxW (ev s.tm x) s dst K := rfl
theorem exec_store {t : TypeId} {a x : Operand} : execW P ⟨dst, .store t a x, ty, pos, after, g⟩ s K = storeW P t (ev s.tm a) (ev s.tm x) s dst K := rfl
theorem exec_make {t : TypeId} {a x : Operand} : execW P ⟨dst, .makeSlice t a x, ty, pos, after, g⟩ s K = makeW P t (ev s.tm a) (ev s.tm x) s dst K := rfl
theorem exec_makeMap {t : TypeId} : execW P ⟨dst, .makeMap t none, ty, pos, after, g⟩ s K = mapNewW s dst K := rfl
theorem exec_mapUpdate {t : TypeId} {x k v : Operand} : execW P ⟨dst, .mapUpdate t x k v, ty, pos, after, g⟩ s K = mapPutW P t (ev s.tm x) (ev s.tm k) (ev s.tm v) s dst K := rfl
theorem exec_lookup {t : TypeId} {x i : Operand} : execW P ⟨dst, .lookup t x i false, ty, pos, after, g⟩ s K = nextW s dst K (lookupV P s.st t (ev s.tm x) (ev s.tm i)) := rfl
theorem dexec_makeMap {t : TypeId} : dexecW P E ⟨dst, .makeMap t none, ty, pos, after, g⟩ s K = mapNewW s dst K := rfl
theorem dexec_mapUpdate {t : TypeId} {x k v : Operand} : dexecW P E ⟨dst, .mapUpdate t x k v, ty, pos, after, g⟩ s K = mapPutW P t (ev s.tm x) (ev s.tm k) (ev s.tm v) s dst K := rfl
theorem dexec_lookup {t : TypeId} {x i : Operand} : dexecW P E ⟨dst, .lookup t x i false, ty, pos, after, g⟩ s K = nextW s dst K (lookupV P s.st t (ev s.tm x) (ev s.tm i)) := rfl
theorem exec_call {c : Call} : execW P ⟨dst, .call c, ty, pos, after, g⟩ s K = callW P c s dst K := rfl
theorem exec_move {x : Operand} : execW P ⟨dst, .move x, ty, pos, after, g⟩ s K = K (s.put dst (ev s.tm x)) := by simp [execW, nval]
theorem exec_assign {x : Operand} : execW P ⟨dst, .assign x, ty, pos, after, g⟩ s K = K (s.put dst (ev s.tm x)) := by simp [execW, nval]
theorem exec_pick {c a b : Operand} : execW P ⟨dst, .pick c a b, ty, pos, after, g⟩ s K = nextW s dst K (pickV (ev s.tm c) (ev s.tm a) (ev s.tm b)) := rfl
theorem exec_load {t : TypeId} {a : Operand} : execW P ⟨dst, .load t a, ty, pos, after, g⟩ s K = nextW s dst K (loadV P s.st t (ev s.tm a)) := rfl
theorem exec_fieldAddr {t : TypeId} {x : Operand} {f : Nat} : execW P ⟨dst, .fieldAddr t x f, ty, pos, after, g⟩ s K = nextW s dst K (fieldAddrV P s.st t (ev s.tm x) f) := rfl
theorem exec_field {t : TypeId} {x : Operand} {f : Nat} : execW P ⟨dst, .field t x f, ty, pos, after, g⟩ s K = nextW s dst K (fieldV P t (ev s.tm x) f) := rfl
theorem exec_indexAddr {t : TypeId} {x i : Operand} : execW P ⟨dst, .indexAddr t x i, ty, pos, after, g⟩ s K = nextW s dst K (indexAddrV P s.st t (ev s.tm x) (ev s.tm i)) := rfl
theorem exec_index {t : TypeId} {x i : Operand} : execW P ⟨dst, .index t x i, ty, pos, after, g⟩ s K = nextW s dst K (indexV P t (ev s.tm x) (ev s.tm i)) := rfl
theorem exec_binOp {op : BinOp} {t u : TypeId} {x y : Operand} : execW P ⟨dst, .binOp op t x y u, ty, pos, after, g⟩ s K = nextW s dst K (binV P op t (ev s.tm x) (ev s.tm y)) := rfl
theorem exec_unOp {op : UnOp} {t : TypeId} {x : Operand} : execW P ⟨dst, .unOp op t x, ty, pos, after, g⟩ s K = nextW s dst K (unV op (ev s.tm x)) := rfl
theorem exec_convert {a b : TypeId} {x : Operand} : execW P ⟨dst, .convert a b x, ty, pos, after, g⟩ s K = nextW s dst K (convV P a b (ev s.tm x)) := rfl
theorem exec_extract {x : Operand} {i : Nat} : execW P ⟨dst, .extract x i, ty, pos, after, g⟩ s K = nextW s dst K (extractV (ev s.tm x) i) := rfl
theorem exec_makeFunc {fn : Fn} {a b : Array Operand} : execW P ⟨dst, .makeFunc fn a b, ty, pos, after, g⟩ s K = nextW s dst K (makeFuncV fn (evL s.tm a.toList) (evL s.tm b.toList)) := rfl
theorem exec_nilCheck {x : Operand} : execW P ⟨dst, .nilCheck x, ty, pos, after, g⟩ s K = nextW s dst K (nilCheckV s.st (ev s.tm x)) := rfl
theorem exec_slice {t : TypeId} {x : Operand} {lo hi mx : Option Operand} : execW P ⟨dst, .slice t x lo hi mx, ty, pos, after, g⟩ s K = nextW s dst K (sliceV P t (ev s.tm x) (evO s.tm lo) (evO s.tm hi) (evO s.tm mx)) := rfl
theorem exec_build {t : TypeId} {parts : Array (Nat × Operand)} : execW P ⟨dst, .build t parts, ty, pos, after, g⟩ s K = nextW s dst K (buildV P t (evP s.tm parts.toList)) := rfl
theorem exec_buildSlice {t : TypeId} {n : Nat} {parts : Array (Nat × Operand)} : execW P ⟨dst, .buildSlice t n parts, ty, pos, after, g⟩ s K = nextW s dst K (buildSliceV P t n (evP s.tm parts.toList)) := rfl

theorem dexec_alloc {t : TypeId} : dexecW P E ⟨dst, .alloc t, ty, pos, after, g⟩ s K = allocW P t s dst K := rfl
theorem dexec_box {t : TypeId} {x : Operand} : dexecW P E ⟨dst, .box t x, ty, pos, after, g⟩ s K = boxW (ev s.tm x) s dst K := rfl
theorem dexec_store {t : TypeId} {a x : Operand} : dexecW P E ⟨dst, .store t a x, ty, pos, after, g⟩ s K = storeW P t (ev s.tm a) (ev s.tm x) s dst K := rfl
theorem dexec_make {t : TypeId} {a x : Operand} : dexecW P E ⟨dst, .makeSlice t a x, ty, pos, after, g⟩ s K = makeW P t (ev s.tm a) (ev s.tm x) s dst K := rfl
theorem dexec_append {args : Array Operand} {ts : Array TypeId} : dexecW P E ⟨dst, .call ⟨.builtin .append, args, ts⟩, ty, pos, after, g⟩ s K = callW P ⟨.builtin .append, args, ts⟩ s dst K := rfl
theorem dexec_move {x : Operand} : dexecW P E ⟨dst, .move x, ty, pos, after, g⟩ s K = K (s.put dst (ev s.tm x)) := by simp [dexecW, isD, nval]
theorem dexec_assign {x : Operand} : dexecW P E ⟨dst, .assign x, ty, pos, after, g⟩ s K = K (s.put dst (ev s.tm x)) := by simp [dexecW, isD, nval]
theorem dexec_pick {c a b : Operand} : dexecW P E ⟨dst, .pick c a b, ty, pos, after, g⟩ s K = nextW s dst K (pickV (ev s.tm c) (ev s.tm a) (ev s.tm b)) := rfl
theorem dexec_load {t : TypeId} {a : Operand} : dexecW P E ⟨dst, .load t a, ty, pos, after, g⟩ s K = nextW s dst K (loadV P s.st t (ev s.tm a)) := rfl
theorem dexec_fieldAddr {t : TypeId} {x : Operand} {f : Nat} : dexecW P E ⟨dst, .fieldAddr t x f, ty, pos, after, g⟩ s K = nextW s dst K (fieldAddrV P s.st t (ev s.tm x) f) := rfl
theorem dexec_field {t : TypeId} {x : Operand} {f : Nat} : dexecW P E ⟨dst, .field t x f, ty, pos, after, g⟩ s K = nextW s dst K (fieldV P t (ev s.tm x) f) := rfl
theorem dexec_indexAddr {t : TypeId} {x i : Operand} : dexecW P E ⟨dst, .indexAddr t x i, ty, pos, after, g⟩ s K = nextW s dst K (indexAddrV P s.st t (ev s.tm x) (ev s.tm i)) := rfl
theorem dexec_index {t : TypeId} {x i : Operand} : dexecW P E ⟨dst, .index t x i, ty, pos, after, g⟩ s K = nextW s dst K (indexV P t (ev s.tm x) (ev s.tm i)) := rfl
theorem dexec_binOp {op : BinOp} {t u : TypeId} {x y : Operand} : dexecW P E ⟨dst, .binOp op t x y u, ty, pos, after, g⟩ s K = nextW s dst K (binV P op t (ev s.tm x) (ev s.tm y)) := rfl
theorem dexec_unOp {op : UnOp} {t : TypeId} {x : Operand} : dexecW P E ⟨dst, .unOp op t x, ty, pos, after, g⟩ s K = nextW s dst K (unV op (ev s.tm x)) := rfl
theorem dexec_convert {a b : TypeId} {x : Operand} : dexecW P E ⟨dst, .convert a b x, ty, pos, after, g⟩ s K = nextW s dst K (convV P a b (ev s.tm x)) := rfl
theorem dexec_extract {x : Operand} {i : Nat} : dexecW P E ⟨dst, .extract x i, ty, pos, after, g⟩ s K = nextW s dst K (extractV (ev s.tm x) i) := rfl
theorem dexec_makeFunc {fn : Fn} {a b : Array Operand} : dexecW P E ⟨dst, .makeFunc fn a b, ty, pos, after, g⟩ s K = nextW s dst K (makeFuncV fn (evL s.tm a.toList) (evL s.tm b.toList)) := rfl
theorem dexec_nilCheck {x : Operand} : dexecW P E ⟨dst, .nilCheck x, ty, pos, after, g⟩ s K = nextW s dst K (nilCheckV s.st (ev s.tm x)) := rfl
theorem dexec_slice {t : TypeId} {x : Operand} {lo hi mx : Option Operand} : dexecW P E ⟨dst, .slice t x lo hi mx, ty, pos, after, g⟩ s K = nextW s dst K (sliceV P t (ev s.tm x) (evO s.tm lo) (evO s.tm hi) (evO s.tm mx)) := rfl
theorem dexec_build {t : TypeId} {parts : Array (Nat × Operand)} : dexecW P E ⟨dst, .build t parts, ty, pos, after, g⟩ s K = nextW s dst K (buildV P t (evP s.tm parts.toList)) := rfl
theorem dexec_buildSlice {t : TypeId} {n : Nat} {parts : Array (Nat × Operand)} : dexecW P E ⟨dst, .buildSlice t n parts, ty, pos, after, g⟩ s K = nextW s dst K (buildSliceV P t n (evP s.tm parts.toList)) := rfl
theorem dexec_len {args : Array Operand} {ts : Array TypeId} : dexecW P E ⟨dst, .call ⟨.builtin .len, args, ts⟩, ty, pos, after, g⟩ s K = nextW s dst K (nval P s.st s.tm (.call ⟨.builtin .len, args, ts⟩)) := rfl
theorem dexec_max {x y : Operand} {ts : Array TypeId} : dexecW P E ⟨dst, .call ⟨.builtin .max, #[x, y], ts⟩, ty, pos, after, g⟩ s K = nextW s dst K (maxV true (ev s.tm x) (ev s.tm y)) := rfl
theorem dexec_min {x y : Operand} {ts : Array TypeId} : dexecW P E ⟨dst, .call ⟨.builtin .min, #[x, y], ts⟩, ty, pos, after, g⟩ s K = nextW s dst K (maxV false (ev s.tm x) (ev s.tm y)) := rfl
theorem dexec_call {x : Operand} {args : Array Operand} {ts : Array TypeId} : dexecW P E ⟨dst, .call ⟨.value x, args, ts⟩, ty, pos, after, g⟩ s K = CallM P E (ev s.tm x) (evL s.tm args.toList) s dst K := by
  cases E with
  | false =>
    simp only [dexecW, isD, callN]
    generalize ev s.tm x = fv
    cases fv with
    | c x => cases x <;> simp [CallM, CallN, capV, evL]
    | _ => simp [CallM]
  | true =>
    simp only [dexecW, isD, execW, callW]
    generalize ev s.tm x = fv
    cases fv with
    | c x => cases x <;> simp [CallM, CallN, capV, evL]
    | _ => simp [CallM]
end

/-! ### code -/

def condW (v : V) (A B : St → Prop) (s : St) : Prop :=
  match v with
  | .c (.d (.b x)) => Split x A B s
  | _ => False

/-- What a piece of code asks, computed; a loop is left. -/
def CW (P : Program) (N : Nat) : Code → (Exit → St → Prop) → St → Prop
  | .seq x y, Q, s => CW P N x (thenK (CW P N y Q) Q) s
  | .region _ R false, Q, s => rops P R R.toList s (Q .normal)
  | .region _ R true, Q, s => dops P (drawOk true R N) R R.toList s (Q .normal)
  | .cond c x y, Q, s => condW (ev s.tm c) (CW P N x Q) (CW P N y Q) s
  | .block id c, Q, s => CW P N c (inBlk id Q) s
  | .exit id, Q, s => Q (.exit id) s
  | .ret, Q, s => Q .ret s
  | .skip, Q, s => Q .normal s
  | .loop c, Q, s => AW P N (.loop c) Q s
  | _, _, _ => False

def okDst (N : Nat) (R : Array Oper) : Bool := R.toList.all (fun o => match o.dst with | some d => decide (d < N) | none => true)

/-- What is asked of the text alone. -/
def codeOk (N : Nat) : Code → Bool
  | .seq x y => codeOk N x && codeOk N y
  | .region _ R false => okDst N R
  | .region _ R true => drawOk (drawOk true R N) R N
  | .cond _ x y => codeOk N x && codeOk N y
  | .block _ c => codeOk N c
  | .loop c => codeOk N c
  | _ => true

theorem cw_sound (hmix : P.follows .mixedOrders = true) : ∀ (c : Code) (Q : Exit → St → Prop) (s : St), codeOk N c = true → CW P N c Q s → AW P N c Q s
  | .seq x y, Q, s, ok, h => by
    simp only [codeOk, Bool.and_eq_true] at ok
    refine aw_seq (AW.mono (cw_sound hmix x _ s ok.1 h) fun e s' h' => ?_)
    cases e with
    | normal => exact cw_sound hmix y Q s' ok.2 h'
    | _ => exact h'
  | .region _ R false, Q, s, ok, h => aw_region ok h
  | .region _ R true, Q, s, ok, h => aw_draw hmix ok h
  | .cond c x y, Q, s, ok, h => by
    simp only [codeOk, Bool.and_eq_true] at ok
    simp only [CW, condW] at h
    split at h
    · rename_i b hb
      exact aw_cond hb (fun e => cw_sound hmix x Q s ok.1 (h.1 e)) (fun e => cw_sound hmix y Q s ok.2 (h.2 e))
    · exact h.elim
  | .block id c, Q, s, ok, h => aw_block (cw_sound hmix c _ s ok h)
  | .exit id, Q, s, ok, h => aw_exit h
  | .ret, Q, s, ok, h => aw_ret h
  | .skip, Q, s, ok, h => aw_skip h
  | .loop c, Q, s, ok, h => h
  | .rangeFunc _ _ _ _, Q, s, ok, h => h.elim
  | .scope _, Q, s, ok, h => h.elim
  | .label _, Q, s, ok, h => h.elim
  | .goto _, Q, s, ok, h => h.elim
  | .refuse _, Q, s, ok, h => h.elim

theorem cw_seq {x y : Code} {Q : Exit → St → Prop} : CW P N (.seq x y) Q s = CW P N x (thenK (CW P N y Q) Q) s := by rw [CW]
theorem cw_region {id : Nat} {l : List Oper} {Q : Exit → St → Prop} : CW P N (.region id ⟨l⟩ false) Q s = rops P ⟨l⟩ l s (Q .normal) := by rw [CW]
theorem cw_draw {id : Nat} {l : List Oper} {Q : Exit → St → Prop} : CW P N (.region id ⟨l⟩ true) Q s = dops P (drawOk true ⟨l⟩ N) ⟨l⟩ l s (Q .normal) := by rw [CW]
theorem cw_cond {c : Operand} {x y : Code} {Q : Exit → St → Prop} : CW P N (.cond c x y) Q s = condW (ev s.tm c) (CW P N x Q) (CW P N y Q) s := by rw [CW]
theorem cw_block {id : Nat} {c : Code} {Q : Exit → St → Prop} : CW P N (.block id c) Q s = CW P N c (inBlk id Q) s := by rw [CW]
theorem cw_exit {id : Nat} {Q : Exit → St → Prop} : CW P N (.exit id) Q s = Q (.exit id) s := by rw [CW]
theorem cw_ret {Q : Exit → St → Prop} : CW P N .ret Q s = Q .ret s := by rw [CW]
theorem cw_skip {Q : Exit → St → Prop} : CW P N .skip Q s = Q .normal s := by rw [CW]
theorem cw_loop {c : Code} {Q : Exit → St → Prop} : CW P N (.loop c) Q s = AW P N (.loop c) Q s := by rw [CW]

theorem thenK_normal {K : St → Prop} {Q : Exit → St → Prop} : thenK K Q .normal s = K s := rfl
theorem thenK_ret {K : St → Prop} {Q : Exit → St → Prop} : thenK K Q .ret s = Q .ret s := rfl
theorem thenK_exit {K : St → Prop} {Q : Exit → St → Prop} {i : Nat} : thenK K Q (.exit i) s = Q (.exit i) s := rfl
theorem inBlk_normal {id : Nat} {Q : Exit → St → Prop} : inBlk id Q .normal s = Q .normal s := rfl
theorem inBlk_ret {id : Nat} {Q : Exit → St → Prop} : inBlk id Q .ret s = Q .ret s := rfl
theorem inBlk_exit {id i : Nat} {Q : Exit → St → Prop} : inBlk id Q (.exit i) s = if i = id then Q .normal s else Q (.exit i) s := rfl

def retW (post : V → Store → Prop) (s : St) (r : R) : Prop := r.1 ∧ match r.2.ret with
  | some v => post v (tail1 s.st)
  | none => False
theorem retQ_ret {rs : List ResultVar} {post : V → Store → Prop} : retQ P rs post .ret s = retW post s (resV P rs s) := rfl
theorem retQ_normal {rs : List ResultVar} {post : V → Store → Prop} : retQ P rs post .normal s = retW post s (resV P rs s) := rfl
theorem retW_mk {post : V → Store → Prop} {p : Prop} {v : V} : retW post s (p, v) = (p ∧ match v.ret with
  | some v => post v (tail1 s.st)
  | none => False) := rfl

/-- What is asked where a function ends, its rows made fast. -/
def retF (P : Program) (rs : List ResultVar) (post : V → Store → Prop) (e : Exit) (s : St) : Prop := retQ P rs post e (frzAll s)

def retS (P : Program) (rs : List ResultVar) (post : V → Store → Prop) (s : St) : Prop := retW post s (resV P rs s)
theorem retF_ret {rs : List ResultVar} {post : V → Store → Prop} : retF P rs post .ret s = retS P rs post (frzAll s) := rfl
theorem retF_normal {rs : List ResultVar} {post : V → Store → Prop} : retF P rs post .normal s = retS P rs post (frzAll s) := rfl
theorem retS_mk {rs : List ResultVar} {post : V → Store → Prop} {tm : List (Nat × V)} : retS P rs post ⟨tm, S⟩ = retW post ⟨tm, S⟩ (resV P rs ⟨tm, S⟩) := rfl

def mapF (j : Nat) (es : List (List D)) (tm : List (Nat × V)) : List (Nat × V) := tm.map fun x => (x.1, x.2.frz j es)
theorem look_mapF {j : Nat} {es : List (List D)} {tm : List (Nat × V)} {t : Nat} : look (mapF j es tm) t = (look tm t).frz j es := look_map (f := V.frz j es) rfl tm t

def frzC (j : Nat) (tm : List (Nat × V)) (own : List Obj) (Ω : Store) : Option Obj → St
  | some (.mrow _ es) => ⟨mapF j es tm, (own.map (Obj.frz j es)).set j .dead :: Ω⟩
  | _ => ⟨tm, own :: Ω⟩
theorem frzAt_mk {j : Nat} {tm : List (Nat × V)} {own : List Obj} {Ω : Store} : frzAt j ⟨tm, own :: Ω⟩ = frzC j tm own Ω (own[j]?) := by
  unfold frzAt
  simp only
  generalize own[j]? = o
  cases o with
  | none => rfl
  | some o => cases o <;> rfl
theorem frzAll_mk {tm : List (Nat × V)} {own : List Obj} {Ω : Store} : frzAll ⟨tm, own :: Ω⟩ = frzUp own.length ⟨tm, own :: Ω⟩ := rfl

/-- A function, by what its text asks. -/
theorem acall_cw {f : FuncId} {fn : Func} {c : Code} {args : List V} {post : V → Store → Prop} {rs : List ResultVar} (hmix : P.follows .mixedOrders = true) (hf : P.funcs[f]? = some fn) (hN : fn.ntmps = N)
    (hb : fn.body = some c) (hn : (fn.name == "runtime.NumGoroutine") = false) (hr : fn.results.toList = rs) (hl : Nat.ble args.length N = true) (hok : codeOk N c = true)
    (h : CW P N c (retF P rs post) ⟨argTm (args.map (V.up 1)) 0, [] :: S⟩) : ACall P f args S post := by
  subst hN
  subst hr
  exact acall_enter hf hb hn (Nat.le_of_ble_eq_true hl) (aw_end frzAll_ghost (cw_sound hmix c _ _ hok h))

end
end Go.Ab
