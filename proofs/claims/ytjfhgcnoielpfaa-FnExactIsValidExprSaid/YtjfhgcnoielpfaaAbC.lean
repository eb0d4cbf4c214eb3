/-
  ABSTRACT VALUES FOR A WALK, PART 3: what a quiet operation yields, as a function of abstract values ('nval': a side condition and a value), and that the machine's operation does so.
-/
import Derived.Test.YtjfhgcnoielpfaaAbB
import Derived.Laws.Strings
import Derived.Laws.Entries
set_option linter.unusedSimpArgs false
set_option linter.unusedVariables false
namespace Go.Ab

def look : List (Nat × V) → Nat → V
  | [], _ => .any
  | (a, v) :: r, t => if a = t then v else look r t

def constC : Value → C
  | .bool b => .d (.b b)
  | .int k n => .d (.i k n)
  | .string s => .d (.s s.data.toList)
  | .slice none 0 0 => .fsl []
  | .pointer none => .d (.o (.pointer none))
  | .nilIface => .d (.o .nilIface)
  | .nilFunc => .d (.o .nilFunc)
  | .map none => .d (.o (.map none))
  | _ => .any

def constV : Value → V
  | .agg a => if a.toList.all Value.oneCell' then .agg (a.toList.map constC) else .any
  | .tuple _ => .any
  | v => .c (constC v)

def ev (tm : List (Nat × V)) : Operand → V
  | .tmp t => look tm t
  | .const v => constV v
  | .global _ => .any
  | .func f => .c (.fn f [])

def RepT (w : World) (σ : Nat → Nat) (S : Store) (β : Hs) (tm : List (Nat × V)) (a : Act) : Prop := ∀ t, RepV w σ S β (look tm t) (a.tmps.getD t undef)

theorem rep_constC (w : World) (σ : Nat → Nat) (S : Store) (β : Hs) (v : Value) : RepC w σ S β (constC v) v := by
  unfold constC
  split
  · exact .b _
  · exact .i _ _
  · rename_i s; exact .s s.data.toList
  · exact ⟨.nil _ _, _, _, rfl⟩
  · exact .o _ rfl
  · exact .o _ rfl
  · exact .o _ rfl
  · exact .o _ rfl
  · exact True.intro

theorem rep_constV (w : World) (σ : Nat → Nat) (S : Store) (β : Hs) (v : Value) : RepV w σ S β (constV v) v := by
  cases v with
  | agg a =>
    simp only [constV]
    split
    · rename_i h
      refine ⟨a, rfl, by simp, fun j x hx => ?_⟩
      rw [List.getElem?_map] at hx
      cases hv : a.toList[j]? with
      | none => rw [hv] at hx; cases hx
      | some v =>
        rw [hv] at hx
        cases hx
        exact ⟨v, rfl, rep_constC _ _ _ _ _, List.all_eq_true.1 h v (List.mem_of_getElem? hv)⟩
    · exact True.intro
  | tuple vs => exact True.intro
  | _ => exact ⟨rep_constC _ _ _ _ _, rfl⟩

theorem rep_ev {w σ S β tm} {a : Act} (h : RepT w σ S β tm a) (x : Operand) : RepV w σ S β (ev tm x) (a.eval x) := by
  cases x with
  | tmp t => exact h t
  | const v => exact rep_constV _ _ _ _ v
  | global g => exact True.intro
  | func f => exact ⟨⟨#[], rfl, rfl, fun j k off e => by simp at e⟩, rfl⟩

theorem RepT.mono {w σ w' σ'} {S : Store} {β : Hs} {S' : Store} {β' : Hs} {tm : List (Nat × V)} {a : Act} (hn : Near w σ w' σ') (hk : Keep S β S' β') (h : RepT w σ S β tm a) : RepT w' σ' S' β' tm a :=
  fun t => (h t).mono hn hk

/-! ### the values -/

abbrev R := Prop × V
def no : R := (False, .any)

def toD : C → Option D
  | .d x => some x
  | .tsl _ es => some (.sl es)
  | .fsl es => some (.sl es)
  | _ => none

def cellsV : V → Option (List C)
  | .c x => some [x]
  | .agg cs => some cs
  | _ => none

def aggT (P : Program) (t : TypeId) : Bool :=
  match P.underlying t with
  | some (.struct _) | some (.array _ _) => true
  | _ => false

def pickV (c a b : V) : R :=
  match c with
  | .c (.d (.b x)) => (True, if x then a else b)
  | _ => no

def headD : List D → R
  | x :: _ => (True, .c (.d x))
  | [] => no

def headC : List C → R
  | x :: _ => (True, .c x)
  | [] => no

def loadD (P : Program) (t : TypeId) (cs : List D) : R :=
  if aggT P t then (P.cellsOf t ≤ cs.length, .agg ((cs.take (P.cellsOf t)).map .d)) else headD cs

def loadV (P : Program) (S : Store) (t : TypeId) (a : V) : R :=
  match P.underlying t with
  | none => no
  | some _ =>
    match a with
    | .c (.rptr cs) => loadD P t cs
    | .c (.ptr k off) =>
      match getO S k with
      | some (.box cs) =>
        if aggT P t then (off + P.cellsOf t ≤ cs.length, .agg (((cs.drop off).take (P.cellsOf t)).map (C.up k.1))) else headC ((cs.drop off).map (C.up k.1))
      | _ => no
    | .c (.eptr k i off) =>
      match getO S k with
      | some (.mrow _ es) => ((loadD P t ((es.getD i []).drop off)).1 ∧ i < es.length, (loadD P t ((es.getD i []).drop off)).2)
      | _ => no
    | _ => no

def fieldAddrV (P : Program) (S : Store) (s : TypeId) (x : V) (f : Nat) : R :=
  match P.underlying s with
  | some (.struct fs) =>
    match fs[f]? with
    | some fd =>
      if P.cellsOf fd.type = 0 then no else
      match x with
      | .c (.rptr cs) => (fd.offset ≤ cs.length, .c (.rptr (cs.drop fd.offset)))
      | .c (.ptr k off) => match getO S k with
        | some (.box _) => (True, .c (.ptr k (off + fd.offset)))
        | _ => no
      | .c (.eptr k i off) => match getO S k with
        | some (.mrow _ _) => (True, .c (.eptr k i (off + fd.offset)))
        | _ => no
      | _ => no
    | none => no
  | _ => no

def partV (P : Program) (t : TypeId) (cs : List C) (off : Nat) : R :=
  match P.underlying t with
  | none => no
  | some _ => if aggT P t then (off + P.cellsOf t ≤ cs.length, .agg ((cs.drop off).take (P.cellsOf t))) else headC (cs.drop off)

def fieldV (P : Program) (t : TypeId) (x : V) (f : Nat) : R :=
  match P.underlying t, x with
  | some (.struct fs), .agg cs =>
    match fs[f]? with
    | some fd => partV P fd.type cs fd.offset
    | none => no
  | _, _ => no

def sliceC : C → Option (List (List D))
  | .d (.sl es) => some es
  | .tsl _ es => some es
  | .fsl es => some es
  | _ => none

def indexAddrV (P : Program) (S : Store) (t : TypeId) (x i : V) : R :=
  match P.underlying t, x, i with
  | some (.slice e), .c (.msl k), .c (.d (.i _ n)) =>
    match getO S k with
    | some (.mrow esz es) => (0 ≤ n ∧ n.toNat < es.length ∧ esz = P.cellsOf e ∧ (P.info? e).isSome = true, .c (.eptr k n.toNat 0))
    | _ => no
  | some (.array len e), .c (.ptr k off), .c (.d (.i _ n)) =>
    match getO S k with
    | some (.box _) => (0 ≤ n ∧ n.toNat < len ∧ (P.info? e).isSome = true, .c (.ptr k (off + n.toNat * P.cellsOf e)))
    | _ => no
  | some (.slice e), .c x, .c (.d (.i _ n)) =>
    match sliceC x with
    | some es => (0 ≤ n ∧ n.toNat < es.length ∧ (es.getD n.toNat []).length = P.cellsOf e ∧ (P.info? e).isSome = true, .c (.rptr (es.getD n.toNat [])))
    | none => no
  | _, _, _ => no

def indexV (P : Program) (t : TypeId) (x i : V) : R :=
  match P.underlying t, x, i with
  | some .string, .c (.d (.s l)), .c (.d (.i _ n)) => (0 ≤ n ∧ n.toNat < l.length, .c (.d (.i .u8 ((l.getD n.toNat 0).toNat))))
  | some (.array len e), .agg cs, .c (.d (.i _ n)) => ((partV P e cs (n.toNat * P.cellsOf e)).1 ∧ 0 ≤ n ∧ n.toNat < len, (partV P e cs (n.toNat * P.cellsOf e)).2)
  | _, _, _ => no

def andK (k : IntKind) (a b : Int) : Int := k.wrap (BitVec.ofInt k.bits a &&& BitVec.ofInt k.bits b).toNat
def orK (k : IntKind) (a b : Int) : Int := k.wrap (BitVec.ofInt k.bits a ||| BitVec.ofInt k.bits b).toNat
def xorK (k : IntKind) (a b : Int) : Int := k.wrap (BitVec.ofInt k.bits a ^^^ BitVec.ofInt k.bits b).toNat
def shlK (k : IntKind) (a b : Int) : Int := k.wrap (a * 2 ^ min b.toNat k.bits)
def shrK (k : IntKind) (a b : Int) : Int := a.fdiv (2 ^ min b.toNat k.bits)

def shOp (op : BinOp) (k : IntKind) (a b : Int) : R :=
  match op with
  | .shl => (0 ≤ b, .c (.d (.i k (shlK k a b))))
  | .shr => (0 ≤ b, .c (.d (.i k (shrK k a b))))
  | _ => no

def intOp (op : BinOp) (k : IntKind) (a b : Int) : R :=
  match op with
  | .and => (True, .c (.d (.i k (andK k a b))))
  | .or => (True, .c (.d (.i k (orK k a b))))
  | .xor => (True, .c (.d (.i k (xorK k a b))))
  | .shl => shOp .shl k a b
  | .shr => shOp .shr k a b
  | .add => (True, .c (.d (.i k (k.wrap (a + b)))))
  | .sub => (True, .c (.d (.i k (k.wrap (a - b)))))
  | .mul => (True, .c (.d (.i k (k.wrap (a * b)))))
  | .quo => (b ≠ 0, .c (.d (.i k (k.wrap (a.tdiv b)))))
  | .rem => (b ≠ 0, .c (.d (.i k (a.tmod b))))
  | .eql => (True, .c (.d (.b (decide (a = b)))))
  | .neq => (True, .c (.d (.b (!decide (a = b)))))
  | .lss => (True, .c (.d (.b (decide (a < b)))))
  | .leq => (True, .c (.d (.b (decide (a ≤ b)))))
  | .gtr => (True, .c (.d (.b (decide (b < a)))))
  | .geq => (True, .c (.d (.b (decide (b ≤ a)))))
  | _ => no

def strOp (op : BinOp) (a b : List UInt8) : R :=
  match op with
  | .add => (a.length + b.length ≤ 1099511627776, .c (.d (.s (a ++ b))))
  | .eql => (True, .c (.d (.b (decide (a = b)))))
  | .neq => (True, .c (.d (.b (!decide (a = b)))))
  | .lss => (True, .c (.d (.b (Op.bytesLess a b))))
  | _ => no

def binV (P : Program) (op : BinOp) (t : TypeId) (x y : V) : R :=
  match x, y with
  | .c (.d (.i k a)), .c (.d (.i k' b)) => if k = k' then intOp op k a b else shOp op k a b
  | .c (.d (.s a)), .c (.d (.s b)) => strOp op a b
  | .c (.d (.b a)), .c (.d (.b b)) =>
    match P.underlying t, op with
    | some .bool, .eql => (True, .c (.d (.b (decide (a = b)))))
    | some .bool, .neq => (True, .c (.d (.b (!decide (a = b)))))
    | _, _ => no
  | _, _ => no

def unV (op : UnOp) (x : V) : R :=
  match op, x with
  | .not, .c (.d (.b x)) => (True, .c (.d (.b (!x))))
  | .neg, .c (.d (.i k n)) => (True, .c (.d (.i k (k.wrap (0 - n)))))
  | _, _ => no

def convV (P : Program) (s t : TypeId) (x : V) : R :=
  match P.underlying s, P.underlying t, x with
  | some _, some (.int k), .c (.d (.i _ n)) => (True, .c (.d (.i k (k.wrap n))))
  | some .string, some .string, .c (.d (.s l)) => (True, .c (.d (.s l)))
  | _, _, _ => no

def extractV (x : V) (i : Nat) : R :=
  match x with
  | .tup xs => match xs[i]? with
    | some (true, cs) => (True, .agg cs)
    | some (false, [c]) => (True, .c c)
    | _ => no
  | _ => no

def capOf : V → Option (Key × Nat)
  | .c (.ptr k off) => some (k, off)
  | _ => none

def makeFuncV (fn : Fn) (first caps : List V) : R :=
  match fn, first with
  | .func f, [] => match caps.mapM capOf with
    | some l => (True, .c (.fn f l))
    | none => no
  | _, _ => no

def nilCheckV (S : Store) (x : V) : R :=
  match x with
  | .c (.ptr k off) => match getO S k with
    | some (.box _) => (True, .c (.ptr k off))
    | _ => no
  | .c (.rptr cs) => (True, .c (.rptr cs))
  | _ => no

def lenV (P : Program) (S : Store) (t : TypeId) (x : V) : R :=
  match P.underlying t, x with
  | some .string, .c (.d (.s l)) => (True, .c (.d (.i .i64 l.length)))
  | some (.array n _), _ => (True, .c (.d (.i .i64 n)))
  | some (.slice _), .c (.msl k) => match getO S k with
    | some (.mrow _ es) => (True, .c (.d (.i .i64 es.length)))
    | _ => no
  | some (.slice _), .c x => match sliceC x with
    | some es => (True, .c (.d (.i .i64 es.length)))
    | none => no
  | _, _ => no

def intOr (x : Option V) (d : Int) : Option Int :=
  match x with
  | none => some d
  | some (.c (.d (.i _ n))) => some n
  | _ => none

def sliceV (P : Program) (t : TypeId) (x : V) (lo hi mx : Option V) : R :=
  match P.underlying t, x, mx with
  | some .string, .c (.d (.s l)), none =>
    match intOr lo 0, intOr hi l.length with
    | some a, some b => (0 ≤ a ∧ a ≤ b ∧ b ≤ l.length, .c (.d (.s ((l.take b.toNat).drop a.toNat))))
    | _, _ => no
  | some (.slice e), .c x, none =>
    match sliceC x with
    | some es =>
      match intOr lo 0, intOr hi es.length with
      | some a, some b => (0 ≤ a ∧ a ≤ b ∧ b ≤ es.length ∧ (∀ y ∈ es, y.length = P.cellsOf e) ∧ (P.info? e).isSome = true, .c (.d (.sl ((es.take b.toNat).drop a.toNat))))
      | _, _ => no
    | none => no
  | _, _, _ => no

def splice (cells : List C) (off : Nat) (xs : List C) : List C := cells.take off ++ xs ++ cells.drop (off + xs.length)

def fillC (place : Nat → Option (Nat × Nat)) : List C → List (Nat × V) → Option (List C)
  | cells, [] => some cells
  | cells, (i, v) :: rest =>
    match place i, cellsV v with
    | some (off, size), some xs => if xs.length = size ∧ off + size ≤ cells.length then fillC place (splice cells off xs) rest else none
    | _, _ => none

def zeroCs (P : Program) (t : TypeId) : Option (List C) := ((P.info? t).bind (·.zero)).bind fun z => if z.cells.toList.all Value.oneCell' then some (z.cells.toList.map constC) else none

def buildV (P : Program) (t : TypeId) (parts : List (Nat × V)) : R :=
  match P.underlying t, zeroCs P t with
  | some (.struct fs), some zs =>
    match fillC (fun i => (fs[i]?).map fun f => (f.offset, P.cellsOf f.type)) zs parts with
    | some cs => (fs.toList.all (fun f => (P.info? f.type).isSome) = true, .agg cs)
    | none => no
  | some (.array _ e), some zs =>
    match fillC (fun i => some (i * P.cellsOf e, P.cellsOf e)) zs parts with
    | some cs => ((P.info? e).isSome = true, .agg cs)
    | none => no
  | _, _ => no

def elemsOf (size : Nat) : List (Nat × V) → Nat → Option (List (List D))
  | [], _ => some []
  | (i, v) :: rest, k =>
    if i = k then
      match (cellsV v).bind (·.mapM toD), elemsOf size rest (k + 1) with
      | some xs, some es => if xs.length = size then some (xs :: es) else none
      | _, _ => none
    else none

def buildSliceV (P : Program) (t : TypeId) (n : Nat) (parts : List (Nat × V)) : R :=
  match P.underlying t with
  | some (.slice e) =>
    match elemsOf (P.cellsOf e) parts 0 with
    | some es => (es.length = n ∧ n * P.cellsOf e ≤ 16777216 ∧ (zeroCs P e).isSome = true, .c (.fsl es))
    | none => no
  | _ => no

def zeroV (P : Program) (t : TypeId) : Option Value := (P.info? t).bind (·.zero)

/-- Is the word in the set? -/
def lookupV (P : Program) (S : Store) (t : TypeId) (x i : V) : R :=
  match P.underlying t, x, i with
  | some (.map kt et), .c (.mp k), .c (.d (.s l)) =>
    match getO S k, P.underlying kt, zeroV P et with
    | some (.mp m), some .string, some (.bool false) => (True, .c (.d (.b (decide (l ∈ m)))))
    | _, _, _ => no
  | _, _, _ => no

/-- The greater (or the lesser) of two ints. -/
def maxV (mx : Bool) : V → V → R
  | .c (.d (.i k a)), .c (.d (.i _ b)) => (True, .c (.d (.i k (match mx with | true => max a b | false => min a b))))
  | _, _ => no

def nval (P : Program) (S : Store) (tm : List (Nat × V)) : Op → R
  | .move x => (True, ev tm x)
  | .assign x => (True, ev tm x)
  | .pick c a b => pickV (ev tm c) (ev tm a) (ev tm b)
  | .load t a => loadV P S t (ev tm a)
  | .fieldAddr s x f => fieldAddrV P S s (ev tm x) f
  | .field t x f => fieldV P t (ev tm x) f
  | .indexAddr t x i => indexAddrV P S t (ev tm x) (ev tm i)
  | .index t x i => indexV P t (ev tm x) (ev tm i)
  | .binOp op t x y _ => binV P op t (ev tm x) (ev tm y)
  | .unOp op _ x => unV op (ev tm x)
  | .convert s t x => convV P s t (ev tm x)
  | .extract x i => extractV (ev tm x) i
  | .makeFunc fn first caps => makeFuncV fn (first.toList.map (ev tm)) (caps.toList.map (ev tm))
  | .nilCheck x => nilCheckV S (ev tm x)
  | .slice t x lo hi mx => sliceV P t (ev tm x) (lo.map (ev tm)) (hi.map (ev tm)) (mx.map (ev tm))
  | .build t parts => buildV P t (parts.toList.map fun x => (x.1, ev tm x.2))
  | .buildSlice t n parts => buildSliceV P t n (parts.toList.map fun x => (x.1, ev tm x.2))
  | .lookup t x i false => lookupV P S t (ev tm x) (ev tm i)
  | .call { callee := .builtin .len, args, argTypes } =>
    match args.toList, argTypes.toList with
    | [x], [t] => lenV P S t (ev tm x)
    | _, _ => no
  | .call { callee := .builtin .max, args, argTypes := _ } =>
    match args.toList with
    | [x, y] => maxV true (ev tm x) (ev tm y)
    | _ => no
  | .call { callee := .builtin .min, args, argTypes := _ } =>
    match args.toList with
    | [x, y] => maxV false (ev tm x) (ev tm y)
    | _ => no
  | _ => no

end Go.Ab
