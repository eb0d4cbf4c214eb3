/-
  ABSTRACT VALUES FOR A WALK, PART 19: to know less: slots forgotten, objects dropped, a row made fast, a slice taken over for appending.
-/
import Derived.Test.YtjfhgcnoielpfaaAbR
set_option linter.unusedSimpArgs false
set_option linter.unusedVariables false
namespace Go.Ab

section
variable {P : Program} {w w' : World} {σ σ' : Nat → Nat} {S S' : Store} {β β' : Hs} {N : Nat} {s : St} {a : Act}

/-- Without a step of the machine: another abstract state that fits too. -/
theorem aw_ghost {c : Code} {Q : Exit → St → Prop} {s s' : St} (h : AW P N c Q s')
    (hg : ∀ (a : Act) (w : World) (σ : Nat → Nat) (β : Hs), Rep N s a w σ β → ∃ σ' β', Rep N s' a w σ' β' ∧ Step s.st β σ w s'.st β' σ' w ∧ Keep (tail1 s.st) (tail1 β) (tail1 s'.st) (tail1 β')) : AW P N c Q s := by
  intro a w σ β hR
  obtain ⟨σ', β', hR', hst, hk⟩ := hg a w σ β hR
  refine wp_mono (h a w σ' β' hR') ?_
  rintro e a' w' ⟨s'', σ'', β'', k1, k2, k3, k4⟩
  exact ⟨s'', σ'', β'', k1, hst.trans k2, hk.trans k3, k4⟩

/-- Without a step of the machine: another abstract state fits too. -/
def Ghost (N : Nat) (s s' : St) : Prop := ∀ (a : Act) (w : World) (σ : Nat → Nat) (β : Hs), Rep N s a w σ β → ∃ σ' β', Rep N s' a w σ' β' ∧ Step s.st β σ w s'.st β' σ' w ∧ Keep (tail1 s.st) (tail1 β) (tail1 s'.st) (tail1 β')

theorem Ghost.refl (N : Nat) (s : St) : Ghost N s s := fun a w σ β hR => ⟨σ, β, hR, Step.of_grow (Grow.refl hR.S.live), Keep.refl _ _⟩

theorem Ghost.trans {s s' s'' : St} (h : Ghost N s s') (k : Ghost N s' s'') : Ghost N s s'' := fun a w σ β hR => by
  obtain ⟨σ1, β1, r1, st1, k1⟩ := h a w σ β hR
  obtain ⟨σ2, β2, r2, st2, k2⟩ := k a w σ1 β1 r1
  exact ⟨σ2, β2, r2, st1.trans st2, k1.trans k2⟩

theorem tm_ghost {tm tm' : List (Nat × V)} (hl : ∀ t, look tm' t = look tm t ∨ look tm' t = .any) : Ghost N ⟨tm, S⟩ ⟨tm', S⟩ :=
  fun a w σ β hR => ⟨σ, β, ⟨hR.size, hR.defers, hR.S, fun t => by
    rcases hl t with e | e
    · show RepV w σ S β (look tm' t) _; rw [e]; exact hR.T t
    · show RepV w σ S β (look tm' t) _; rw [e]; trivial⟩, Step.of_grow (Grow.refl hR.S.live), Keep.refl _ _⟩

theorem aw_tm {c : Code} {Q : Exit → St → Prop} {tm tm' : List (Nat × V)} (h : AW P N c Q ⟨tm', S⟩) (hl : ∀ t, look tm' t = look tm t ∨ look tm' t = .any) : AW P N c Q ⟨tm, S⟩ :=
  aw_ghost h fun a w σ β hR => ⟨σ, β, ⟨hR.size, hR.defers, hR.S, fun t => by
    rcases hl t with e | e
    · show RepV w σ S β (look tm' t) _; rw [e]; exact hR.T t
    · show RepV w σ S β (look tm' t) _; rw [e]; trivial⟩, Step.of_grow (Grow.refl hR.S.live), Keep.refl _ _⟩

def keepTm (slots : List Nat) (tm : List (Nat × V)) : List (Nat × V) := slots.map fun t => (t, look tm t)

theorem look_keep (tm : List (Nat × V)) (t : Nat) : ∀ slots : List Nat, look (keepTm slots tm) t = look tm t ∨ look (keepTm slots tm) t = .any
  | [] => .inr rfl
  | x :: slots => by
    show (if x = t then look tm x else look (keepTm slots tm) t) = _ ∨ (if x = t then look tm x else look (keepTm slots tm) t) = _
    by_cases e : x = t
    · rw [if_pos e, e]; exact .inl rfl
    · rw [if_neg e]; exact look_keep tm t slots

/-- Only these slots are kept. -/
theorem aw_keep {c : Code} {Q : Exit → St → Prop} {tm : List (Nat × V)} (slots : List Nat) (h : AW P N c Q ⟨keepTm slots tm, S⟩) : AW P N c Q ⟨tm, S⟩ := aw_tm h fun t => look_keep tm t slots

/-! ### read as plain data -/

def C.bor : C → C
  | .tsl _ es => .d (.sl es)
  | .fsl es => .d (.sl es)
  | c => c

def V.bor : V → V
  | .c x => .c x.bor
  | .agg cs => .agg (cs.map C.bor)
  | v => v

theorem rep_borC {c : C} {v : Value} (h : RepC w σ S β c v) : RepC w σ S β c.bor v := by
  cases c with
  | tsl k es => exact h.1
  | fsl es => exact h.1
  | _ => exact h

theorem rep_borV {x : V} {v : Value} (h : RepV w σ S β x v) : RepV w σ S β x.bor v := by
  cases x with
  | c x => exact ⟨rep_borC h.1, h.2⟩
  | agg cs =>
    obtain ⟨ar, ha, hl, hc⟩ := h
    refine ⟨ar, ha, by simpa using hl, fun j x hx => ?_⟩
    rw [List.getElem?_map] at hx
    cases hcj : cs[j]? with
    | none => rw [hcj] at hx; cases hx
    | some y =>
      rw [hcj] at hx; cases hx
      obtain ⟨v, hv, hr, ho⟩ := hc j y hcj
      exact ⟨v, hv, rep_borC hr, ho⟩
  | _ => exact h

/-- An argument may be told as less than it is. -/
theorem ACall.weaken {f : FuncId} {args args' : List V} {post : V → Store → Prop} (h : ACall P f args' S post) (hl : args.length = args'.length)
    (hw : ∀ (j : Nat) (x y : V), args[j]? = some x → args'[j]? = some y → ∀ w σ β v, RepV w σ S β x v → RepV w σ S β y v) : ACall P f args S post := by
  refine ⟨h.1, fun w σ β vs hS hv => h.2 w σ β vs hS ⟨by rw [← hl]; exact hv.1, fun j y hy => ?_⟩⟩
  have hj := (List.getElem?_eq_some_iff.1 hy).1
  have hx : args[j]? = some (args[j]'(by omega)) := List.getElem?_eq_getElem (by omega)
  obtain ⟨v, h1, h2⟩ := hv.2 j _ hx
  exact ⟨v, h1, hw j _ y hx hy w σ β v h2⟩

theorem ACall.bor {f : FuncId} {args : List V} {post : V → Store → Prop} (h : ACall P f (args.map V.bor) S post) : ACall P f args S post :=
  h.weaken (by simp) fun j x y hx hy w σ β v hr => by
    rw [List.getElem?_map, hx] at hy
    cases hy
    exact rep_borV hr

theorem ACall.mono {f : FuncId} {args : List V} {post post' : V → Store → Prop} (h : ACall P f args S post) (hp : ∀ r S', post r S' → post' r S') : ACall P f args S post' :=
  ⟨h.1, fun w σ β vs hS hv => (h.2 w σ β vs hS hv).mono fun e w' ⟨v, r, S', σ', β', h1, h2, h3, h4, h5, h6⟩ => ⟨v, r, S', σ', β', h1, h2, h3, h4, h5, hp _ _ h6⟩⟩

/-- A call that only computes, as an operation. -/
theorem callW_pure {f : FuncId} {args : List V} {s : St} {dst : Option Nat} {K : St → Prop} {r : V} (h : PCall P f (args.map V.bor) r) (hK : K (St.put s dst r)) : CallW P f args s dst K :=
  .inl ⟨_, (h s.st).bor, fun r' S' hp => by rw [hp.1, hp.2]; exact hK⟩

theorem callN_pure {tm : List (Nat × V)} {c : Call} {f : Nat} {x : Operand} {r : V} (hc : c.callee = .value x) (hx : ev tm x = .c (.fn f [])) (h : PCall P f ((c.args.toList.map (ev tm)).map V.bor) r) : callN P tm c r := by
  unfold callN
  rw [hc]
  simp only [hx, List.map_nil, List.append_nil]
  exact fun S => (h S).bor

/-! ### a slice taken over for appending -/

theorem aw_tok {c : Code} {Q : Exit → St → Prop} {tm : List (Nat × V)} {own : List Obj} {Ω : Store} (t esz : Nat) (es : List (List D)) (hv : look tm t = .c (.fsl es)) (hes : ∀ e ∈ es, e.length = esz)
    (h : AW P N c Q ⟨(t, .c (.tsl (0, own.length) es)) :: tm, (own ++ [.tok esz es]) :: Ω⟩) : AW P N c Q ⟨tm, own :: Ω⟩ := by
  refine aw_ghost h fun a w σ β hR => ?_
  obtain ⟨bo, bΩ, rfl, hlen⟩ := frames hR
  have ht := hR.T t
  rw [hv] at ht
  obtain ⟨⟨hd, ad, n, hval⟩, hone⟩ := ht
  have hn : n = es.length := by rw [hval] at hd; cases hd <;> rfl
  have hg : Grow w σ w σ := Grow.refl hR.S.live
  obtain ⟨hS', hk, hst⟩ := hR.S.push (o := .tok esz es) (h := a.tmps.getD t undef) hg hlen ⟨hd, hes, ad, n, by rw [hval, hn], by omega, .inl hn⟩ (fun b hb => by
    rw [hval, hn] at hb
    cases ad <;> simp [blk] at hb)
  refine ⟨σ, _, ⟨hR.size, hR.defers, hS', fun u => ?_⟩, hst, Keep.refl _ _⟩
  show RepV w σ _ _ (if t = u then _ else look tm u) _
  by_cases e : t = u
  · subst e
    rw [if_pos rfl]
    refine ⟨⟨hd, _, getO_push_new _ _ _, fun a b e => ?_⟩, hone⟩
    cases e
    exact ⟨Nat.le_refl _, fun _ => by rw [← hlen, getO_push_new]⟩
  · rw [if_neg e]
    exact (hR.T u).mono (Near.refl _ _) hk

/-! ### objects dropped -/

def refK (n : Nat) (k : Key) : Bool := decide (0 < k.1) || decide (k.2 < n)

def C.refs (n : Nat) : C → Bool
  | .tsl k _ => refK n k
  | .ptr k _ => refK n k
  | .eptr k _ _ => refK n k
  | .msl k => refK n k
  | .mp k => refK n k
  | .fn _ caps => caps.all fun x => refK n x.1
  | _ => true

def V.refs (n : Nat) : V → Bool
  | .c x => x.refs n
  | .agg cs => cs.all (C.refs n)
  | .tup xs => xs.all fun y => y.2.all (C.refs n)
  | .any => true

def Obj.refs (n : Nat) : Obj → Bool
  | .box cs => cs.all (C.refs n)
  | _ => true

theorem getO_take {α : Type} {own : List α} {Ω : List (List α)} {n : Nat} {k : Key} (h : refK n k = true) : getO (own.take n :: Ω) k = getO (own :: Ω) k := by
  obtain ⟨l, j⟩ := k
  cases l with
  | zero =>
    simp [refK] at h
    rw [getO_zero, getO_zero, List.getElem?_take_of_lt h]
  | succ l => rw [getO_succ, getO_succ]

theorem getO_take_some {α : Type} {own : List α} {Ω : List (List α)} {n : Nat} {k : Key} {o : α} (h : getO (own.take n :: Ω) k = some o) : getO (own :: Ω) k = some o ∧ refK n k = true := by
  obtain ⟨l, j⟩ := k
  cases l with
  | zero =>
    rw [getO_zero] at h ⊢
    have hj := (List.getElem?_eq_some_iff.1 h).1
    simp at hj
    rw [List.getElem?_take_of_lt (by omega)] at h
    exact ⟨h, by simp [refK]; omega⟩
  | succ l => rw [getO_succ] at h ⊢; exact ⟨h, by simp [refK]⟩

theorem rep_takeC {own : List Obj} {Ω : Store} {bo : List Value} {bΩ : Hs} {n : Nat} {c : C} {v : Value} (hr : c.refs n = true) (h : RepC w σ (own :: Ω) (bo :: bΩ) c v) : RepC w σ (own.take n :: Ω) (bo.take n :: bΩ) c v := by
  cases c with
  | d x => exact h
  | any => exact h
  | fsl es => exact h
  | rptr cs => exact h
  | tsl k es =>
    obtain ⟨h1, o, ho, h2⟩ := h
    exact ⟨h1, o, (getO_take hr).trans ho, fun a b e => by rw [getO_take hr]; exact h2 a b e⟩
  | ptr k off =>
    obtain ⟨o, ho, h2⟩ := h
    exact ⟨o, (getO_take hr).trans ho, fun a e => by rw [getO_take hr]; exact h2 a e⟩
  | eptr k i off =>
    obtain ⟨o, ho, h2⟩ := h
    exact ⟨o, (getO_take hr).trans ho, fun a b e => by rw [getO_take hr]; exact h2 a b e⟩
  | msl k =>
    obtain ⟨o, ho, h2⟩ := h
    exact ⟨o, (getO_take hr).trans ho, fun a b e => by rw [getO_take hr]; exact h2 a b e⟩
  | mp k =>
    obtain ⟨o, ho, h2⟩ := h
    exact ⟨o, (getO_take hr).trans ho, fun a e => by rw [getO_take hr]; exact h2 a e⟩
  | fn f caps =>
    obtain ⟨vs, hv, hl, h2⟩ := h
    refine ⟨vs, hv, hl, fun j k off e => ?_⟩
    obtain ⟨u, hu, h1c, o, ho, h3⟩ := h2 j k off e
    have hk : refK n k = true := List.all_eq_true.1 hr (k, off) (List.mem_of_getElem? e)
    exact ⟨u, hu, h1c, o, (getO_take hk).trans ho, fun cs e => by rw [getO_take hk]; exact h3 cs e⟩

theorem rep_takeCs {own : List Obj} {Ω : Store} {bo : List Value} {bΩ : Hs} {n : Nat} {cs : List C} {vs : List Value} (hr : cs.all (C.refs n) = true) (h : RepCs w σ (own :: Ω) (bo :: bΩ) cs vs) : RepCs w σ (own.take n :: Ω) (bo.take n :: bΩ) cs vs :=
  ⟨h.1, fun j x hx => let ⟨v, hv, hc, ho⟩ := h.2 j x hx; ⟨v, hv, rep_takeC (List.all_eq_true.1 hr x (List.mem_of_getElem? hx)) hc, ho⟩⟩

theorem rep_takeV {own : List Obj} {Ω : Store} {bo : List Value} {bΩ : Hs} {n : Nat} {x : V} {v : Value} (hr : x.refs n = true) (h : RepV w σ (own :: Ω) (bo :: bΩ) x v) : RepV w σ (own.take n :: Ω) (bo.take n :: bΩ) x v := by
  cases x with
  | c x => exact ⟨rep_takeC hr h.1, h.2⟩
  | agg cs => obtain ⟨ar, ha, hc⟩ := h; exact ⟨ar, ha, rep_takeCs hr hc⟩
  | tup xs =>
    obtain ⟨ar, ha, hl, h2⟩ := h
    refine ⟨ar, ha, hl, fun j y hy => ?_⟩
    obtain ⟨u, hu, h3⟩ := h2 j y hy
    have hy' : y.2.all (C.refs n) = true := List.all_eq_true.1 hr y (List.mem_of_getElem? hy)
    refine ⟨u, hu, ?_⟩
    obtain ⟨b, cs⟩ := y
    cases b with
    | true => obtain ⟨a', e, hcs⟩ := h3; exact ⟨a', e, rep_takeCs hy' hcs⟩
    | false =>
      obtain ⟨x, e, hx, ho⟩ := h3
      subst e
      simp at hy'
      exact ⟨x, rfl, rep_takeC hy' hx, ho⟩
  | any => trivial

def tmRefs (n : Nat) (tm : List (Nat × V)) : Bool := tm.all fun x => x.2.refs n

theorem look_refs {n : Nat} : ∀ (tm : List (Nat × V)) (t : Nat), tmRefs n tm = true → (look tm t).refs n = true
  | [], _, _ => rfl
  | (x, v) :: tm, t, h => by
    simp only [tmRefs, List.all_cons, Bool.and_eq_true] at h
    rw [look]
    split
    · exact h.1
    · exact look_refs tm t h.2

/-- The call's own objects from the n-th on are forgotten; nothing that is kept refers to them. -/
theorem drop_ghost {tm : List (Nat × V)} {own : List Obj} {Ω : Store} (n : Nat) (h1 : tmRefs n tm = true) (h2 : (own.take n).all (Obj.refs n) = true) : Ghost N ⟨tm, own :: Ω⟩ ⟨tm, own.take n :: Ω⟩ := by
  intro a w σ β hR
  obtain ⟨bo, bΩ, rfl, hlen⟩ := frames hR
  have hown : ∀ b, Own (own.take n :: Ω) (bo.take n :: bΩ) b → Own (own :: Ω) (bo :: bΩ) b := by
    rintro b ⟨k, o, hv, e1, e2, e3⟩
    exact ⟨k, o, hv, (getO_take_some e1).1, (getO_take_some e2).1, e3⟩
  refine ⟨σ, bo.take n :: bΩ, ⟨hR.size, hR.defers, ⟨fun k o ho => ?_, fun k k' o o' h1 h2 b e1 e2 e3 e4 e5 e6 => ?_, ⟨by have := hR.S.shape.1; simpa using this, fun l fr hl => ?_⟩, hR.S.live⟩, fun t => rep_takeV (look_refs tm t h1) (hR.T t)⟩,
    ⟨Nat.le_refl _, rfl, rfl, fun _ _ _ => ⟨rfl, rfl⟩, Near.refl _ _, fun b hb => .inl (hown b hb)⟩, Keep.refl _ _⟩
  · obtain ⟨ho', hk⟩ := getO_take_some ho
    obtain ⟨hv, hh, hr⟩ := hR.S.obj k o ho'
    refine ⟨hv, (getO_take hk).trans hh, ?_⟩
    obtain ⟨l, j⟩ := k
    cases l with
    | zero =>
      cases o with
      | dead => trivial
      | box cs =>
        obtain ⟨b, cc, t, e, hb, hs, hc⟩ := hr
        rw [getO_zero] at ho
        have hcs : cs.all (C.refs n) = true := List.all_eq_true.1 h2 (.box cs) (List.mem_of_getElem? ho)
        exact ⟨b, cc, t, e, hb, hs, rep_takeCs hcs hc⟩
      | tok => exact hr
      | mrow => exact hr
      | mp => exact hr
    | succ l => exact hr
  · exact hR.S.apart k k' o o' h1 h2 b (getO_take_some e1).1 (getO_take_some e2).1 e3 (getO_take_some e4).1 (getO_take_some e5).1 e6
  · cases l with
    | zero =>
      simp at hl; subst hl
      exact ⟨_, rfl, by simp [hlen]⟩
    | succ l => exact hR.S.shape.2 (l + 1) fr hl

theorem aw_drop {c : Code} {Q : Exit → St → Prop} {tm : List (Nat × V)} {own : List Obj} {Ω : Store} (n : Nat) (h1 : tmRefs n tm = true) (h2 : (own.take n).all (Obj.refs n) = true)
    (h : AW P N c Q ⟨tm, own.take n :: Ω⟩) : AW P N c Q ⟨tm, own :: Ω⟩ := aw_ghost h (drop_ghost n h1 h2)

/-! ### a row made fast -/

def C.frz (j : Nat) (es : List (List D)) : C → C
  | .msl (0, i) => if i = j then .d (.sl es) else .msl (0, i)
  | c => c

def V.frz (j : Nat) (es : List (List D)) : V → V
  | .c x => .c (x.frz j es)
  | .agg cs => .agg (cs.map (C.frz j es))
  | .tup xs => .tup (xs.map fun y => (y.1, y.2.map (C.frz j es)))
  | .any => .any

def Obj.frz (j : Nat) (es : List (List D)) : Obj → Obj
  | .box cs => .box (cs.map (C.frz j es))
  | o => o

theorem look_map {f : V → V} (hf : f .any = .any) : ∀ (tm : List (Nat × V)) (t : Nat), look (tm.map fun x => (x.1, f x.2)) t = f (look tm t)
  | [], _ => hf.symm
  | (x, v) :: tm, t => by
    show (if x = t then f v else look (tm.map fun x => (x.1, f x.2)) t) = f (if x = t then v else look tm t)
    split
    · rfl
    · exact look_map hf tm t

theorem getElem?_frz {own : List Obj} {j : Nat} {es : List (List D)} {i : Nat} : ((own.map (Obj.frz j es)).set j .dead)[i]? = if i = j then (if j < own.length then some .dead else none) else (own[i]?).map (Obj.frz j es) := by
  rw [List.getElem?_set]
  by_cases e : j = i
  · subst e; simp
  · rw [if_neg e, if_neg (Ne.symm e), List.getElem?_map]

theorem frz_rep {tm : List (Nat × V)} {own : List Obj} {Ω : Store} (j : Nat) (esz : Nat) (es : List (List D)) (hj : own[j]? = some (.mrow esz es)) (hR : Rep N ⟨tm, own :: Ω⟩ a w σ β) :
    ∃ σ' β', Rep N ⟨tm.map fun x => (x.1, x.2.frz j es), (own.map (Obj.frz j es)).set j .dead :: Ω⟩ a w σ' β' ∧ Step (own :: Ω) β σ w ((own.map (Obj.frz j es)).set j .dead :: Ω) β' σ' w ∧
      Keep (tail1 (own :: Ω)) (tail1 β) (tail1 ((own.map (Obj.frz j es)).set j .dead :: Ω)) (tail1 β') := by
  obtain ⟨bo, bΩ, rfl, hlen⟩ := frames hR
  obtain ⟨hh, hb, hr⟩ := hR.S.obj (0, j) _ (by rw [getO_zero]; exact hj)
  obtain ⟨b, cc, ty, cap, rfl, hcap, hbc, hσ, hle, hsz, hcells⟩ := hr
  rw [getO_zero] at hb
  let σ' : Nat → Nat := fun x => if x = b then es.length * esz else σ x
  have hn : Near w σ w σ' := by
    intro b1 c1 t1 fz1 e1
    refine ⟨?_, c1, e1, rfl, fun _ _ => rfl⟩
    by_cases e : b1 = b
    · simp only [σ', if_pos e]; rw [e, hσ]; exact Nat.zero_le _
    · simp only [σ', if_neg e]; exact Nat.le_refl _
  have hdata : RepD w σ' (.sl es) (.slice (some ⟨b, 0, none⟩) es.length cap) := by
    have hfl := flat_len es esz hle
    refine .sl b 0 cap esz es (fun i => (cc[i]?).getD undef) cc ty (0, 0) hcap hle hbc (by simp [σ']) (fun i hi => ?_) (fun i d hd => ?_)
    · obtain ⟨v, hv, _⟩ := hcells i _ (List.getElem?_eq_getElem (by omega))
      simp [hv]
    · obtain ⟨v, hv, hr⟩ := hcells i d hd
      simp only [hv, Option.getD_some]
      exact hr.mono hn
  have hlt := lt_of_some hbc
  let own' := (own.map (Obj.frz j es)).set j .dead
  have hget : ∀ i o, own'[i]? = some o → i ≠ j → ∃ o0, own[i]? = some o0 ∧ o = o0.frz j es := by
    intro i o hi hne
    have := getElem?_frz (own := own) (j := j) (es := es) (i := i)
    rw [if_neg hne] at this
    rw [this] at hi
    cases ho : own[i]? with
    | none => rw [ho] at hi; cases hi
    | some o0 => rw [ho] at hi; cases hi; exact ⟨o0, rfl, rfl⟩
  have hdead : own'[j]? = some .dead := by
    have := getElem?_frz (own := own) (j := j) (es := es) (i := j)
    rw [if_pos rfl, if_pos (List.getElem?_eq_some_iff.1 hj).1] at this
    exact this
  have hblk : ∀ o h, blk (Obj.frz j es o) h = blk o h := fun o h => by
    cases o with
    | box cs => cases h <;> first | rfl | (rename_i x; cases x <;> rfl)
    | _ => rfl
  have hget2 : ∀ k o, getO (own' :: Ω) k = some o → (k = (0, j) ∧ o = .dead) ∨ (k ≠ (0, j) ∧ ∃ o0, getO (own :: Ω) k = some o0 ∧ ∀ h, blk o h = blk o0 h) := by
    intro k o hk
    obtain ⟨l, i⟩ := k
    cases l with
    | zero =>
      rw [getO_zero] at hk
      by_cases e : i = j
      · subst e; rw [hdead] at hk; cases hk; exact .inl ⟨rfl, rfl⟩
      · obtain ⟨o0, h1, rfl⟩ := hget i o hk e
        exact .inr ⟨fun x => e (by cases x; rfl), o0, by rw [getO_zero]; exact h1, fun h => hblk o0 h⟩
    | succ l => rw [getO_succ] at hk; exact .inr ⟨by simp, o, by rw [getO_succ]; exact hk, fun _ => rfl⟩
  -- a cell
  have hC : ∀ (c : C) (v : Value), RepC w σ (own :: Ω) (bo :: bΩ) c v → RepC w σ' (own' :: Ω) (bo :: bΩ) (c.frz j es) v := by
    have sh : ∀ k o, getO (own :: Ω) k = some o → ∃ o', getO (own' :: Ω) k = some o' ∧ ((k = (0, j) ∧ o' = .dead) ∨ (k ≠ (0, j) ∧ (o' = o ∨ o' = o.frz j es))) := by
      intro k o hk
      obtain ⟨l, i⟩ := k
      cases l with
      | zero =>
        rw [getO_zero] at hk
        by_cases e : i = j
        · subst e; exact ⟨.dead, by rw [getO_zero]; exact hdead, .inl ⟨rfl, rfl⟩⟩
        · refine ⟨o.frz j es, ?_, .inr ⟨fun x => e (by cases x; rfl), .inr rfl⟩⟩
          rw [getO_zero]
          show own'[i]? = _
          rw [getElem?_frz, if_neg e, hk]; rfl
      | succ l => exact ⟨o, by rw [getO_succ] at hk ⊢; exact hk, .inr ⟨by simp, .inl rfl⟩⟩
    intro c v hc
    cases c with
    | d x => exact RepD.mono hn hc
    | any => trivial
    | fsl es' => exact ⟨RepD.mono hn hc.1, hc.2⟩
    | rptr cs => obtain ⟨ad, h1, h2⟩ := hc; exact ⟨ad, h1, h2.mono hn⟩
    | tsl k es' =>
      obtain ⟨h1, o, ho, h2⟩ := hc
      obtain ⟨o', ho', hcase⟩ := sh k o ho
      refine ⟨RepD.mono hn h1, o', ho', fun z e4 e => ?_⟩
      rcases hcase with ⟨_, e'⟩ | ⟨_, e' | e'⟩
      · rw [e'] at e; cases e
      · rw [e'] at e; exact h2 z e4 e
      · rw [e'] at e; cases o <;> simp [Obj.frz] at e; obtain ⟨rfl, rfl⟩ := e; exact h2 _ _ rfl
    | ptr k off =>
      obtain ⟨o, ho, h2⟩ := hc
      obtain ⟨o', ho', hcase⟩ := sh k o ho
      refine ⟨o', ho', fun cs e => ?_⟩
      rcases hcase with ⟨_, e'⟩ | ⟨_, e' | e'⟩
      · rw [e'] at e; cases e
      · rw [e'] at e; exact h2 cs e
      · rw [e'] at e; cases o <;> simp [Obj.frz] at e; exact h2 _ rfl
    | eptr k i off =>
      obtain ⟨o, ho, h2⟩ := hc
      obtain ⟨o', ho', hcase⟩ := sh k o ho
      refine ⟨o', ho', fun z e4 e => ?_⟩
      rcases hcase with ⟨_, e'⟩ | ⟨_, e' | e'⟩
      · rw [e'] at e; cases e
      · rw [e'] at e; exact h2 z e4 e
      · rw [e'] at e; cases o <;> simp [Obj.frz] at e; obtain ⟨rfl, rfl⟩ := e; exact h2 _ _ rfl
    | msl k =>
      obtain ⟨o, ho, h2⟩ := hc
      obtain ⟨o', ho', hcase⟩ := sh k o ho
      by_cases hk : k = (0, j)
      · subst hk
        rw [getO_zero, hj] at ho; cases ho
        have hv := h2 _ _ rfl
        rw [getO_zero, hb] at hv
        cases hv
        simp only [C.frz, if_true]
        exact hdata
      · have hfr : C.frz j es (.msl k) = .msl k := by
          obtain ⟨l, i⟩ := k
          cases l with
          | zero => simp only [C.frz]; rw [if_neg (fun e => hk (by rw [e]))]
          | succ l => rfl
        rw [hfr]
        refine ⟨o', ho', fun z e4 e => ?_⟩
        rcases hcase with ⟨_, e'⟩ | ⟨_, e' | e'⟩
        · rw [e'] at e; cases e
        · rw [e'] at e; exact h2 z e4 e
        · rw [e'] at e; cases o <;> simp [Obj.frz] at e; obtain ⟨rfl, rfl⟩ := e; exact h2 _ _ rfl
    | mp k =>
      obtain ⟨o, ho, h2⟩ := hc
      obtain ⟨o', ho', hcase⟩ := sh k o ho
      refine ⟨o', ho', fun m e => ?_⟩
      rcases hcase with ⟨_, e'⟩ | ⟨_, e' | e'⟩
      · rw [e'] at e; cases e
      · rw [e'] at e; exact h2 m e
      · rw [e'] at e; cases o <;> simp [Obj.frz] at e; exact h2 _ rfl
    | fn f caps =>
      obtain ⟨vs, hv, hl, h2⟩ := hc
      refine ⟨vs, hv, hl, fun i k off e => ?_⟩
      obtain ⟨u, hu, h1c, o, ho, h3⟩ := h2 i k off e
      obtain ⟨o', ho', hcase⟩ := sh k o ho
      refine ⟨u, hu, h1c, o', ho', fun cs e => ?_⟩
      rcases hcase with ⟨_, e'⟩ | ⟨_, e' | e'⟩
      · rw [e'] at e; cases e
      · rw [e'] at e; exact h3 cs e
      · rw [e'] at e; cases o <;> simp [Obj.frz] at e; exact h3 _ rfl
  have hCs : ∀ (cs : List C) (vs : List Value), RepCs w σ (own :: Ω) (bo :: bΩ) cs vs → RepCs w σ' (own' :: Ω) (bo :: bΩ) (cs.map (C.frz j es)) vs := by
    intro cs vs hc
    refine ⟨by simpa using hc.1, fun i x hx => ?_⟩
    rw [List.getElem?_map] at hx
    cases hci : cs[i]? with
    | none => rw [hci] at hx; cases hx
    | some y =>
      rw [hci] at hx; cases hx
      obtain ⟨v, hv, hr, ho⟩ := hc.2 i y hci
      exact ⟨v, hv, hC y v hr, ho⟩
  have hother : ∀ k o h b', k ≠ (0, j) → getO (own :: Ω) k = some o → getO (bo :: bΩ) k = some h → blk o h = some b' → b' ≠ b := by
    intro k o h b' hk e1 e2 e3 e4
    subst e4
    exact hk (hR.S.apart k (0, j) o _ h _ b' e1 e2 e3 (by rw [getO_zero]; exact hj) (by rw [getO_zero]; exact hb) rfl)
  refine ⟨σ', bo :: bΩ, ⟨hR.size, hR.defers, ⟨fun k o ho => ?_, fun k k' o o' h1 h2 b' e1 e2 e3 e4 e5 e6 => ?_, ⟨by have := hR.S.shape.1; simpa using this, fun l fr hl => ?_⟩, fun x => ?_⟩, fun t => ?_⟩, ⟨Nat.le_refl _, rfl, rfl, fun x hx hno => ⟨rfl, ?_⟩, hn, fun x hx => ?_⟩, ?_⟩
  · obtain ⟨l, i⟩ := k
    cases l with
    | zero =>
      rw [getO_zero] at ho
      by_cases e : i = j
      · subst e
        rw [show ((own.map (Obj.frz i es)).set i .dead)[i]? = some .dead from hdead] at ho; cases ho
        exact ⟨_, by rw [getO_zero]; exact hb, trivial⟩
      · obtain ⟨o0, h0, rfl⟩ := hget i o ho e
        obtain ⟨hv, hhv, hr⟩ := hR.S.obj (0, i) o0 (by rw [getO_zero]; exact h0)
        refine ⟨hv, hhv, ?_⟩
        have hbk : ∀ b', blk o0 hv = some b' → b' ≠ b := fun b' e' => hother (0, i) o0 hv b' (fun x => e (by cases x; rfl)) (by rw [getO_zero]; exact h0) hhv e'
        cases o0 with
        | dead => trivial
        | box cs =>
          obtain ⟨b', cc', t', e', hb', hs', hc'⟩ := hr
          subst e'
          exact ⟨b', cc', t', rfl, hb', by simp only [σ', if_neg (hbk b' rfl)]; exact hs', hCs _ _ hc'⟩
        | tok z es' => exact RepObj.mono (S := []) (β := []) (o := (.tok z es')) hn (Keep.refl [] []) (fun b' e' => ⟨rfl, by simp only [σ', if_neg (hbk b' e')]⟩) hr
        | mrow z es' => exact RepObj.mono (S := []) (β := []) (o := (.mrow z es')) hn (Keep.refl [] []) (fun b' e' => ⟨rfl, by simp only [σ', if_neg (hbk b' e')]⟩) hr
        | mp m => exact RepObj.mono (S := []) (β := []) (o := (.mp m)) hn (Keep.refl [] []) (fun b' e' => ⟨rfl, by simp only [σ', if_neg (hbk b' e')]⟩) hr
    | succ l =>
      rw [getO_succ] at ho
      obtain ⟨hv, hhv, hr⟩ := hR.S.obj (l + 1, i) o (by rw [getO_succ]; exact ho)
      refine ⟨hv, hhv, ?_⟩
      have hbk : ∀ b', blk o hv = some b' → b' ≠ b := fun b' e' => hother (l + 1, i) o hv b' (by simp) (by rw [getO_succ]; exact ho) hhv e'
      exact RepObj.mono hn (Keep.refl _ _) (fun b' e' => ⟨rfl, by simp only [σ', if_neg (hbk b' e')]⟩) hr
  · rcases hget2 k o e1 with ⟨rfl, rfl⟩ | ⟨hk, o0, f1, f2⟩
    · cases e3
    · rcases hget2 k' o' e4 with ⟨rfl, rfl⟩ | ⟨hk', o0', g1, g2⟩
      · cases e6
      · exact hR.S.apart k k' o0 o0' h1 h2 b' f1 e2 (by rw [← f2]; exact e3) g1 e5 (by rw [← g2]; exact e6)
  · cases l with
    | zero =>
      simp at hl; subst hl
      exact ⟨_, rfl, by simp [hlen]⟩
    | succ l => exact hR.S.shape.2 (l + 1) fr hl
  · by_cases e : x = b
    · left; omega
    · simp only [σ', if_neg e]; exact hR.S.live x
  · show RepV w σ' (own' :: Ω) (bo :: bΩ) (look (tm.map fun x => (x.1, x.2.frz j es)) t) _
    rw [look_map (f := V.frz j es) rfl]
    have ht := hR.T t
    cases hx : look tm t with
    | c x => rw [hx] at ht; exact ⟨hC x _ ht.1, ht.2⟩
    | agg cs => rw [hx] at ht; obtain ⟨ar, e, hc⟩ := ht; exact ⟨ar, e, hCs _ _ hc⟩
    | tup xs =>
      rw [hx] at ht
      obtain ⟨ar, e, hl, h2⟩ := ht
      refine ⟨ar, e, by simpa using hl, fun i y hy => ?_⟩
      rw [List.getElem?_map] at hy
      cases hxi : xs[i]? with
      | none => rw [hxi] at hy; cases hy
      | some z =>
        rw [hxi] at hy; cases hy
        obtain ⟨u, hu, h3⟩ := h2 i z hxi
        refine ⟨u, hu, ?_⟩
        obtain ⟨bb, cs⟩ := z
        cases bb with
        | true => obtain ⟨a', e', hcs⟩ := h3; exact ⟨a', e', hCs _ _ hcs⟩
        | false =>
          obtain ⟨x, e', hxr, ho⟩ := h3
          subst e'
          exact ⟨_, rfl, hC x _ hxr, ho⟩
    | any => trivial
  · have : x ≠ b := fun e => hno ⟨(0, j), _, _, by rw [getO_zero]; exact hj, by rw [getO_zero]; exact hb, by rw [e]; rfl⟩
    simp only [σ', if_neg this]
  · left
    obtain ⟨k, o, h1, e1, e2, e3⟩ := hx
    rcases hget2 k o e1 with ⟨rfl, rfl⟩ | ⟨hk, o0, f1, f2⟩
    · cases e3
    · exact ⟨k, o0, h1, f1, e2, by rw [← f2]; exact e3⟩
  · exact Keep.refl _ _

/-- The row number j of the call's own is written no more: it is data from now on. -/
theorem aw_freeze {c : Code} {Q : Exit → St → Prop} {tm : List (Nat × V)} {own : List Obj} {Ω : Store} (j : Nat) (esz : Nat) (es : List (List D)) (hj : own[j]? = some (.mrow esz es))
    (h : AW P N c Q ⟨tm.map fun x => (x.1, x.2.frz j es), (own.map (Obj.frz j es)).set j .dead :: Ω⟩) : AW P N c Q ⟨tm, own :: Ω⟩ :=
  aw_ghost h fun a w σ β hR => frz_rep j esz es hj hR

/-! ### where a function ends: all rows made fast -/

def frzAt (j : Nat) (s : St) : St :=
  match s.st with
  | own :: Ω => match own[j]? with
    | some (.mrow _ es) => ⟨s.tm.map fun x => (x.1, x.2.frz j es), (own.map (Obj.frz j es)).set j .dead :: Ω⟩
    | _ => s
  | [] => s

def frzUp : Nat → St → St
  | 0, s => s
  | n + 1, s => frzUp n (frzAt n s)

def frzAll (s : St) : St :=
  match s.st with
  | own :: _ => frzUp own.length s
  | [] => s

theorem frzAt_ghost (j : Nat) (s : St) : Ghost N s (frzAt j s) := by
  obtain ⟨tm, st⟩ := s
  cases st with
  | nil => exact Ghost.refl _ _
  | cons own Ω =>
    unfold frzAt
    simp only
    split
    · rename_i z es hj
      exact fun a w σ β hR => frz_rep j z es hj hR
    · exact Ghost.refl _ _

theorem frzUp_ghost : ∀ (n : Nat) (s : St), Ghost N s (frzUp n s)
  | 0, s => Ghost.refl _ _
  | n + 1, s => (frzAt_ghost n s).trans (frzUp_ghost n _)

theorem frzAll_ghost (s : St) : Ghost N s (frzAll s) := by
  unfold frzAll
  split
  · exact frzUp_ghost _ _
  · exact Ghost.refl _ _

/-- At the end of a piece of code, a ghost. -/
theorem aw_end {c : Code} {Q : Exit → St → Prop} {g : St → St} (hg : ∀ s, Ghost N s (g s)) (h : AW P N c (fun e s' => Q e (g s')) s) : AW P N c Q s := by
  intro a w σ β hR
  refine wp_mono (h a w σ β hR) ?_
  rintro e a' w' ⟨s', σ', β', k1, k2, k3, k4⟩
  obtain ⟨σ2, β2, r2, st2, kk2⟩ := hg s' a' w' σ' β' k1
  exact ⟨_, σ2, β2, r2, k2.trans st2, k3.trans kk2, k4⟩
end
end Go.Ab
