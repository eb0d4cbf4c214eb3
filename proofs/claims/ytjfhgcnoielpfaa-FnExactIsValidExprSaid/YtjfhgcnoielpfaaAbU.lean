/-
  ABSTRACT VALUES FOR A WALK, PART 21: the set of equations that walks a region; loops by slots; the end of a function.
-/
import Derived.Test.YtjfhgcnoielpfaaAbT
set_option linter.unusedSimpArgs false
set_option linter.unusedVariables false
namespace Go.Ab

theorem wrap_in (n : Int) (h : -9223372036854775808 ≤ n ∧ n ≤ 9223372036854775807) : IntKind.i64.wrap n = n := IntWalk.i64_in n h
theorem wrap_u8 (n : Int) (h : 0 ≤ n ∧ n ≤ 255) : IntKind.u8.wrap n = n := IntWalk.u8_in n h

theorem getD_map {α β : Type} (f : α → β) (l : List α) (i : Nat) (d : β) (h : i < l.length) : (l.map f).getD i d = f l[i] := by
  simp [List.getD, h]

theorem look_zero {t : Nat} {v : V} {r : List (Nat × V)} : look ((t, v) :: r) t = v := by simp [look]
theorem look_ne {t u : Nat} {v : V} {r : List (Nat × V)} (h : (u == t) = false) : look ((u, v) :: r) t = look r t := by
  have : ¬ u = t := by simpa using h
  simp [look, this]

theorem constV_int {k : IntKind} {n : Int} : constV (.int k n) = .c (.d (.i k n)) := rfl
theorem constV_bool {b : Bool} : constV (.bool b) = .c (.d (.b b)) := rfl
theorem constV_str {l : List UInt8} : constV (.string ⟨⟨l⟩⟩) = .c (.d (.s l)) := rfl
theorem constV_nils : constV (.slice none 0 0) = .c (.fsl []) := rfl

theorem put_some {tm : List (Nat × V)} {S : Store} {d : Nat} {v : V} : St.put ⟨tm, S⟩ (some d) v = ⟨(d, v) :: tm, S⟩ := rfl
theorem put_none {tm : List (Nat × V)} {S : Store} {v : V} : St.put ⟨tm, S⟩ none v = ⟨tm, S⟩ := rfl

theorem pick_t {a b : V} : pickV (.c (.d (.b true))) a b = (True, a) := rfl
theorem pick_f {a b : V} : pickV (.c (.d (.b false))) a b = (True, b) := rfl

theorem newObj_cons {tm : List (Nat × V)} {own : List Obj} {Ω : Store} {dst : Option Nat} {o : Obj} {mk : Key → V} {K : St → Prop} :
    newObj ⟨tm, own :: Ω⟩ dst o mk K = K (St.put ⟨tm, (own ++ [o]) :: Ω⟩ dst (mk (0, own.length))) := rfl

theorem boxW_c {x : C} {s : St} {dst : Option Nat} {K : St → Prop} : boxW (.c x) s dst K = newObj s dst (.box [x]) (fun k => .c (.ptr k 0)) K := rfl
theorem boxW_agg {x : List C} {s : St} {dst : Option Nat} {K : St → Prop} : boxW (.agg x) s dst K = newObj s dst (.box x) (fun k => .c (.ptr k 0)) K := rfl

theorem optM_nil {α β : Type} {f : α → Option β} : ([] : List α).mapM f = some [] := by simp
theorem optM_cons {α β : Type} {f : α → Option β} {x : α} {xs : List α} : (x :: xs).mapM f = (f x).bind fun y => (xs.mapM f).bind fun ys => some (y :: ys) := by
  rw [List.mapM_cons]; rfl

theorem down0 {c : C} : C.down 0 c = some c := by cases c <;> simp [C.down]
theorem down_tsl {n m j : Nat} {es : List (List D)} : C.down n (.tsl (n + m, j) es) = some (.tsl (m, j) es) := by simp [C.down]
theorem down_tsl0 {n j : Nat} {es : List (List D)} : C.down n (.tsl (n, j) es) = some (.tsl (0, j) es) := by simp [C.down]
theorem down_d {n : Nat} {x : D} : C.down n (.d x) = some (.d x) := rfl
theorem down_any {n : Nat} : C.down n .any = some .any := rfl
theorem down_fsl {n : Nat} {es : List (List D)} : C.down n (.fsl es) = some (.fsl es) := rfl
theorem down_ptr {n m j off : Nat} : C.down n (.ptr (n + m, j) off) = some (.ptr (m, j) off) := by simp [C.down]
theorem down_ptr0 {n j off : Nat} : C.down n (.ptr (n, j) off) = some (.ptr (0, j) off) := by simp [C.down]

attribute [go_sem ↓] rops_nil rops_cons ropsK_nil ropsK_cons dops_nil dops_cons dopsK_nil dopsK_cons guardW_none guardW_some dguardW_none dguardW_some putK_eq execK_eq dexecK_eq cw_seq cw_region cw_draw cw_cond cw_block cw_exit cw_ret cw_skip cw_loop thenK_normal thenK_ret thenK_exit inBlk_normal inBlk_ret inBlk_exit retF_ret retF_normal frzAll_mk callW_value callW_append callW_len callW_max callW_min dexec_max dexec_min exec_alloc exec_box exec_store exec_make exec_makeMap exec_mapUpdate exec_lookup dexec_makeMap dexec_mapUpdate dexec_lookup exec_call exec_move exec_assign exec_pick exec_load exec_fieldAddr exec_field exec_indexAddr exec_index exec_binOp exec_unOp exec_convert exec_extract exec_makeFunc exec_nilCheck exec_slice exec_build exec_buildSlice dexec_alloc dexec_box dexec_store dexec_make dexec_append dexec_move dexec_assign dexec_pick dexec_load dexec_fieldAddr dexec_field dexec_indexAddr dexec_index dexec_binOp dexec_unOp dexec_convert dexec_extract dexec_makeFunc dexec_nilCheck dexec_slice dexec_build dexec_buildSlice dexec_len dexec_call
attribute [go_sem] guardV split_true split_false nextW_mk retS_mk retW_mk condW frzUp frzAt_mk frzC look_mapF V.frz C.frz Obj.frz nval_len callV_fn callM_fn capV
  lookO_some lookO_none evL_nil evL_cons evO_some evO_none evP_nil evP_cons ev constV_int constV_bool constV_str constV_nils constC put_some put_none look pick_t pick_f newObj_cons boxW_c boxW_agg allocW storeW makeW appendW srcV
  loadV loadD aggT headD headC fieldAddrV fieldV partV sliceC indexAddrV indexV intOp strOp binV unV convV extractV lenV sliceV intOr makeFuncV capOf nilCheckV
  shOp maxV lookupV mapNewW mapPutW cellsV getO setO C.up V.up upK dstOf argTm V.bor C.bor down0 down_tsl down_tsl0 down_d down_any down_fsl down_ptr down_ptr0
  List.map_cons List.map_nil List.append_nil List.nil_append List.length_nil List.length_cons List.cons_append Option.map_some Option.map_none Option.bind_some Option.bind_none
  List.getElem?_cons_zero List.getElem?_cons_succ List.set_cons_zero List.set_cons_succ List.drop_zero List.drop_succ_cons List.drop_nil List.take_zero List.take_succ_cons List.take_nil
  if_true if_false true_and and_true Int.toNat_natCast List.getElem?_toArray List.size_toArray Nat.zero_add Nat.add_zero Bool.false_eq_true Bool.true_eq_false Bool.not_true Bool.not_false reduceCtorEq
  decide_true decide_false List.all_cons List.all_nil Bool.and_true Bool.true_and Option.isSome_some Option.isSome_none wrap_in getD_map optM_nil optM_cons toD splice List.length_map fillC buildV elemsOf buildSliceV List.size_toArray

/-! ### a loop, by the slots that it keeps -/

section
variable {P : Program} {S S' : Store} {N : Nat} {s : St}

def zipTm : List Nat → List V → List (Nat × V)
  | t :: ts, v :: vs => (t, v) :: zipTm ts vs
  | _, _ => []

theorem look_zip (f : Nat → V) : ∀ (ts : List Nat) (t : Nat), look (zipTm ts (ts.map f)) t = f t ∨ look (zipTm ts (ts.map f)) t = .any
  | [], t => .inr rfl
  | u :: us, t => by
    show (if u = t then f u else look (zipTm us (us.map f)) t) = f t ∨ (if u = t then f u else look (zipTm us (us.map f)) t) = .any
    by_cases e : u = t
    · left; rw [if_pos e, e]
    · rw [if_neg e]; exact look_zip f us t

/-- What a round of a loop must lead to: a state of the invariant, but for what is forgotten. -/
def Inv {ι : Type} (N : Nat) (ts : List Nat) (f : ι → List V) (g : ι → Store) (p : ι → Prop) (μ : ι → Nat) (i : ι) (s' : St) : Prop := ∃ j s0, μ j < μ i ∧ Ghost N s' s0 ∧ ts.map (look s0.tm) = f j ∧ s0.st = g j ∧ p j

theorem inv_at {ι : Type} {ts : List Nat} {f : ι → List V} {g : ι → Store} {p : ι → Prop} {μ : ι → Nat} {i : ι} (j : ι) (h1 : μ j < μ i) (h2 : ts.map (look s.tm) = f j) (h3 : s.st = g j) (h4 : p j) : Inv N ts f g p μ i s :=
  ⟨j, s, h1, Ghost.refl _ _, h2, h3, h4⟩

theorem map_look_zip : ∀ (ts : List Nat) (vs : List V), ts.Nodup → ts.length = vs.length → ts.map (look (zipTm ts vs)) = vs
  | [], [], _, _ => rfl
  | t :: ts, v :: vs, hn, hl => by
    have hn' := List.nodup_cons.1 hn
    have ih := map_look_zip ts vs hn'.2 (by simpa using hl)
    simp only [zipTm, List.map_cons, look, if_true, List.cons.injEq, true_and]
    rw [← ih]
    refine List.map_congr_left fun u hu => ?_
    have hne : t ≠ u := fun e => hn'.1 (e ▸ hu)
    rw [if_neg hne, ih]

/-- A round that has made objects: those from the n-th on are forgotten. -/
theorem inv_drop {ι : Type} {ts : List Nat} {f : ι → List V} {g : ι → Store} {p : ι → Prop} {μ : ι → Nat} {i : ι} {tm : List (Nat × V)} {own : List Obj} {Ω : Store} (n : Nat) (hnd : ts.Nodup) (j : ι) (h1 : μ j < μ i) (h2 : ts.map (look tm) = f j) (h3 : own.take n :: Ω = g j)
    (hr : tmRefs n (zipTm ts (f j)) = true) (ho : (own.take n).all (Obj.refs n) = true) (h4 : p j) : Inv N ts f g p μ i ⟨tm, own :: Ω⟩ := by
  refine ⟨j, ⟨zipTm ts (f j), own.take n :: Ω⟩, h1, ?_, ?_, h3, h4⟩
  · have hg : Ghost N ⟨tm, own :: Ω⟩ ⟨zipTm ts (f j), own :: Ω⟩ := by
      rw [← h2]
      exact tm_ghost fun t => look_zip _ ts t
    exact hg.trans (drop_ghost n hr ho)
  · exact map_look_zip ts (f j) hnd (by rw [← h2]; simp)

/-- A loop, by the slots that it keeps: the slots 'ts' hold 'f i', the store is 'g i', and 'p i' stands; every round lowers the measure. -/
theorem loop_at {ι : Type} {c : Code} {Q : Exit → St → Prop} (hmix : P.follows .mixedOrders = true) (hok : codeOk N c = true) (ts : List Nat) (f : ι → List V) (g : ι → Store) (p : ι → Prop) (μ : ι → Nat) (i0 : ι)
    (h1 : ts.map (look s.tm) = f i0) (h2 : s.st = g i0) (h3 : p i0)
    (round : ∀ i, p i → CW P N c (thenK (Inv N ts f g p μ i) Q) ⟨zipTm ts (f i), g i⟩) : AW P N (.loop c) Q s := by
  refine aw_loop (ι := ι) (fun i s => ∃ s0, Ghost N s s0 ∧ ts.map (look s0.tm) = f i ∧ s0.st = g i ∧ p i) μ i0 ⟨s, Ghost.refl _ _, h1, h2, h3⟩ fun i s hI => ?_
  obtain ⟨s0, hg, h1, h2, h3⟩ := hI
  refine aw_ghost ?_ hg
  have hr := (cw_sound hmix c _ _ hok (round i h3)).mono (Q' := thenK (fun s' => ∃ j, μ j < μ i ∧ ∃ s0, Ghost N s' s0 ∧ ts.map (look s0.tm) = f j ∧ s0.st = g j ∧ p j) Q) fun e s' h => by
    cases e with
    | normal =>
      obtain ⟨j, s0, a1, a2, a3, a4, a5⟩ := h
      exact ⟨j, a1, s0, a2, a3, a4, a5⟩
    | _ => exact h
  obtain ⟨tm, st⟩ := s0
  simp only at h1 h2
  subst h2
  rw [← h1] at hr
  exact aw_tm hr fun t => look_zip _ ts t

/-- Before a loop: objects from the n-th on are forgotten, and only these slots are kept. -/
theorem aw_trim {c : Code} {Q : Exit → St → Prop} {tm : List (Nat × V)} {own : List Obj} {Ω : Store} (ts : List Nat) (vs : List V) (n : Nat) (hv : ts.map (look tm) = vs) (hr : tmRefs n (zipTm ts vs) = true) (ho : (own.take n).all (Obj.refs n) = true)
    (h : AW P N c Q ⟨zipTm ts vs, own.take n :: Ω⟩) : AW P N c Q ⟨tm, own :: Ω⟩ := by
  refine aw_ghost h ?_
  have hg : Ghost N ⟨tm, own :: Ω⟩ ⟨zipTm ts vs, own :: Ω⟩ := by
    rw [← hv]
    exact tm_ghost fun t => look_zip _ ts t
  exact hg.trans (drop_ghost n hr ho)

/-! ### the end of a function -/

theorem resV_nil : resV P [] s = (True, .tup []) := rfl
theorem resV_one {x : ResultVar} : resV P [x] s = oneRes P s x := rfl
theorem resV_two {x y : ResultVar} {z : List ResultVar} : resV P (x :: y :: z) s = (match (allRes P s (x :: y :: z)).2 with
    | some ys => ((allRes P s (x :: y :: z)).1, .tup ys)
    | none => no) := rfl
end

attribute [go_sem] zipTm resV_nil resV_one resV_two oneRes allRes compV tail1 V.ret retComp
end Go.Ab
