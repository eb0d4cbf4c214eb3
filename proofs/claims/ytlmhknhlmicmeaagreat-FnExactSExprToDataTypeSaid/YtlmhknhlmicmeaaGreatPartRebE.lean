/-
  SEVERAL TEXTS IN ONE (merged by program): contracts and models, each with its own heading.
-/
import Derived.Test.YtlmhknhlmicmeaaGreatPartRebD
set_option linter.unusedSimpArgs false
set_option linter.unusedVariables false
set_option maxRecDepth 4000
set_option maxRecDepth 8000
namespace Go.Ab
theorem sizeOf_drop {α : Type} [SizeOf α] : ∀ (i : Nat) (l : List α), SizeOf.sizeOf (l.drop i) ≤ SizeOf.sizeOf l
  | 0, l => by simp
  | i + 1, [] => by simp
  | i + 1, x :: l => by
    have := sizeOf_drop i l
    rw [List.drop_succ_cons]; simp only [List.cons.sizeOf_spec]; omega
theorem encX_drop (l : List MSExpr) (n i : Nat) (h : l.length ≤ n) : ((l.map MSExpr.enc).take n).drop i = (l.drop i).map MSExpr.enc := by
  rw [List.take_of_length_le (by rw [List.length_map]; exact h), List.map_drop]
theorem szX_getD (l : List MSExpr) (i : Nat) : (l.getD i zeroX).sz ≤ szX l := by
  rw [List.getD_eq_getElem?_getD]
  by_cases h : i < l.length
  · rw [List.getElem?_eq_getElem h]; exact szX_mem (List.getElem_mem h)
  · rw [List.getElem?_eq_none (by omega)]
    rw [Option.getD_none, sx_sz]; simp [zeroX, MSExpr.fAtom, MSExpr.fList, szRows]
theorem sz_fList (x : MSExpr) : x.fList.length + szX x.fList ≤ x.sz := by rw [sx_sz, szX_rows]; omega
theorem sz_fAtom (x : MSExpr) : x.fAtom.length ≤ x.sz := by rw [sx_sz]; omega
def atomRow (x : MSExpr) : List D := [.s x.fAtom]
def allA (l : List MSExpr) : Bool := l.all fun x => decide (x.fAtom ≠ [])
theorem allA_no {l : List MSExpr} {i : Nat} (hi : i < l.length) (h : l[i].fAtom = []) : allA l = false ∧ namesX l = [] := by
  have : allA l = false := by
    unfold allA
    rw [List.all_eq_false]
    exact ⟨_, List.getElem_mem hi, by simp [h]⟩
  refine ⟨this, ?_⟩
  unfold namesX
  unfold allA at this
  rw [this]; rfl
theorem allA_yes {l : List MSExpr} (h : ∀ j (hj : j < l.length), l[j].fAtom ≠ []) : allA l = true ∧ (namesX l).map encS = l.map atomRow := by
  have : allA l = true := by
    unfold allA
    rw [List.all_eq_true]
    intro x hx
    obtain ⟨j, hj, rfl⟩ := List.getElem_of_mem hx
    exact decide_eq_true (h j hj)
  refine ⟨this, ?_⟩
  unfold namesX
  unfold allA at this
  rw [this, if_pos rfl, List.map_map]; rfl
theorem atomRow_snoc {l : List MSExpr} {i : Nat} (hi : i < l.length) : (l.take i).map atomRow ++ [[.s l[i].fAtom]] = (l.take (i + 1)).map atomRow := by
  rw [List.take_succ_eq_append_getElem hi, List.map_append]; rfl
theorem atomRow_len {l : List MSExpr} {i : Nat} : ((l.take i).map atomRow).length ≤ i := by rw [List.length_map]; exact List.length_take_le _ _
def lt (l : List MType) (n : Nat) : List (List D) := labRs (l.map MType.enc) n
def cntTs (l : List MType) : Nat := cntRs (l.map MType.enc)
theorem labT_eq (x : MType) (n : Nat) : labR x.enc n = [.i .i64 x.fKind, .s x.fName, .ol n (lt x.fArgs (n + 1))] := by
  rw [MType.enc_eq]; simp only [labR, labD, cntD, Nat.add_zero, lt]
theorem lt_length (l : List MType) (n : Nat) : (lt l n).length = l.length := by unfold lt; rw [labRs_length, List.length_map]
theorem lt_snoc {l : List MType} {i : Nat} (hi : i < l.length) (n : Nat) : lt (l.take i) n ++ [[.i .i64 l[i].fKind, .s l[i].fName, .ol (n + cntTs (l.take i)) (lt l[i].fArgs (n + cntTs (l.take i) + 1))]] = lt (l.take (i + 1)) n := by
  rw [List.take_succ_eq_append_getElem hi]
  unfold lt cntTs
  rw [List.map_append, labRs_append]
  simp only [List.map_cons, List.map_nil, labRs, labT_eq, lt]
theorem encT_snoc {l : List MType} {i : Nat} (hi : i < l.length) : (l.take i).map MType.enc ++ [[.i .i64 l[i].fKind, .s l[i].fName, .sl (l[i].fArgs.map MType.enc)]] = (l.take (i + 1)).map MType.enc := by
  rw [List.take_succ_eq_append_getElem hi, List.map_append]
  simp only [List.map_cons, List.map_nil, MType.enc_eq]
theorem typ_nil (k : Int) (s : List UInt8) (n : Nat) : Less (.agg [.d (.i .i64 k), .d (.s s), .fsl []]) (.agg [.d (.i .i64 k), .d (.s s), .d (.ol n [])]) := (CellsLe.cons (.refl _) (.cons (.refl _) (.cons (cell_nil_ol n) .nil))).less
theorem typ_fsl (k : Int) (s : List UInt8) (es : List (List D)) : Less (.agg [.d (.i .i64 k), .d (.s s), .fsl es]) (.agg [.d (.i .i64 k), .d (.s s), .d (.sl es)]) := (CellsLe.cons (.refl _) (.cons (.refl _) (.cons (cell_fsl es) .nil))).less
theorem head39 {s : List UInt8} (h : s ≠ []) : ((s.getD 0 0).toNat : Int) = 39 ↔ s.head? = some 39 := by
  cases s with
  | nil => exact (h rfl).elim
  | cons b s =>
    simp only [List.getD_cons_zero, List.head?_cons, Option.some.injEq]
    constructor
    · intro e
      have : b.toNat = 39 := by omega
      exact UInt8.toNat.inj this
    · intro e; rw [e]; rfl
theorem tail_slice (s : List UInt8) (n : Nat) (h : s.length ≤ n) : (s.take n).drop 1 = s.tail := by rw [List.take_of_length_le h, List.drop_one]
theorem cell_sl_le {a b : List (List D)} (h : RowsLe a b) : CellLe (.d (.sl a)) (.d (.sl b)) := fun w σ S β v hr => h.rep hr
abbrev MType.vl (t : MType) (n : Nat) : V := .agg [.d (.i .i64 t.fKind), .d (.s t.fName), .d (.ol n (lt t.fArgs (n + 1)))]
theorem le_T {b : Bool} {x : MSExpr} {r : V} {k : Int} {s : List UInt8} {l : List MType} (h : decT b x = .mk k s l) (hl : Less r (.agg [.d (.i .i64 k), .d (.s s), .d (.sl (l.map MType.enc))])) : Less r (decT b x).v := by rw [h]; exact hl
theorem le_T0 {b : Bool} {x : MSExpr} {k : Int} {s : List UInt8} (h : decT b x = .mk k s []) : Less (.agg [.d (.i .i64 k), .d (.s s), .fsl []]) (decT b x).v := by rw [h]; exact typ_fsl k s []
theorem le_T1 {b : Bool} {x : MSExpr} {k : Int} {s : List UInt8} (h : decT b x = .mk k s []) : Less (.agg [.d (.i .i64 k), .d (.s s), .d (.sl [])]) (decT b x).v := by rw [h]; exact less_refl _
theorem le_lT {b : Bool} {x : MSExpr} {r : V} {n : Nat} {k : Int} {s : List UInt8} {l : List MType} (h : decT b x = .mk k s l) (hl : Less r (.agg [.d (.i .i64 k), .d (.s s), .d (.ol n (lt l (n + 1)))])) : Less r ((decT b x).vl n) := by rw [h]; exact hl
theorem le_lT0 {b : Bool} {x : MSExpr} {n : Nat} {k : Int} {s : List UInt8} (h : decT b x = .mk k s []) : Less (.agg [.d (.i .i64 k), .d (.s s), .fsl []]) ((decT b x).vl n) := by rw [h]; exact typ_nil k s n
theorem le_lT1 {b : Bool} {x : MSExpr} {n : Nat} {k : Int} {s : List UInt8} (h : decT b x = .mk k s []) : Less (.agg [.d (.i .i64 k), .d (.s s), .d (.ol n [])]) ((decT b x).vl n) := by rw [h]; exact less_refl _
theorem head39_take {s : List UInt8} (h : 1 ≤ s.length) : (s.take 1).drop 0 = [39] ↔ s.head? = some 39 := by
  cases s with
  | nil => simp at h
  | cons b s => simp
end Go.Ab
namespace Go.Proofs.YtlmhknhlmicmeaaGreat
open Go Go.Ab
theorem specAtoms_ok (xs : List MSExpr) (hx : xs.length ≤ 1073741824) : PCall Tryz.prog 80 [.c (.d (.sl (xs.map MSExpr.enc)))] (.tup [(false, [.d (.sl ((namesX xs).map encS))]), (false, [.d (.b (allA xs))])]) := PCall.of_le fun S => by
  refine acall_cw (rs := [.tmp 2, .tmp 3]) Tryz.checked.mixed Tryz.func80 Tryz.ntmps80 rfl rfl rfl rfl rfl ?_
  simp -implicitDefEqProofs (disch := omega) only [go_sem]
  (repeat (with_reducible refine And.intro ?_ ?_; focus first | omega | rfl | assumption | exact ⟨_, rfl, rfl⟩ | (simp; omega) | (simp; done)))
  refine aw_tok 4 1 [] rfl (by simp) ?_
  refine loop_at (ι := Nat) Tryz.checked.mixed rfl [0, 4, 5] (fun i => [.c (.d (.sl (xs.map MSExpr.enc))), .c (.tsl (0, 0) ((xs.take i).map atomRow)), .c (.d (.i .i64 i))]) (fun i => [.tok 1 ((xs.take i).map atomRow)] :: S)
    (fun i => i ≤ xs.length ∧ ∀ j, ∀ hj : j < xs.length, j < i → xs[j].fAtom ≠ []) (fun i => xs.length - i) 0 rfl rfl ⟨Nat.zero_le _, fun j _ h => by omega⟩ ?_
  rintro i ⟨p1, p2⟩
  have hl := atomRow_len (l := xs) (i := i)
  simp -implicitDefEqProofs (disch := omega) only [go_sem, MSExpr.enc_eq]
  with_reducible refine split2 (fun hb => ?_) (fun hb => ?_) <;> have h := hb <;> (try simp only [wf_preprocess] at h) <;> simp -implicitDefEqProofs (disch := omega) only [go_sem, hb] <;> (repeat (with_reducible refine And.intro ?_ ?_; focus first | omega | rfl | assumption | exact ⟨_, rfl, rfl⟩ | (simp; omega) | (simp; done)))
  · have hi' : i < xs.length := by omega
    have hs := atomRow_snoc hi'
    (repeat (with_reducible refine And.intro ?_ ?_; focus first | omega | rfl | assumption | exact ⟨_, rfl, rfl⟩ | (simp; omega) | (simp; done)))
    with_reducible refine split2 (fun hb => ?_) (fun hb => ?_) <;> have h := hb <;> (try simp only [wf_preprocess] at h) <;> simp -implicitDefEqProofs (disch := omega) only [go_sem, hb] <;> (repeat (with_reducible refine And.intro ?_ ?_; focus first | omega | rfl | assumption | exact ⟨_, rfl, rfl⟩ | (simp; omega) | (simp; done)))
    · obtain ⟨e1, e2⟩ := allA_no hi' h
      rw [e1, e2]
      exact (CompsLe.cons (.cons (cell_fsl _) .nil) (.refl _)).less
    · (repeat (with_reducible refine And.intro ?_ ?_; focus first | omega | rfl | assumption | exact ⟨_, rfl, rfl⟩ | (simp; omega) | (simp; done)))
      rw [hs]
      refine inv_at (i + 1) (by omega) rfl rfl ⟨by omega, fun j hj hji => ?_⟩
      by_cases e' : j = i
      · subst e'; exact h
      · exact p2 j hj (by omega)
  · have hi' : i = xs.length := by omega
    subst hi'
    obtain ⟨e1, e2⟩ := allA_yes fun j hj => p2 j hj hj
    rw [e1, e2, List.take_length]
    exact less_refl _
theorem specNames_ok (x : MSExpr) (hx : x.sz ≤ 4194304) : PCall Tryz.prog 36 [x.v] (.c (.d (.sl ((namesX x.fList).map encS)))) := fun S => by
  have := sz_fList x
  refine acall_cw (rs := [.tmp 2]) Tryz.checked.mixed Tryz.func36 Tryz.ntmps36 rfl rfl rfl rfl rfl ?_
  simp -implicitDefEqProofs (disch := omega) only [go_sem]
  refine call_w (specAtoms_ok x.fList (by omega)) ?_
  simp -implicitDefEqProofs (disch := omega) only [go_sem]
theorem specAt_ok (x : MSExpr) (i : Nat) (hx : x.sz ≤ 4194304) (hi : i ≤ 100) : PCall Tryz.prog 35 [x.v, .c (.d (.i .i64 i))] (x.fList.getD i zeroX).v := PCall.of_le fun S => by
  have := sz_fList x
  refine acall_cw (rs := [.cell 4 46]) Tryz.checked.mixed Tryz.func35 Tryz.ntmps35 rfl rfl rfl rfl rfl ?_
  simp -implicitDefEqProofs (disch := omega) only [go_sem]
  with_reducible refine split2 (fun hb => ?_) (fun hb => ?_) <;> have h := hb <;> (try simp only [wf_preprocess] at h) <;> simp -implicitDefEqProofs (disch := omega) only [go_sem, hb] <;> (repeat (with_reducible refine And.intro ?_ ?_; focus first | omega | rfl | assumption | exact ⟨_, rfl, rfl⟩ | (simp; omega) | (simp; done)))
  · rw [List.getD_eq_getElem?_getD, List.getElem?_eq_none (by omega)]
    exact (CellsLe.cons (.refl _) (.cons (cell_fsl _) .nil)).less
  · have hi : i < x.fList.length := by omega
    rw [List.getD_eq_getElem?_getD, List.getElem?_eq_getElem hi]
    exact less_refl _
theorem l1Min_ok (a b : Int) : PCall Tryz.prog 81 [.c (.d (.i .i64 a)), .c (.d (.i .i64 b))] (.c (.d (.i .i64 (min a b)))) := fun S => by
  refine acall_cw (rs := [.tmp 4]) Tryz.checked.mixed Tryz.func81 Tryz.ntmps81 rfl rfl rfl rfl rfl ?_
  simp -implicitDefEqProofs (disch := omega) only [go_sem]
  with_reducible refine split2 (fun hb => ?_) (fun hb => ?_) <;> have h := hb <;> (try simp only [wf_preprocess] at h) <;> simp -implicitDefEqProofs (disch := omega) only [go_sem, hb] <;> (repeat (with_reducible refine And.intro ?_ ?_; focus first | omega | rfl | assumption | exact ⟨_, rfl, rfl⟩ | (simp; omega) | (simp; done)))
  · exact int_eq (by omega)
  · exact int_eq (by omega)
theorem specFrom_ok (x : MSExpr) (i : Nat) (hx : x.sz ≤ 4194304) : PCall Tryz.prog 37 [x.v, .c (.d (.i .i64 i))] (.c (.d (.sl ((x.fList.drop i).map MSExpr.enc)))) := fun S => by
  have := sz_fList x
  refine acall_cw (rs := [.tmp 4]) Tryz.checked.mixed Tryz.func37 Tryz.ntmps37 rfl rfl rfl rfl rfl ?_
  simp -implicitDefEqProofs (disch := omega) only [go_sem]
  refine call_w (l1Min_ok _ _) ?_
  have e : min (i : Int) (x.fList.length : Int) = ((min i x.fList.length : Nat) : Int) := by omega
  rw [e]
  have hr := enc_rows (l := x.fList)
  simp -implicitDefEqProofs (disch := omega) only [go_sem]
  (repeat (with_reducible refine And.intro ?_ ?_; focus first | omega | rfl | assumption | exact ⟨_, rfl, rfl⟩ | (simp; omega) | (simp; done)))
  refine ⟨⟨by omega, by omega, by omega, hr⟩, ?_⟩
  rw [encX_drop _ _ _ (Nat.le_refl _)]
  by_cases h : i ≤ x.fList.length
  · rw [Nat.min_eq_left h]
  · rw [Nat.min_eq_right (by omega), List.drop_length, List.drop_of_length_le (by omega)]
theorem specCon_ok (s : List UInt8) : PCall Tryz.prog 131 [.c (.d (.s s)), .c (.d (.sl []))] (.agg [.d (.i .i64 2), .d (.s s), .d (.sl [])]) := PCall.of_le fun S => by
  refine acall_cw (rs := [.cell 4 104]) Tryz.checked.mixed Tryz.func131 Tryz.ntmps131 rfl rfl rfl rfl rfl ?_
  simp -implicitDefEqProofs (disch := omega) only [go_sem]
  (repeat (with_reducible refine And.intro ?_ ?_; focus first | omega | rfl | assumption | exact ⟨_, rfl, rfl⟩ | (simp; omega) | (simp; done)))
  exact less_refl _
theorem specVar_ok (s : List UInt8) : PCall Tryz.prog 130 [.c (.d (.s s))] (.agg [.d (.i .i64 1), .d (.s s), .d (.sl [])]) := PCall.of_le fun S => by
  refine acall_cw (rs := [.cell 2 104]) Tryz.checked.mixed Tryz.func130 Tryz.ntmps130 rfl rfl rfl rfl rfl ?_
  simp -implicitDefEqProofs (disch := omega) only [go_sem]
  (repeat (with_reducible refine And.intro ?_ ?_; focus first | omega | rfl | assumption | exact ⟨_, rfl, rfl⟩ | (simp; omega) | (simp; done)))
  exact typ_fsl _ _ _
theorem specDecTy_all : ∀ N : Nat, (∀ x : MSExpr, SizeOf.sizeOf x < N → x.sz ≤ 4194304 → PCall Tryz.prog 82 [x.v] (decT false x).v)
  | 0 => fun x h => by omega
  | N + 1 => by
    have ih := specDecTy_all N
    intro x hn hsz
    have lArgs := MSExpr.lt_List x
    have h1 := sz_fList x
    have h2 := sz_fAtom x
    have hx := decT_eq false x
    have hall : ∀ t ∈ x.fList, t.sz ≤ 4194304 := fun t ht => by have := szX_mem ht; omega
    refine PCall.of_le fun S => ?_
    refine acall_cw (rs := [.cell 2 104]) Tryz.checked.mixed Tryz.func82 Tryz.ntmps82 rfl rfl rfl rfl rfl ?_
    simp -implicitDefEqProofs (disch := omega) only [go_sem]
    with_reducible refine split2 (fun hb => ?_) (fun hb => ?_) <;> have h := hb <;> (try simp only [wf_preprocess] at h) <;> simp -implicitDefEqProofs (disch := omega) only [go_sem, hb] <;> (repeat (with_reducible refine And.intro ?_ ?_; focus first | omega | rfl | assumption | exact ⟨_, rfl, rfl⟩ | (simp; omega) | (simp; done)))
    · have hne := h
      rw [if_neg h] at hx
      have h39 := head39 h
      have hln : 0 < x.fAtom.length := List.length_pos_iff.2 hne
      have hsl := tail_slice x.fAtom x.fAtom.length (Nat.le_refl _)
      (repeat (with_reducible refine And.intro ?_ ?_; focus first | omega | rfl | assumption | exact ⟨_, rfl, rfl⟩ | (simp; omega) | (simp; done)))
      with_reducible refine split2 (fun hb => ?_) (fun hb => ?_) <;> have h := hb <;> (try simp only [wf_preprocess] at h) <;> simp -implicitDefEqProofs (disch := omega) only [go_sem, hb] <;> (repeat (with_reducible refine And.intro ?_ ?_; focus first | omega | rfl | assumption | exact ⟨_, rfl, rfl⟩ | (simp; omega) | (simp; done)))
      · rw [if_pos (h39.1 h)] at hx
        (repeat (with_reducible refine And.intro ?_ ?_; focus first | omega | rfl | assumption | exact ⟨_, rfl, rfl⟩ | (simp; omega) | (simp; done)))
        rw [hsl]
        refine call_w (specVar_ok _) ?_
        simp -implicitDefEqProofs (disch := omega) only [go_sem]
        exact le_T1 hx
      · rw [if_neg (fun e => h (h39.2 e))] at hx
        refine call_w (specCon_ok _) ?_
        simp -implicitDefEqProofs (disch := omega) only [go_sem]
        exact le_T1 hx
    rw [if_pos h] at hx
    with_reducible refine split2 (fun hb => ?_) (fun hb => ?_) <;> have h := hb <;> (try simp only [wf_preprocess] at h) <;> simp -implicitDefEqProofs (disch := omega) only [go_sem, hb] <;> (repeat (with_reducible refine And.intro ?_ ?_; focus first | omega | rfl | assumption | exact ⟨_, rfl, rfl⟩ | (simp; omega) | (simp; done)))
    · rw [if_pos (by omega)] at hx
      exact le_T0 hx
    rw [if_neg (by omega)] at hx
    have hl2 : 2 ≤ x.fList.length := by omega
    have a0 := atA_get (l := x.fList) (i := 0) (by omega)
    have a1 := atA_get (l := x.fList) (i := 1) (by omega)
    obtain ⟨T, hT⟩ : ∃ T : Nat → List (List D), T = fun i => (((x.fList.map (decT false)).drop 1).take i).map MType.enc := ⟨_, rfl⟩
    have hT0 : T 0 = [] := by rw [hT]; rfl
    have hTl : ∀ i, (T i).length ≤ i := fun i => by rw [hT]; simp only [List.length_map]; exact List.length_take_le _ _
    have hTr : ∀ i, ∀ r ∈ T i, r.length = 3 := fun i => by
      rw [hT]; intro r hr
      obtain ⟨z, _, rfl⟩ := List.mem_map.1 hr
      exact z.enc_length
    have hTs : ∀ i (hi : i + 1 < x.fList.length), T i ++ [[.i .i64 (decT false x.fList[i + 1]).fKind, .s (decT false x.fList[i + 1]).fName, .sl ((decT false x.fList[i + 1]).fArgs.map MType.enc)]] = T (i + 1) := fun i hi => by
      have := encT_snoc (l := (x.fList.map (decT false)).drop 1) (i := i) (by rw [List.length_drop, List.length_map]; omega)
      rw [List.getElem_drop, List.getElem_map] at this
      rw [hT]; simp only [Nat.add_comm 1 i] at this ⊢; exact this
    have hTe : T (x.fList.length - 1) = ((x.fList.map (decT false)).drop 1).map MType.enc := by
      rw [hT]; simp only
      rw [List.take_of_length_le (by simp)]
    have hTn : (T (x.fList.length - 1)).length = x.fList.length - 1 := by rw [hTe]; simp
    have hTd : (T (x.fList.length - 1)).drop 1 = ((x.fList.map (decT false)).drop 2).map MType.enc := by rw [hTe, ← List.map_drop, List.drop_drop]
    clear hT
    (repeat (with_reducible refine And.intro ?_ ?_; focus first | omega | rfl | assumption | exact ⟨_, rfl, rfl⟩ | (simp; omega) | (simp; done)))
    refine aw_tok 4 3 [] rfl (by simp) ?_
    refine loop_at (ι := Nat) Tryz.checked.mixed rfl [1, 2, 3, 4, 5] (fun i => [.c (.ptr (0, 0) 0), .c (.ptr (0, 1) 0), .c (.d (.s x.fList[0].fAtom)), .c (.tsl (0, 2) (T i)), .c (.d (.i .i64 ((i + 1 : Nat) : Int)))])
      (fun i => [.box [.d (.s x.fAtom), .d (.sl (x.fList.map MSExpr.enc))], .box [.d (.i .i64 0), .d (.s []), .fsl []], .tok 3 (T i)] :: S)
      (fun i => i + 1 ≤ x.fList.length) (fun i => x.fList.length - (i + 1)) 0 (by rw [hT0]; rfl) (by rw [hT0]; rfl) (by omega) ?_
    intro i hi
    have hl := hTl i
    simp -implicitDefEqProofs (disch := omega) only [go_sem]
    with_reducible refine split2 (fun hb => ?_) (fun hb => ?_) <;> have h := hb <;> (try simp only [wf_preprocess] at h) <;> simp -implicitDefEqProofs (disch := omega) only [go_sem, hb] <;> (repeat (with_reducible refine And.intro ?_ ?_; focus first | omega | rfl | assumption | exact ⟨_, rfl, rfl⟩ | (simp; omega) | (simp; done)))
    · have hi' : i + 1 < x.fList.length := by omega
      have hm := List.getElem_mem hi'
      have hs := hTs i hi'
      (repeat (with_reducible refine And.intro ?_ ?_; focus first | omega | rfl | assumption | exact ⟨_, rfl, rfl⟩ | (simp; omega) | (simp; done)))
      refine call_w (ih x.fList[i + 1] (by have := List.sizeOf_lt_of_mem hm; omega) (hall _ hm)) ?_
      simp -implicitDefEqProofs (disch := omega) only [go_sem, MType.enc_eq]
      (repeat (with_reducible refine And.intro ?_ ?_; focus first | omega | rfl | assumption | exact ⟨_, rfl, rfl⟩ | (simp; omega) | (simp; done)))
      rw [hs]
      exact inv_at (i + 1) (by omega) rfl rfl (by omega)
    have hi' : i = x.fList.length - 1 := by omega
    subst hi'
    have hrows := hTr (x.fList.length - 1)
    have hta : ((T (x.fList.length - 1)).take (x.fList.length - 1)) = T (x.fList.length - 1) := List.take_of_length_le (by omega)
    rw [a0, a1] at hx
    have tD : x.fList[0].fAtom = [100, 121, 110] ∧ x.fList.length = 2 ∧ x.fList[1].fAtom ≠ [] → decT false x = .mk 4 x.fList[1].fAtom [] := fun e => hx.trans (if_pos ⟨e.1, .inr e.2⟩)
    have tA : x.fList[0].fAtom = [97, 115, 115, 111, 99] ∧ x.fList.length = 3 ∧ x.fList[1].fAtom ≠ [] → decT false x = .mk 3 x.fList[1].fAtom ((x.fList.map (decT false)).drop 2) := fun e => by
      rw [hx, if_neg (fun e' => by have := e'.1.symm.trans e.1; revert this; decide), if_pos ⟨e.1, .inr e.2⟩]
    have tN : ¬ (x.fList[0].fAtom = [100, 121, 110] ∧ x.fList.length = 2 ∧ x.fList[1].fAtom ≠ []) → ¬ (x.fList[0].fAtom = [97, 115, 115, 111, 99] ∧ x.fList.length = 3 ∧ x.fList[1].fAtom ≠ []) → decT false x = .mk 2 x.fList[0].fAtom ((x.fList.map (decT false)).drop 1) := fun e1 e2 => by
      rw [hx, if_neg (fun e' => e1 ⟨e'.1, e'.2.resolve_left (by decide)⟩), if_neg (fun e' => e2 ⟨e'.1, e'.2.resolve_left (by decide)⟩)]
    clear hx hTs ih
    repeat' (first | (with_reducible refine split2 (fun hb => ?_) (fun hb => ?_) <;> have h := hb <;> (try simp only [wf_preprocess] at h) <;> simp -implicitDefEqProofs (disch := omega) only [go_sem, hb] <;> (repeat (with_reducible refine And.intro ?_ ?_; focus first | omega | rfl | assumption | exact ⟨_, rfl, rfl⟩ | (simp; omega) | (simp; done)))))
    all_goals first
      | (refine ⟨⟨by omega, by omega, hrows⟩, ?_⟩; refine le_T (tA ⟨by assumption, by omega, by assumption⟩) ?_; rw [hTn, hta, hTd]; exact less_refl _)
      | exact le_T0 (tD ⟨by assumption, by omega, by assumption⟩)
      | (refine le_T (tN (fun ⟨a, b, c⟩ => by first | contradiction | omega) (fun ⟨a, b, c⟩ => by first | contradiction | omega)) ?_; rw [hTe]; exact less_refl _)
      | trace_state
theorem specDecTy_ok (x : MSExpr) (hsz : x.sz ≤ 4194304) : PCall Tryz.prog 82 [x.v] (decT false x).v := specDecTy_all _ x (Nat.lt_succ_self _) hsz
theorem specDecTys_ok (xs : List MSExpr) (hlen : xs.length ≤ 4194304) (hsz : ∀ t ∈ xs, t.sz ≤ 4194304) : PCall Tryz.prog 38 [.c (.d (.sl (xs.map MSExpr.enc)))] (.c (.d (.sl ((xs.map (decT false)).map MType.enc)))) := fun S => by
  refine acall_cw (rs := [.tmp 2]) Tryz.checked.mixed Tryz.func38 Tryz.ntmps38 rfl rfl rfl rfl rfl ?_
  simp -implicitDefEqProofs (disch := omega) only [go_sem]
  (repeat (with_reducible refine And.intro ?_ ?_; focus first | omega | rfl | assumption | exact ⟨_, rfl, rfl⟩ | (simp; omega) | (simp; done)))
  refine aw_tok 3 3 [] rfl (by simp) ?_
  refine loop_at (ι := Nat) Tryz.checked.mixed rfl [0, 3, 4] (fun i => [.c (.d (.sl (xs.map MSExpr.enc))), .c (.tsl (0, 0) (((xs.map (decT false)).take i).map MType.enc)), .c (.d (.i .i64 i))]) (fun i => [.tok 3 (((xs.map (decT false)).take i).map MType.enc)] :: S)
    (fun i => i ≤ xs.length) (fun i => xs.length - i) 0 rfl rfl (Nat.zero_le _) ?_
  intro i hi
  have hl : (((xs.map (decT false)).take i).map MType.enc).length ≤ i := by rw [List.length_map]; exact List.length_take_le _ _
  simp -implicitDefEqProofs (disch := omega) only [go_sem]
  with_reducible refine split2 (fun hb => ?_) (fun hb => ?_) <;> have h := hb <;> (try simp only [wf_preprocess] at h) <;> simp -implicitDefEqProofs (disch := omega) only [go_sem, hb] <;> (repeat (with_reducible refine And.intro ?_ ?_; focus first | omega | rfl | assumption | exact ⟨_, rfl, rfl⟩ | (simp; omega) | (simp; done)))
  · have hi' : i < xs.length := by omega
    have hs := encT_snoc (l := xs.map (decT false)) (i := i) (by rw [List.length_map]; exact hi')
    rw [List.getElem_map] at hs
    (repeat (with_reducible refine And.intro ?_ ?_; focus first | omega | rfl | assumption | exact ⟨_, rfl, rfl⟩ | (simp; omega) | (simp; done)))
    refine call_w (specDecTy_ok xs[i] (hsz _ (List.getElem_mem hi'))) ?_
    simp -implicitDefEqProofs (disch := omega) only [go_sem]
    (repeat (with_reducible refine And.intro ?_ ?_; focus first | omega | rfl | assumption | exact ⟨_, rfl, rfl⟩ | (simp; omega) | (simp; done)))
    rw [hs]
    exact inv_at (i + 1) (by omega) rfl rfl (by omega)
  · have hi' : i = (xs.map (decT false)).length := by rw [List.length_map]; omega
    rw [hi', List.take_length]
theorem stlHasPrefix_ok (s : List UInt8) (hs : s.length ≤ 1073741824) : PCall Tryz.prog 198 [.c (.d (.s s)), .c (.d (.s [39]))] (.c (.d (.b (decide (s.head? = some 39))))) := fun S => by
  refine acall_cw (rs := [.tmp 4]) Tryz.checked.mixed Tryz.func198 Tryz.ntmps198 rfl rfl rfl rfl rfl ?_
  simp -implicitDefEqProofs (disch := omega) only [go_sem]
  with_reducible refine split2 (fun hb => ?_) (fun hb => ?_) <;> have h := hb <;> (try simp only [wf_preprocess] at h) <;> simp -implicitDefEqProofs (disch := omega) only [go_sem, hb] <;> (repeat (with_reducible refine And.intro ?_ ?_; focus first | omega | rfl | assumption | exact ⟨_, rfl, rfl⟩ | (simp; omega) | (simp; done)))
  · exact bool_eq (decide_eq_decide.2 (head39_take (by omega)))
  · have : s = [] := List.eq_nil_of_length_eq_zero (by omega)
    subst this
    rfl
theorem stlCutPrefix_ok (s : List UInt8) (hs : s.length ≤ 1073741824) : PCall Tryz.prog 176 [.c (.d (.s s)), .c (.d (.s [39]))] (.tup [(false, [.d (.s (if s.head? = some 39 then s.tail else s))]), (false, [.d (.b (decide (s.head? = some 39)))])]) := fun S => by
  refine acall_cw (rs := [.tmp 4, .tmp 5]) Tryz.checked.mixed Tryz.func176 Tryz.ntmps176 rfl rfl rfl rfl rfl ?_
  simp -implicitDefEqProofs (disch := omega) only [go_sem]
  refine call_w (stlHasPrefix_ok s hs) ?_
  simp -implicitDefEqProofs (disch := omega) only [go_sem]
  with_reducible refine split2 (fun hb => ?_) (fun hb => ?_) <;> have h := hb <;> (try simp only [wf_preprocess] at h) <;> simp -implicitDefEqProofs (disch := omega) only [go_sem, hb] <;> (repeat (with_reducible refine And.intro ?_ ?_; focus first | omega | rfl | assumption | exact ⟨_, rfl, rfl⟩ | (simp; omega) | (simp; done)))
  · rw [if_neg h, decide_eq_false h]
  · have hl : 0 < s.length := by
      cases s with
      | nil => cases h
      | cons _ _ => simp
    (repeat (with_reducible refine And.intro ?_ ?_; focus first | omega | rfl | assumption | exact ⟨_, rfl, rfl⟩ | (simp; omega) | (simp; done)))
    rw [if_pos h, decide_eq_true h, tail_slice _ _ (Nat.le_refl _)]
theorem cutPrefix_ok (s : List UInt8) (hs : s.length ≤ 1073741824) : PCall Tryz.prog 140 [.c (.d (.s s)), .c (.d (.s [39]))] (.tup [(false, [.d (.s (if s.head? = some 39 then s.tail else s))]), (false, [.d (.b (decide (s.head? = some 39)))])]) := fun S => by
  refine acall_cw (rs := [.tmp 4, .tmp 5]) Tryz.checked.mixed Tryz.func140 Tryz.ntmps140 rfl rfl rfl rfl rfl ?_
  simp -implicitDefEqProofs (disch := omega) only [go_sem]
  refine call_w (stlCutPrefix_ok s hs) ?_
  simp -implicitDefEqProofs (disch := omega) only [go_sem]
theorem implNamesOf_lab (xs : List MSExpr) (hx : xs.length ≤ 1073741824) (n : Nat) : PCall Tryz.prog 93 [.c (.d (.sl (xs.map MSExpr.enc)))] (.tup [(false, [.d (.ol n ((namesX xs).map encS))]), (false, [.d (.b (allA xs))])]) := PCall.of_le fun S => by
  refine acall_cwL (n) (rs := [.tmp 2, .tmp 3]) Tryz.checked.mixed Tryz.func93 Tryz.ntmps93 rfl rfl rfl rfl rfl ?_
  simp -implicitDefEqProofs (disch := omega) only [go_sem]
  (repeat (with_reducible refine And.intro ?_ ?_; focus first | omega | rfl | assumption | exact ⟨_, rfl, rfl⟩ | (simp; omega) | (simp; done)))
  refine aw_ltok n 4 1 [] (.inl rfl) (by simp) ?_
  refine loop_at (ι := Nat) Tryz.checked.mixed rfl [4, 8, 9, 10] (fun i => [.c (.tsl (0, 1) ((xs.take i).map atomRow)), .c (.d (.sl (xs.map MSExpr.enc))), .c (.d (.i .i64 xs.length)), .c (.d (.i .i64 i))]) (fun i => [.seed n, .ltok n 1 ((xs.take i).map atomRow)] :: S)
    (fun i => i ≤ xs.length ∧ ∀ j, ∀ hj : j < xs.length, j < i → xs[j].fAtom ≠ []) (fun i => xs.length - i) 0 rfl rfl ⟨Nat.zero_le _, fun j _ h => by omega⟩ ?_
  rintro i ⟨p1, p2⟩
  have hl := atomRow_len (l := xs) (i := i)
  simp -implicitDefEqProofs (disch := omega) only [go_sem, MSExpr.enc_eq]
  with_reducible refine split2 (fun hb => ?_) (fun hb => ?_) <;> have h := hb <;> (try simp only [wf_preprocess] at h) <;> simp -implicitDefEqProofs (disch := omega) only [go_sem, hb] <;> (repeat (with_reducible refine And.intro ?_ ?_; focus first | omega | rfl | assumption | exact ⟨_, rfl, rfl⟩ | (simp; omega) | (simp; done)))
  · have hi' : i < xs.length := by omega
    have hs := atomRow_snoc hi'
    (repeat (with_reducible refine And.intro ?_ ?_; focus first | omega | rfl | assumption | exact ⟨_, rfl, rfl⟩ | (simp; omega) | (simp; done)))
    with_reducible refine split2 (fun hb => ?_) (fun hb => ?_) <;> have h := hb <;> (try simp only [wf_preprocess] at h) <;> simp -implicitDefEqProofs (disch := omega) only [go_sem, hb] <;> (repeat (with_reducible refine And.intro ?_ ?_; focus first | omega | rfl | assumption | exact ⟨_, rfl, rfl⟩ | (simp; omega) | (simp; done)))
    · obtain ⟨e1, e2⟩ := allA_no hi' h
      rw [e1, e2]
      exact (CompsLe.cons (.cons (cell_nil_ol n) .nil) (.refl _)).less
    · (repeat (with_reducible refine And.intro ?_ ?_; focus first | omega | rfl | assumption | exact ⟨_, rfl, rfl⟩ | (simp; omega) | (simp; done)))
      rw [hs]
      refine inv_drop 2 (by decide) (i + 1) (by omega) rfl rfl rfl rfl ⟨by omega, fun j hj hji => ?_⟩
      by_cases e' : j = i
      · subst e'; exact h
      · exact p2 j hj (by omega)
  · have hi' : i = xs.length := by omega
    subst hi'
    obtain ⟨e1, e2⟩ := allA_yes fun j hj => p2 j hj hj
    rw [e1, e2, List.take_length]
    exact less_refl _
theorem implNames_lab (x : MSExpr) (hx : x.sz ≤ 4194304) (n : Nat) : PCall Tryz.prog 44 [x.v] (.c (.d (.ol n ((namesX x.fList).map encS)))) := fun S => by
  have := sz_fList x
  refine acall_cw (rs := [.tmp 2]) Tryz.checked.mixed Tryz.func44 Tryz.ntmps44 rfl rfl rfl rfl rfl ?_
  simp -implicitDefEqProofs (disch := omega) only [go_sem]
  refine call_w (implNamesOf_lab x.fList (by omega) n) ?_
  simp -implicitDefEqProofs (disch := omega) only [go_sem]
theorem implVar_lab (s : List UInt8) (n : Nat) : PCall Tryz.prog 141 [.c (.d (.s s))] (.agg [.d (.i .i64 1), .d (.s s), .d (.ol n [])]) := PCall.of_le fun S => by
  refine acall_cw (rs := [.cell 2 104]) Tryz.checked.mixed Tryz.func141 Tryz.ntmps141 rfl rfl rfl rfl rfl ?_
  simp -implicitDefEqProofs (disch := omega) only [go_sem]
  (repeat (with_reducible refine And.intro ?_ ?_; focus first | omega | rfl | assumption | exact ⟨_, rfl, rfl⟩ | (simp; omega) | (simp; done)))
  exact typ_nil _ _ _
theorem implDyn_lab (s : List UInt8) (n : Nat) : PCall Tryz.prog 142 [.c (.d (.s s))] (.agg [.d (.i .i64 4), .d (.s s), .d (.ol n [])]) := PCall.of_le fun S => by
  refine acall_cw (rs := [.cell 2 104]) Tryz.checked.mixed Tryz.func142 Tryz.ntmps142 rfl rfl rfl rfl rfl ?_
  simp -implicitDefEqProofs (disch := omega) only [go_sem]
  (repeat (with_reducible refine And.intro ?_ ?_; focus first | omega | rfl | assumption | exact ⟨_, rfl, rfl⟩ | (simp; omega) | (simp; done)))
  exact typ_nil _ _ _
theorem implDecTy_all : ∀ N : Nat, (∀ x : MSExpr, SizeOf.sizeOf x < N → ∀ n : Nat, x.sz ≤ 4194304 → PCall Tryz.prog 94 [x.v] ((decT true x).vl n)) ∧
    (∀ xs : List MSExpr, SizeOf.sizeOf xs < N → ∀ n q : Nat, xs.length ≤ 4194304 → (∀ t ∈ xs, t.sz ≤ 4194304) → PCall Tryz.prog 45 [.c (.d (.sl (xs.map MSExpr.enc)))] (.c (.d (.ol n (lt (xs.map (decT true)) q)))))
  | 0 => ⟨fun x h => by omega, fun x h => by omega⟩
  | N + 1 => by
    obtain ⟨ih, ihS⟩ := implDecTy_all N
    refine ⟨fun x hn n hsz => PCall.of_le fun S => ?_, fun xs hn n q hlen hsz S => ?_⟩
    · have lArgs := MSExpr.lt_List x
      have h1 := sz_fList x
      have h2 := sz_fAtom x
      have hx := decT_eq true x
      have hall : ∀ t ∈ x.fList, t.sz ≤ 4194304 := fun t ht => by have := szX_mem ht; omega
      refine acall_cw (rs := [.cell 2 104]) Tryz.checked.mixed Tryz.func94 Tryz.ntmps94 rfl rfl rfl rfl rfl ?_
      simp -implicitDefEqProofs (disch := omega) only [go_sem]
      with_reducible refine split2 (fun hb => ?_) (fun hb => ?_) <;> have h := hb <;> (try simp only [wf_preprocess] at h) <;> simp -implicitDefEqProofs (disch := omega) only [go_sem, hb] <;> (repeat (with_reducible refine And.intro ?_ ?_; focus first | omega | rfl | assumption | exact ⟨_, rfl, rfl⟩ | (simp; omega) | (simp; done)))
      · rw [if_neg h] at hx
        refine call_w (cutPrefix_ok x.fAtom (by omega)) ?_
        simp -implicitDefEqProofs (disch := omega) only [go_sem]
        with_reducible refine split2 (fun hb => ?_) (fun hb => ?_) <;> have h := hb <;> (try simp only [wf_preprocess] at h) <;> simp -implicitDefEqProofs (disch := omega) only [go_sem, hb] <;> (repeat (with_reducible refine And.intro ?_ ?_; focus first | omega | rfl | assumption | exact ⟨_, rfl, rfl⟩ | (simp; omega) | (simp; done)))
        · rw [if_pos h] at hx ⊢
          refine call_w (implVar_lab _ n) ?_
          simp -implicitDefEqProofs (disch := omega) only [go_sem]
          exact le_lT1 hx
        · rw [if_neg h] at hx
          (repeat (with_reducible refine And.intro ?_ ?_; focus first | omega | rfl | assumption | exact ⟨_, rfl, rfl⟩ | (simp; omega) | (simp; done)))
          exact le_lT0 hx
      rw [if_pos h] at hx
      with_reducible refine split2 (fun hb => ?_) (fun hb => ?_) <;> have h := hb <;> (try simp only [wf_preprocess] at h) <;> simp -implicitDefEqProofs (disch := omega) only [go_sem, hb] <;> (repeat (with_reducible refine And.intro ?_ ?_; focus first | omega | rfl | assumption | exact ⟨_, rfl, rfl⟩ | (simp; omega) | (simp; done)))
      · rw [if_pos (by omega)] at hx
        exact le_lT0 hx
      rw [if_neg (by omega)] at hx
      have hl2 : 2 ≤ x.fList.length := by omega
      have a0 := atA_get (l := x.fList) (i := 0) (by omega)
      have a1 := atA_get (l := x.fList) (i := 1) (by omega)
      rw [a0, a1] at hx
      have hr := enc_rows (l := x.fList)
      have hd := fun i => encX_drop x.fList x.fList.length i (Nat.le_refl _)
      have hso := fun i => sizeOf_drop i x.fList
      have hdl : ∀ i, (x.fList.drop i).length ≤ 4194304 := fun i => by rw [List.length_drop]; omega
      have hda : ∀ i, ∀ t ∈ x.fList.drop i, t.sz ≤ 4194304 := fun i t ht => hall t (List.mem_of_mem_drop ht)
      (repeat (with_reducible refine And.intro ?_ ?_; focus first | omega | rfl | assumption | exact ⟨_, rfl, rfl⟩ | (simp; omega) | (simp; done)))
      with_reducible refine split2 (fun hb => ?_) (fun hb => ?_) <;> have h := hb <;> (try simp only [wf_preprocess] at h) <;> simp -implicitDefEqProofs (disch := omega) only [go_sem, hb] <;> (repeat (with_reducible refine And.intro ?_ ?_; focus first | omega | rfl | assumption | exact ⟨_, rfl, rfl⟩ | (simp; omega) | (simp; done)))
      · have hx := hx.trans (if_pos ⟨h, .inl rfl⟩)
        (repeat (with_reducible refine And.intro ?_ ?_; focus first | omega | rfl | assumption | exact ⟨_, rfl, rfl⟩ | (simp; omega) | (simp; done)))
        refine call_w (implDyn_lab _ n) ?_
        simp -implicitDefEqProofs (disch := omega) only [go_sem]
        exact le_lT1 hx
      have hx := hx.trans (if_neg fun e => h e.1)
      with_reducible refine split2 (fun hb => ?_) (fun hb => ?_) <;> have h := hb <;> (try simp only [wf_preprocess] at h) <;> simp -implicitDefEqProofs (disch := omega) only [go_sem, hb] <;> (repeat (with_reducible refine And.intro ?_ ?_; focus first | omega | rfl | assumption | exact ⟨_, rfl, rfl⟩ | (simp; omega) | (simp; done)))
      · have hx := hx.trans (if_pos ⟨h, .inl rfl⟩)
        refine ⟨⟨by omega, by omega, hr⟩, ?_⟩
        rw [hd]
        refine call_w (ihS (x.fList.drop 2) (by have := hso 2; omega) n (n + 1) (hdl 2) (hda 2)) ?_
        simp -implicitDefEqProofs (disch := omega) only [go_sem]
        refine le_lT hx ?_
        rw [List.map_drop]
        exact less_refl _
      · have hx := hx.trans (if_neg fun e => h e.1)
        refine ⟨⟨by omega, by omega, hr⟩, ?_⟩
        rw [hd]
        refine call_w (ihS (x.fList.drop 1) (by have := hso 1; omega) n (n + 1) (hdl 1) (hda 1)) ?_
        simp -implicitDefEqProofs (disch := omega) only [go_sem]
        refine le_lT hx ?_
        rw [List.map_drop]
        exact less_refl _
    · have hsnoc := fun (i : Nat) (hi : i < xs.length) => lt_snoc (l := xs.map (decT true)) (i := i) (by rw [List.length_map]; exact hi) q
      refine acall_cwL (n) (rs := [.tmp 2]) Tryz.checked.mixed Tryz.func45 Tryz.ntmps45 rfl rfl rfl rfl rfl ?_
      simp -implicitDefEqProofs (disch := omega) only [go_sem]
      (repeat (with_reducible refine And.intro ?_ ?_; focus first | omega | rfl | assumption | exact ⟨_, rfl, rfl⟩ | (simp; omega) | (simp; done)))
      refine aw_ltok n 3 3 [] (.inl rfl) (by simp) ?_
      refine loop_at (ι := Nat) Tryz.checked.mixed rfl [3, 7, 8, 9] (fun i => [.c (.tsl (0, 1) (lt ((xs.map (decT true)).take i) q)), .c (.d (.sl (xs.map MSExpr.enc))), .c (.d (.i .i64 xs.length)), .c (.d (.i .i64 i))]) (fun i => [.seed n, .ltok n 3 (lt ((xs.map (decT true)).take i) q)] :: S)
        (fun i => i ≤ xs.length) (fun i => xs.length - i) 0 rfl rfl (Nat.zero_le _) ?_
      intro i hi
      simp -implicitDefEqProofs (disch := omega) only [go_sem, MSExpr.enc_eq]
      with_reducible refine split2 (fun hb => ?_) (fun hb => ?_) <;> have h := hb <;> (try simp only [wf_preprocess] at h) <;> simp -implicitDefEqProofs (disch := omega) only [go_sem, hb] <;> (repeat (with_reducible refine And.intro ?_ ?_; focus first | omega | rfl | assumption | exact ⟨_, rfl, rfl⟩ | (simp; omega) | (simp; done)))
      · have hi' : i < xs.length := by omega
        have hs := hsnoc i hi'
        rw [List.getElem_map] at hs
        have hl : (lt ((xs.map (decT true)).take i) q).length ≤ i := by rw [lt_length]; exact List.length_take_le _ _
        (repeat (with_reducible refine And.intro ?_ ?_; focus first | omega | rfl | assumption | exact ⟨_, rfl, rfl⟩ | (simp; omega) | (simp; done)))
        refine call_w (ih xs[i] (by have := List.sizeOf_lt_of_mem (List.getElem_mem hi'); omega) (q + cntTs ((xs.map (decT true)).take i)) (hsz _ (List.getElem_mem hi'))) ?_
        simp -implicitDefEqProofs (disch := omega) only [go_sem]
        (repeat (with_reducible refine And.intro ?_ ?_; focus first | omega | rfl | assumption | exact ⟨_, rfl, rfl⟩ | (simp; omega) | (simp; done)))
        rw [hs]
        exact inv_drop 2 (by decide) (i + 1) (by omega) rfl rfl rfl rfl (by omega)
      · have hi' : i = (xs.map (decT true)).length := by rw [List.length_map]; omega
        rw [hi', List.take_length]
theorem implDecTys_lab (xs : List MSExpr) (n q : Nat) (hlen : xs.length ≤ 4194304) (hsz : ∀ t ∈ xs, t.sz ≤ 4194304) : PCall Tryz.prog 45 [.c (.d (.sl (xs.map MSExpr.enc)))] (.c (.d (.ol n (lt (xs.map (decT true)) q)))) := (implDecTy_all _).2 xs (Nat.lt_succ_self _) n q hlen hsz
end Go.Proofs.YtlmhknhlmicmeaaGreat

namespace Go.Ab
theorem getD_sz (x : MSExpr) (i : Nat) {m : Nat} (h : x.sz ≤ m) : (x.fList.getD i zeroX).sz ≤ m := by
  have := szX_getD x.fList i
  have := sz_fList x
  omega
theorem encC_snoc {b : Bool} {l : List MSExpr} {i : Nat} (hi : i < l.length) : ((l.take i).map (decC b)).map MConstructor.enc ++ [[.s (l[i].fList.getD 0 zeroX).fAtom, .sl (((l[i].fList.drop 1).map (decT b)).map MType.enc)]] = ((l.take (i + 1)).map (decC b)).map MConstructor.enc := by
  rw [List.take_succ_eq_append_getElem hi, List.map_append, List.map_append]
  simp only [List.map_cons, List.map_nil, MConstructor.enc_eq]
  rfl
theorem rdD_enc {x : MSExpr} (h : okD x = true) : (rdD x).fName = (decD false x).fName ∧ (rdD x).fVars = (decD false x).fVars ∧ (rdD x).fConstructors = (decD false x).fConstructors := by
  unfold rdD
  rw [if_pos h, ← okD_same h]; exact ⟨rfl, rfl, rfl⟩
theorem rdD_no {x : MSExpr} (h : okD x = false) : rdD x = ⟨[], [], []⟩ := by
  unfold rdD
  rw [if_neg (by rw [h]; decide)]
theorem rdD_yes {x : MSExpr} (h : okD x = true) : rdD x = decD true x := if_pos h
theorem okD_ne {x : MSExpr} (h : x.fList.length = 0) : okD x = false := dec_false fun h1 => by omega
theorem tup_nilD (ok : Bool) : Less (.tup [(true, [.d (.s []), .fsl [], .fsl []]), (false, [.d (.b ok)])]) (.tup [(true, [.d (.s []), .d (.sl []), .d (.sl [])]), (false, [.d (.b ok)])]) :=
  (CompsLe.cons (.cons (.refl _) (.cons (cell_fsl _) (.cons (cell_fsl _) .nil))) (.refl _)).less
theorem tup_nilD_l (n : Nat) (ok : Bool) : Less (.tup [(true, [.d (.s []), .fsl [], .fsl []]), (false, [.d (.b ok)])]) (.tup [(true, [.d (.s []), .d (.ol n []), .d (.ol (n + 1) [])]), (false, [.d (.b ok)])]) :=
  (CompsLe.cons (.cons (.refl _) (.cons (cell_nil_ol _) (.cons (cell_nil_ol _) .nil))) (.refl _)).less
def lc (l : List MConstructor) (n : Nat) : List (List D) := labRs (l.map MConstructor.enc) n
def cntCs (l : List MConstructor) : Nat := cntRs (l.map MConstructor.enc)
theorem labC_eq (x : MConstructor) (n : Nat) : labR x.enc n = [.s x.fName, .ol n (lt x.fFields (n + 1))] := by
  rw [MConstructor.enc_eq]; simp only [labR, labD, cntD, Nat.add_zero, lt]
theorem labW_cnt (l : List (List UInt8)) : cntRs (l.map encS) = 0 := by
  induction l with
  | nil => rfl
  | cons s l ih => rw [List.map_cons, cntRs, ih]; rfl
theorem labD_eq (x : MDataType) (n : Nat) : labR x.enc n = [.s x.fName, .ol n (x.fVars.map encS), .ol (n + 1) (lc x.fConstructors (n + 1 + 1))] := by
  rw [MDataType.enc_eq]; simp only [labR, labD, cntD, Nat.add_zero, lab_encS, labW_cnt, Nat.zero_add, lc]
theorem dle_lt (l : List MType) (n : Nat) : DLe (.ol n (lt l (n + 1))) (.sl (l.map MType.enc)) := dle_lab (.sl (l.map MType.enc)) n
theorem lc_snoc {l : List MConstructor} {i : Nat} (hi : i < l.length) (n : Nat) : lc (l.take i) n ++ [[.s l[i].fName, .ol (n + cntCs (l.take i)) (lt l[i].fFields (n + cntCs (l.take i) + 1))]] = lc (l.take (i + 1)) n := by
  rw [List.take_succ_eq_append_getElem hi]
  unfold lc cntCs
  rw [List.map_append, labRs_append]
  simp only [List.map_cons, List.map_nil, labRs, labC_eq]
end Go.Ab
namespace Go.Proofs.YtlmhknhlmicmeaaGreat
open Go Go.Ab
theorem specDecData_ok (x : MSExpr) (hsz : x.sz ≤ 1048576) : PCall Tryz.prog 14 [x.v] (.tup [(true, [.d (.s (rdD x).fName), .d (.sl ((rdD x).fVars.map encS)), .d (.sl ((rdD x).fConstructors.map MConstructor.enc))]), (false, [.d (.b (okD x))])]) := PCall.of_le fun S => by
  have h1 := sz_fList x
  have hds := decD_sz false x
  have hos := outD_sz (d := decD false x) (by omega)
  obtain ⟨l, hl⟩ : ∃ l, l = x.fList.drop 3 := ⟨_, rfl⟩
  have hll : l.length ≤ 1048576 := by rw [hl, List.length_drop]; omega
  have hlm : ∀ y ∈ l, y.sz ≤ 1048576 := fun y hy => by
    have := szX_mem (List.mem_of_mem_drop (hl ▸ hy)); omega
  obtain ⟨T, hT⟩ : ∃ T : Nat → List (List D), T = fun i => ((l.take i).map (decC false)).map MConstructor.enc := ⟨_, rfl⟩
  have hT0 : T 0 = [] := by rw [hT]; rfl
  have hTl : ∀ i, (T i).length ≤ i := fun i => by rw [hT]; simp only [List.length_map]; exact List.length_take_le _ _
  have hTs : ∀ i (hi : i < l.length), T i ++ [[.s (l[i].fList.getD 0 zeroX).fAtom, .sl (((l[i].fList.drop 1).map (decT false)).map MType.enc)]] = T (i + 1) := fun i hi => by rw [hT]; exact encC_snoc hi
  have hTe : T l.length = ((decD false x).fConstructors).map MConstructor.enc := by
    rw [hT]; simp only
    rw [List.take_length, hl]; rfl
  clear hT
  refine acall_cw (rs := [.cell 2 41, .tmp 3]) Tryz.checked.mixed Tryz.func14 Tryz.ntmps14 rfl rfl rfl rfl rfl ?_
  simp -implicitDefEqProofs (disch := omega) only [go_sem]
  refine call_w (specAt_ok x 1 (by omega) (by omega)) ?_
  simp -implicitDefEqProofs (disch := omega) only [go_sem]
  refine call_w (specAt_ok x 2 (by omega) (by omega)) ?_
  simp -implicitDefEqProofs (disch := omega) only [go_sem]
  refine call_w (specNames_ok _ (getD_sz x 2 (by omega))) ?_
  simp -implicitDefEqProofs (disch := omega) only [go_sem]
  (repeat (with_reducible refine And.intro ?_ ?_; focus first | omega | rfl | assumption | exact ⟨_, rfl, rfl⟩ | (simp; omega) | (simp; done)))
  refine call_w (specFrom_ok x 3 (by omega)) ?_
  simp -implicitDefEqProofs (disch := omega) only [go_sem]
  rw [← hl]
  refine aw_boxtok 2 2 2 _ rfl rfl ?_
  refine loop_at (ι := Nat) Tryz.checked.mixed rfl [1, 2, 4, 5, 6] (fun i => [.c (.ptr (0, 0) 0), .c (.ptr (0, 1) 0), .c (.ptr (0, 2) 0), .c (.d (.sl (l.map MSExpr.enc))), .c (.d (.i .i64 i))])
    (fun i => [.box [.d (.s x.fAtom), .d (.sl (x.fList.map MSExpr.enc))], .box [.d (.s []), .fsl [], .fsl []], .box [.d (.s (decD false x).fName), .d (.sl ((decD false x).fVars.map encS)), .tsl (0, 3) (T i)], .tok 2 (T i)] :: S)
    (fun i => i ≤ l.length) (fun i => l.length - i) 0 rfl (by rw [hT0]; rfl) (Nat.zero_le _) ?_
  intro i hi
  have hl' := hTl i
  simp -implicitDefEqProofs (disch := omega) only [go_sem]
  with_reducible refine split2 (fun hb => ?_) (fun hb => ?_) <;> have h := hb <;> (try simp only [wf_preprocess] at h) <;> simp -implicitDefEqProofs (disch := omega) only [go_sem, hb] <;> (repeat (with_reducible refine And.intro ?_ ?_; focus first | omega | rfl | assumption | exact ⟨_, rfl, rfl⟩ | (simp; omega) | (simp; done)))
  · have hi' : i < l.length := by omega
    have hm := List.getElem_mem hi'
    have hs := hTs i hi'
    have hz := hlm _ hm
    have hz1 := sz_fList l[i]
    (repeat (with_reducible refine And.intro ?_ ?_; focus first | omega | rfl | assumption | exact ⟨_, rfl, rfl⟩ | (simp; omega) | (simp; done)))
    refine call_w (specAt_ok l[i] 0 (by omega) (by omega)) ?_
    simp -implicitDefEqProofs (disch := omega) only [go_sem]
    (repeat (with_reducible refine And.intro ?_ ?_; focus first | omega | rfl | assumption | exact ⟨_, rfl, rfl⟩ | (simp; omega) | (simp; done)))
    refine call_w (specFrom_ok l[i] 1 (by omega)) ?_
    simp -implicitDefEqProofs (disch := omega) only [go_sem]
    refine call_w (specDecTys_ok (l[i].fList.drop 1) (by rw [List.length_drop]; omega) (fun t ht => by have := szX_mem (List.mem_of_mem_drop ht); omega)) ?_
    simp -implicitDefEqProofs (disch := omega) only [go_sem]
    (repeat (with_reducible refine And.intro ?_ ?_; focus first | omega | rfl | assumption | exact ⟨_, rfl, rfl⟩ | (simp; omega) | (simp; done)))
    rw [hs]
    exact inv_drop 4 (by decide) (i + 1) (by omega) rfl rfl rfl rfl (by omega)
  · have hi' : i = l.length := by omega
    subst hi'
    rw [hTe]
    clear hTs
    refine call_w (specValidX_ok x (by omega)) ?_
    simp -implicitDefEqProofs (disch := omega) only [go_sem]
    have leafN : okD x = false → Less (.tup [(true, [.d (.s []), .fsl [], .fsl []]), (false, [.d (.b false)])]) (.tup [(true, [.d (.s (rdD x).fName), .d (.sl ((rdD x).fVars.map encS)), .d (.sl ((rdD x).fConstructors.map MConstructor.enc))]), (false, [.d (.b (okD x))])]) := fun e => by
      rw [rdD_no e, e]; exact tup_nilD false
    with_reducible refine split2 (fun hb => ?_) (fun hb => ?_) <;> have h := hb <;> (try simp only [wf_preprocess] at h) <;> simp -implicitDefEqProofs (disch := omega) only [go_sem, hb] <;> (repeat (with_reducible refine And.intro ?_ ?_; focus first | omega | rfl | assumption | exact ⟨_, rfl, rfl⟩ | (simp; omega) | (simp; done)))
    · exact leafN (dec_false fun e => by rw [e.1] at h; cases h)
    have hv := h
    with_reducible refine split2 (fun hb => ?_) (fun hb => ?_) <;> have h := hb <;> (try simp only [wf_preprocess] at h) <;> simp -implicitDefEqProofs (disch := omega) only [go_sem, hb] <;> (repeat (with_reducible refine And.intro ?_ ?_; focus first | omega | rfl | assumption | exact ⟨_, rfl, rfl⟩ | (simp; omega) | (simp; done)))
    · exact leafN (okD_ne (by omega))
    have hne : x.fList ≠ [] := fun e => by rw [e] at h; exact h rfl
    have hok := okD_spec hne
    rw [hv, Bool.true_and] at hok
    (repeat (with_reducible refine And.intro ?_ ?_; focus first | omega | rfl | assumption | exact ⟨_, rfl, rfl⟩ | (simp; omega) | (simp; done)))
    refine call_w (specData_ok (decD false x) (by omega)) ?_
    simp -implicitDefEqProofs (disch := omega) only [go_sem]
    refine call_w (specEqualSExpr_ok (outD (decD false x)) x (by omega)) ?_
    simp -implicitDefEqProofs (disch := omega) only [go_sem]
    with_reducible refine split2 (fun hb => ?_) (fun hb => ?_) <;> have h := hb <;> (try simp only [wf_preprocess] at h) <;> simp -implicitDefEqProofs (disch := omega) only [go_sem, hb] <;> (repeat (with_reducible refine And.intro ?_ ?_; focus first | omega | rfl | assumption | exact ⟨_, rfl, rfl⟩ | (simp; omega) | (simp; done)))
    · exact leafN (by rw [hok]; exact dec_false h)
    · have hy : okD x = true := by rw [hok]; exact dec_true h
      obtain ⟨e1, e2, e3⟩ := rdD_enc hy
      rw [e1, e2, e3, hy]
      exact less_refl _
theorem hasForm_ok (x : MSExpr) (s : List UInt8) (k : Nat) (hk : 1 ≤ k) (hk2 : k ≤ 100) (hsz : x.sz ≤ 4194304) : PCall Tryz.prog 43 [x.v, .c (.d (.s s)), .c (.d (.i .i64 k))] (.c (.d (.b (dec (validX x = true ∧ k ≤ x.fList.length ∧ atA x.fList 0 = s))))) := fun S => by
  have h1 := sz_fList x
  obtain ⟨t, ht⟩ : ∃ t, t = dec (validX x = true ∧ k ≤ x.fList.length ∧ atA x.fList 0 = s) := ⟨_, rfl⟩
  rw [← ht]
  refine acall_cw (rs := [.tmp 6]) Tryz.checked.mixed Tryz.func43 Tryz.ntmps43 rfl rfl rfl rfl rfl ?_
  simp -implicitDefEqProofs (disch := omega) only [go_sem]
  refine call_w (implValidX_ok x (by omega)) ?_
  simp -implicitDefEqProofs (disch := omega) only [go_sem]
  with_reducible refine split2 (fun hb => ?_) (fun hb => ?_) <;> have h := hb <;> (try simp only [wf_preprocess] at h) <;> simp -implicitDefEqProofs (disch := omega) only [go_sem, hb] <;> (repeat (with_reducible refine And.intro ?_ ?_; focus first | omega | rfl | assumption | exact ⟨_, rfl, rfl⟩ | (simp; omega) | (simp; done)))
  · have hv := h
    with_reducible refine split2 (fun hb => ?_) (fun hb => ?_) <;> have h := hb <;> (try simp only [wf_preprocess] at h) <;> simp -implicitDefEqProofs (disch := omega) only [go_sem, hb] <;> (repeat (with_reducible refine And.intro ?_ ?_; focus first | omega | rfl | assumption | exact ⟨_, rfl, rfl⟩ | (simp; omega) | (simp; done)))
    · have hl : 0 < x.fList.length := by omega
      have hl2 : k ≤ x.fList.length := by omega
      have a0 := atA_get hl
      (repeat (with_reducible refine And.intro ?_ ?_; focus first | omega | rfl | assumption | exact ⟨_, rfl, rfl⟩ | (simp; omega) | (simp; done)))
      refine bool_eq ?_
      rw [decide_dec, ht]
      exact dec_congr ⟨fun e => ⟨hv, hl2, by rw [a0]; exact e⟩, fun e => by rw [← a0]; exact e.2.2⟩
    · exact bool_eq (ht.trans (dec_false fun e => by omega)).symm
  · exact bool_eq (ht.trans (dec_false fun e => by rw [e.1] at h; cases h)).symm
theorem implDecData_lab (x : MSExpr) (n : Nat) (hsz : x.sz ≤ 1048576) : PCall Tryz.prog 16 [x.v] (.tup [(true, [.d (.s (rdD x).fName), .d (.ol n ((rdD x).fVars.map encS)), .d (.ol (n + 1) (lc (rdD x).fConstructors (n + 1 + 1)))]), (false, [.d (.b (okD x))])]) := PCall.of_le fun S => by
  have h1 := sz_fList x
  have hds := decD_sz true x
  obtain ⟨l, hl⟩ : ∃ l, l = x.fList.drop 3 := ⟨_, rfl⟩
  have hll : l.length ≤ 1048576 := by rw [hl, List.length_drop]; omega
  have hlm : ∀ y ∈ l, y.sz ≤ 1048576 := fun y hy => by
    have := szX_mem (List.mem_of_mem_drop (hl ▸ hy)); omega
  have leafN : okD x = false → Less (.tup [(true, [.d (.s []), .fsl [], .fsl []]), (false, [.d (.b false)])]) (.tup [(true, [.d (.s (rdD x).fName), .d (.ol n ((rdD x).fVars.map encS)), .d (.ol (n + 1) (lc (rdD x).fConstructors (n + 1 + 1)))]), (false, [.d (.b (okD x))])]) := fun e => by
    rw [rdD_no e, e]; exact tup_nilD_l n false
  refine acall_cwL (n) (rs := [.cell 2 41, .tmp 3]) Tryz.checked.mixed Tryz.func16 Tryz.ntmps16 rfl rfl rfl rfl rfl ?_
  simp -implicitDefEqProofs (disch := omega) only [go_sem]
  refine call_w (hasForm_ok x wData 3 (by omega) (by omega) (by omega)) ?_
  simp -implicitDefEqProofs (disch := omega) only [go_sem]
  with_reducible refine split2 (fun hb => ?_) (fun hb => ?_) <;> have h := hb <;> (try simp only [wf_preprocess] at h) <;> simp -implicitDefEqProofs (disch := omega) only [go_sem, hb] <;> (repeat (with_reducible refine And.intro ?_ ?_; focus first | omega | rfl | assumption | exact ⟨_, rfl, rfl⟩ | (simp; omega) | (simp; done)))
  · exact leafN (dec_false fun e => h ⟨e.1, e.2.1, e.2.2.1⟩)
  have hf := h
  have hlen : 3 ≤ x.fList.length := hf.2.1
  have hr := enc_rows (l := x.fList)
  have a1 := atA_get (l := x.fList) (i := 1) (by omega)
  have g2 : (x.fList.getD 2 zeroX) = x.fList[2] := by rw [List.getD_eq_getElem?_getD, List.getElem?_eq_getElem (by omega)]; rfl
  have z2 := getD_sz x 2 hsz
  rw [g2] at z2
  have hvars : (decD true x).fVars = namesX x.fList[2].fList := by rw [← g2]; rfl
  have hname : (decD true x).fName = x.fList[1].fAtom := a1
  have hvx := validX_sz hf.1
  have hsl := sxD_le (decD true x)
  obtain ⟨L, hL⟩ : ∃ L : Nat → Nat, L = fun i => n + 1 + 1 + cntCs ((l.map (decC true)).take i) := ⟨_, rfl⟩
  obtain ⟨T, hT⟩ : ∃ T : Nat → List (List D), T = fun i => lc ((l.map (decC true)).take i) (n + 1 + 1) := ⟨_, rfl⟩
  obtain ⟨P, hP⟩ : ∃ P : Nat → List (List D), P = fun i => ((l.take i).map (decC true)).map MConstructor.enc := ⟨_, rfl⟩
  have hT0 : T 0 = [] := by rw [hT]; rfl
  have hP0 : P 0 = [] := by rw [hP]; rfl
  have hPl : ∀ i, (P i).length ≤ i := fun i => by rw [hP]; simp only [List.length_map]; exact List.length_take_le _ _
  have hPr : ∀ i, ∀ r ∈ P i, r.length = 2 := fun i => by
    rw [hP]; intro r hr
    obtain ⟨z, _, rfl⟩ := List.mem_map.1 hr
    exact z.enc_length
  have hTs : ∀ i (hi : i < l.length), T i ++ [[.s (decC true l[i]).fName, .ol (L i) (lt (decC true l[i]).fFields (L i + 1))]] = T (i + 1) := fun i hi => by
    have := lc_snoc (l := l.map (decC true)) (i := i) (by rw [List.length_map]; exact hi) (n + 1 + 1)
    rw [List.getElem_map] at this
    rw [hT, hL]; exact this
  have hPs : ∀ i (hi : i < l.length), P i ++ [[.s (l[i].fList.getD 0 zeroX).fAtom, .sl (((l[i].fList.drop 1).map (decT true)).map MType.enc)]] = P (i + 1) := fun i hi => by rw [hP]; exact encC_snoc hi
  have hTe : T l.length = lc (decD true x).fConstructors (n + 1 + 1) := by
    rw [hT]; simp only
    rw [List.take_of_length_le (by simp), hl]; rfl
  have hPe : P l.length = (decD true x).fConstructors.map MConstructor.enc := by
    rw [hP]; simp only
    rw [List.take_length, hl]; rfl
  clear hT hP hL
  refine call_w (implNames_lab x.fList[2] (by omega) n) ?_
  simp -implicitDefEqProofs (disch := omega) only [go_sem]
  refine ⟨⟨by omega, by omega, hr⟩, ?_⟩
  rw [encX_drop _ _ _ (Nat.le_refl _), ← hl, ← hvars, ← hname]
  simp -implicitDefEqProofs (disch := omega) only [go_sem]
  refine aw_boxltok (n + 1) 3 2 2 _ rfl rfl ?_
  refine loop_at (ι := Nat × List (List D)) Tryz.checked.mixed rfl [1, 2, 4, 25, 26, 27] (fun y => [.c (.ptr (0, 1) 0), .c (.ptr (0, 2) 0), .c (.ptr (0, 3) 0), .c (.d (.sl (l.map MSExpr.enc))), .c (.d (.i .i64 l.length)), .c (.d (.i .i64 y.1))])
    (fun y => [.seed n, .box [.d (.s x.fAtom), .d (.sl (x.fList.map MSExpr.enc))], .box [.d (.s []), .fsl [], .fsl []], .box [.d (.s (decD true x).fName), .d (.ol n ((decD true x).fVars.map encS)), .tsl (0, 4) y.2], .ltok (n + 1) 2 y.2] :: S)
    (fun y => y.1 ≤ l.length ∧ RowsLe y.2 (P y.1) ∧ ((∀ j, ∀ hj : j < l.length, j < y.1 → l[j].fList ≠ []) → y.2 = T y.1)) (fun y => l.length - y.1) (0, []) rfl rfl ⟨Nat.zero_le _, by rw [hP0]; exact .nil, fun _ => hT0.symm⟩ ?_
  rintro ⟨i, U⟩ ⟨p1, p2, p3⟩
  simp only at p1 p2 p3
  have hU1 := p2.length
  have hU2 := hPl i
  have hU3 := p2.rows (hPr i)
  simp -implicitDefEqProofs (disch := omega) only [go_sem]
  with_reducible refine split2 (fun hb => ?_) (fun hb => ?_) <;> have h := hb <;> (try simp only [wf_preprocess] at h) <;> simp -implicitDefEqProofs (disch := omega) only [go_sem, hb] <;> (repeat (with_reducible refine And.intro ?_ ?_; focus first | omega | rfl | assumption | exact ⟨_, rfl, rfl⟩ | (simp; omega) | (simp; done)))
  · have hi' : i < l.length := by omega
    have hm := List.getElem_mem hi'
    have hs := hTs i hi'
    have hps := hPs i hi'
    have hz := hlm _ hm
    have hz1 := sz_fList l[i]
    have hry := enc_rows (l := l[i].fList)
    (repeat (with_reducible refine And.intro ?_ ?_; focus first | omega | rfl | assumption | exact ⟨_, rfl, rfl⟩ | (simp; omega) | (simp; done)))
    with_reducible refine split2 (fun hb => ?_) (fun hb => ?_) <;> have h := hb <;> (try simp only [wf_preprocess] at h) <;> simp -implicitDefEqProofs (disch := omega) only [go_sem, hb] <;> (repeat (with_reducible refine And.intro ?_ ?_; focus first | omega | rfl | assumption | exact ⟨_, rfl, rfl⟩ | (simp; omega) | (simp; done)))
    · have hpos : 0 < l[i].fList.length := by omega
      (repeat (with_reducible refine And.intro ?_ ?_; focus first | omega | rfl | assumption | exact ⟨_, rfl, rfl⟩ | (simp; omega) | (simp; done)))
      refine ⟨⟨by omega, by omega, hry⟩, ?_⟩
      rw [encX_drop _ _ _ (Nat.le_refl _)]
      refine call_w (implDecTys_lab (l[i].fList.drop 1) (L i) (L i + 1) (by rw [List.length_drop]; omega) (fun t ht => by have := szX_mem (List.mem_of_mem_drop ht); omega)) ?_
      simp -implicitDefEqProofs (disch := omega) only [go_sem]
      (repeat (with_reducible refine And.intro ?_ ?_; focus first | omega | rfl | assumption | exact ⟨_, rfl, rfl⟩ | (simp; omega) | (simp; done)))
      have g0 : l[i].fList.getD 0 zeroX = l[i].fList[0] := by rw [List.getD_eq_getElem?_getD, List.getElem?_eq_getElem hpos]; rfl
      rw [g0] at hps
      have hcn : (decC true l[i]).fName = l[i].fList[0].fAtom := atA_get hpos
      rw [hcn] at hs
      refine inv_drop 5 (by decide) (i + 1, _) (by simp only; omega) rfl rfl rfl rfl ⟨by simp only; omega, ?_, fun hg => ?_⟩
      · simp only
        rw [← hps]
        exact p2.snoc (.cons (.refl _) (.cons (dle_lt _ _) .nil))
      · simp only
        rw [p3 fun j hj hji => hg j hj (by simp only; omega), ← hs]
        rfl
    · have hnil : l[i].fList = [] := List.eq_nil_of_length_eq_zero (by omega)
      have g0 : l[i].fList.getD 0 zeroX = zeroX := by rw [hnil]; rfl
      rw [g0, hnil] at hps
      refine inv_drop 5 (by decide) (i + 1, _) (by simp only; omega) rfl rfl rfl rfl ⟨by simp only; omega, ?_, fun hg => ?_⟩
      · simp only
        rw [← hps]
        exact p2.snoc (.refl _)
      · exact absurd hnil (hg i hi' (by simp only; omega))
  · have hi' : i = l.length := by omega
    subst hi'
    clear hTs hPs
    rw [hPe] at p2
    refine call_l (implValidData_ok (decD true x) (by omega)) (.cons (CellsLe.less (.cons (.refl _) (.cons (cell_ol _ _) (.cons (cell_sl_le p2) .nil)))) .nil) ?_
    simp -implicitDefEqProofs (disch := omega) only [go_sem]
    with_reducible refine split2 (fun hb => ?_) (fun hb => ?_) <;> have h := hb <;> (try simp only [wf_preprocess] at h) <;> simp -implicitDefEqProofs (disch := omega) only [go_sem, hb] <;> (repeat (with_reducible refine And.intro ?_ ?_; focus first | omega | rfl | assumption | exact ⟨_, rfl, rfl⟩ | (simp; omega) | (simp; done)))
    · exact leafN (dec_false fun e => by rw [e.2.2.2.1] at h; cases h)
    have hv := h
    (repeat (with_reducible refine And.intro ?_ ?_; focus first | omega | rfl | assumption | exact ⟨_, rfl, rfl⟩ | (simp; omega) | (simp; done)))
    refine call_l (PCall.less (implEncData_lab (decD true x) 0 hv (by omega)) (less_lx (sxD (decD true x)) 0)) (.cons (CellsLe.less (.cons (.refl _) (.cons (cell_ol _ _) (.cons (cell_sl_le p2) .nil)))) .nil) ?_
    simp -implicitDefEqProofs (disch := omega) only [go_sem]
    refine call_w (implEqualSExpr_ok (sxD (decD true x)) x (by omega)) ?_
    simp -implicitDefEqProofs (disch := omega) only [go_sem]
    with_reducible refine split2 (fun hb => ?_) (fun hb => ?_) <;> have h := hb <;> (try simp only [wf_preprocess] at h) <;> simp -implicitDefEqProofs (disch := omega) only [go_sem, hb] <;> (repeat (with_reducible refine And.intro ?_ ?_; focus first | omega | rfl | assumption | exact ⟨_, rfl, rfl⟩ | (simp; omega) | (simp; done)))
    · exact leafN (dec_false fun e => h e.2.2.2.2)
    · have hy : okD x = true := dec_true ⟨hf.1, hf.2.1, hf.2.2, hv, h⟩
      have hgood : U = T l.length := p3 fun j hj _ e => by
        have h3 := congrArg (fun z => z.fList.drop 3) h
        simp only [← hl] at h3
        have h4 : (sxD (decD true x)).fList.drop 3 = (decD true x).fConstructors.map sxC := rfl
        rw [h4] at h3
        have h5 : l[j] = sxC ((decD true x).fConstructors[j]'(by have := congrArg List.length h3; rw [List.length_map] at this; omega)) := by
          simp only [← h3, List.getElem_map]
        rw [h5] at e
        simp [sxC, fList_list] at e
      rw [hgood, hTe, rdD_yes hy, hy]
      exact less_refl _
theorem implDecData_labR (x : MSExpr) (n : Nat) (hsz : x.sz ≤ 1048576) : PCall Tryz.prog 16 [x.v] (.tup [(true, (labR (rdD x).enc n).map .d), (false, [.d (.b (okD x))])]) := by
  rw [labD_eq]; exact implDecData_lab x n hsz
end Go.Proofs.YtlmhknhlmicmeaaGreat

namespace Go.Proofs.YtlmhknhlmicmeaaGreat
open Go Go.Ab
end Go.Proofs.YtlmhknhlmicmeaaGreat

namespace Go.Proofs.YtlmhknhlmicmeaaGreat
open Go Go.Ab
end Go.Proofs.YtlmhknhlmicmeaaGreat

namespace Go.Proofs.YtlmhknhlmicmeaaGreat
open Go Go.Ab
end Go.Proofs.YtlmhknhlmicmeaaGreat

namespace Go.Proofs.YtlmhknhlmicmeaaGreat
open Go Go.Ab
end Go.Proofs.YtlmhknhlmicmeaaGreat

namespace Go.Proofs.YtlmhknhlmicmeaaGreat
open Go Go.Ab
end Go.Proofs.YtlmhknhlmicmeaaGreat

namespace Go.Proofs.YtlmhknhlmicmeaaGreat
open Go Go.Ab
end Go.Proofs.YtlmhknhlmicmeaaGreat

namespace Go.Proofs.YtlmhknhlmicmeaaGreat
open Go Go.Ab
theorem toSExpr_labs : ∀ N : Nat, (∀ x : MSExpr, SizeOf.sizeOf x < N → ∀ n : Nat, x.sz ≤ 1048576 → PCall Tryz.prog 15 [x.v] (.agg ((labR x.enc n).map .d))) ∧
    (∀ xs : List MSExpr, SizeOf.sizeOf xs < N → ∀ n : Nat, xs.length + szRows (xs.map MSExpr.enc) ≤ 1048576 → PCall Tryz.prog 42 [.c (.d (.sl (xs.map MSExpr.enc)))] (.c (.d (labD (.sl (xs.map MSExpr.enc)) n))))
  | 0 => ⟨fun x h => by omega, fun x h => by omega⟩
  | N + 1 => by
    obtain ⟨ihSExpr, ihSSExpr⟩ := toSExpr_labs N
    refine ⟨fun x hn n hsz => ?_, fun xs hn n hsz => ?_⟩
    · intro S
      have lList := MSExpr.lt_List x
      simp only [MSExpr.sz, MSExpr.enc_eq, szRow, szRow_append, D.sz, List.length_map] at hsz
      refine acall_cw (rs := [.cell 2 46]) Tryz.checked.mixed Tryz.func15 Tryz.ntmps15 rfl rfl rfl rfl rfl ?_
      simp only [MSExpr.enc_eq, encS, encI, List.cons_append, List.nil_append, labR, labD, cntR, cntD, List.map_cons, List.map_nil, Nat.add_zero]
      simp -implicitDefEqProofs (disch := omega) only [go_sem]
      refine call_w (ihSSExpr x.fList (by omega) (n) (by omega)) ?_
      simp -implicitDefEqProofs (disch := omega) only [go_sem, labD]
      all_goals (first | rfl | (simp only [Nat.add_assoc]; done))
    · obtain ⟨T, hT⟩ : ∃ T, T = labRs (xs.map MSExpr.enc) (n + 1) := ⟨_, rfl⟩
      have hTl : T.length = xs.length := by rw [hT, labRs_length, List.length_map]
      show PCall Tryz.prog 42 [.c (.d (.sl (xs.map MSExpr.enc)))] (.c (.d (.ol n (labRs (xs.map MSExpr.enc) (n + 1))))) 
      rw [← hT]
      intro S
      refine acall_cwL (n) (rs := [.tmp 2]) Tryz.checked.mixed Tryz.func42 Tryz.ntmps42 rfl rfl rfl rfl rfl ?_
      simp -implicitDefEqProofs (disch := omega) only [go_sem]
      (repeat (with_reducible refine And.intro ?_ ?_; focus first | omega | rfl | assumption | exact ⟨_, rfl, rfl⟩ | (simp; omega) | (simp; done)))
      refine loop_at (ι := Nat × List (List D)) Tryz.checked.mixed rfl [0, 3, 4] (fun y => [.c (.d (.sl (xs.map MSExpr.enc))), .c (.msl (0, 1)), .c (.d (.i .i64 y.1))]) (fun y => [.seed n, .mrow 2 y.2] :: S)
        (fun y => y.1 ≤ xs.length ∧ Filled 2 y.1 y.2 T) (fun y => xs.length - y.1) (0, _) rfl rfl ⟨Nat.zero_le _, Filled.start (by simp [hTl]) rfl⟩ ?_
      rintro ⟨i, R⟩ ⟨p1, p2⟩
      simp only at p1 p2
      simp -implicitDefEqProofs (disch := omega) only [go_sem]
      with_reducible refine split2 (fun hb => ?_) (fun hb => ?_) <;> have h := hb <;> (try simp only [wf_preprocess] at h) <;> simp -implicitDefEqProofs (disch := omega) only [go_sem, hb] <;> (repeat (with_reducible refine And.intro ?_ ?_; focus first | omega | rfl | assumption | exact ⟨_, rfl, rfl⟩ | (simp; omega) | (simp; done)))
      · have hi : i < xs.length := by omega
        have hir : i < (xs.map MSExpr.enc).length := by rw [List.length_map]; exact hi
        have hR := p2.1
        rw [hTl] at hR
        have hTi : T[i]? = some (labR (MSExpr.enc xs[i]) (n + 1 + cntRs ((xs.map MSExpr.enc).take i))) := by
          rw [hT, labRs_at hir, List.getElem_map]
        have hx : xs[i].sz ≤ szRows (xs.map MSExpr.enc) := szRows_mem (List.mem_map_of_mem (List.getElem_mem hi))
        (repeat (with_reducible refine And.intro ?_ ?_; focus first | omega | rfl | assumption | exact ⟨_, rfl, rfl⟩ | (simp; omega) | (simp; done)))
        refine call_w (ihSExpr xs[i] (by have := List.sizeOf_lt_of_mem (List.getElem_mem hi); omega) (n + 1 + cntRs ((xs.map MSExpr.enc).take i)) (by omega)) ?_
        obtain ⟨row, hrow⟩ : ∃ row, row = labR (MSExpr.enc xs[i]) (n + 1 + cntRs ((xs.map MSExpr.enc).take i)) := ⟨_, rfl⟩
        have hrl : row.length = 2 := by rw [hrow, labR_length, MSExpr.enc_length]
        rw [← hrow] at hTi ⊢
        simp -implicitDefEqProofs (disch := omega) only [go_sem, hrl, mapM_toD]
        (repeat (with_reducible refine And.intro ?_ ?_; focus first | omega | rfl | assumption | exact ⟨_, rfl, rfl⟩ | (simp; omega) | (simp; done)))
        refine inv_at (i + 1, _) (by simp only; omega) rfl rfl ⟨by simp only; omega, p2.step hTi hrl⟩
      · have hi : i = xs.length := by omega
        rw [p2.done (by omega)]
theorem toSExpr_lab (x : MSExpr) : ∀ n : Nat, x.sz ≤ 1048576 → PCall Tryz.prog 15 [x.v] (.agg ((labR x.enc n).map .d)) := (toSExpr_labs _).1 x (Nat.lt_succ_self _)
end Go.Proofs.YtlmhknhlmicmeaaGreat

namespace Go.Proofs.YtlmhknhlmicmeaaGreat
open Go Go.Ab
theorem markStringS_ok (xs : List (List UInt8)) : ∀ (k : Int) (l j r : Nat) (p : List (Nat × Nat)) (S : Store) (rs : List (List (List D))), getO S (l, j) = some (.xf rs) → atR rs r p = some (xs.map encS) → 0 ≤ k ∧ k + mcRs (xs.map encS) ≤ 4611686018427387904 → ACall Tryz.prog 53 [.c (.xp (l, j) r p), .c (.d (.i .i64 k))] S (fun res S' => res = .c (.d (.i .i64 (k + mcRs (xs.map encS)))) ∧ S' = setO S (l, j) (.xf (updR rs r p (mkRs (xs.map encS) k)))) := by
  intro k l j r p S rs hS hp hk
  have hlen := len_mc (f := encS) (fun x => by simp only [encS, List.cons_append, List.nil_append, mcR, mcD]; omega) xs
  obtain ⟨rows, hr⟩ : ∃ rows, rows = xs.map encS := ⟨_, rfl⟩
  have hl : rows.length = xs.length := by rw [hr, List.length_map]
  rw [← hr] at hp hk hlen ⊢
  have ht : ∀ x : Ab.Obj, getO (setO S (l, j) x) (l, j) = some x := fun x => getO_setO_eq _ _ _ _ hS
  have hA : ∀ new, atR (updR rs r p new) r p = some new := fun new => atR_updR hp
  have hU : ∀ a b, updR (updR rs r p a) r p b = updR rs r p b := fun a b => updR_updR hp
  refine acall_cw (rs := [.tmp 4]) Tryz.checked.mixed Tryz.func53 Tryz.ntmps53 rfl rfl rfl rfl rfl ?_
  simp -implicitDefEqProofs (disch := omega) only [go_sem]
  refine loop_at (ι := Nat) Tryz.checked.mixed rfl [0, 1, 5] (fun i => [.c (.xp (1 + l, j) r p), .c (.d (.i .i64 (k + mcRs (rows.take i)))), .c (.d (.i .i64 i))])
    (fun i => [] :: setO S (l, j) (.xf (updR rs r p (mkTo rows k i)))) (fun i => i ≤ xs.length) (fun i => xs.length - i) 0 ?_ ?_ (Nat.zero_le _) ?_
  · have z0 : k + ((mcRs (rows.take 0) : Nat) : Int) = k := by simp [mcRs]
    rw [z0]
    rfl
  · rw [mkTo_zero, updR_same hp, setO_self _ _ hS]
  intro i hi
  simp -implicitDefEqProofs (disch := omega) only [go_sem, ht, hA, mkTo_length, hl]
  with_reducible refine split2 (fun hb => ?_) (fun hb => ?_) <;> have h := hb <;> try simp only [wf_preprocess] at h
  · have hi : i < xs.length := by omega
    have hir : i < rows.length := by omega
    obtain ⟨x, hx⟩ : ∃ x, x = xs[i] := ⟨_, rfl⟩
    have e1 : rows[i] = [.s x] := by
      simp only [hr, List.getElem_map, ← hx]
      simp only [encS, List.cons_append, List.nil_append]
    have hm := mcRs_take hir
    have hle := mcRs_le (rows := rows) (i := i + 1)
    rw [hm, e1] at hle
    rw [e1] at hm
    simp only [mcR, mcD] at hle hm
    have hK : k + ((mcRs (rows.take (i + 1)) : Nat) : Int) = k + ((mcRs (rows.take i) : Nat) : Int) + 1 := by rw [hm]; omega
    have e2 := mkTo_at (k := k) hir
    rw [e1] at e2
    have hC : ∀ row o, cellAt (mkAt rows k i row) i o = row[o]? := fun row o => mkAt_cell hir
    have hG : ∀ row, (mkAt rows k i row).getD i [] = row := fun row => mkAt_get hir
    simp -implicitDefEqProofs (disch := omega) only [go_sem, hb, ht, hA, hU, e2, hC, hG, mkAt_set, mkAt_length, hl, setO_twice, isSD]
    (repeat (with_reducible refine And.intro ?_ ?_; focus first | omega | rfl | assumption | exact ⟨_, rfl, rfl⟩ | (simp; omega) | (simp; done)))
    refine call_w (markText_ok (k + ((mcRs (rows.take i) : Nat) : Int)) (by omega)) ?_
    simp -implicitDefEqProofs (disch := omega) only [go_sem, hb, ht, hA, hU, e2, hC, hG, mkAt_set, mkAt_length, hl, setO_twice, isSD]
    (repeat (with_reducible refine And.intro ?_ ?_; focus first | omega | rfl | assumption | exact ⟨_, rfl, rfl⟩ | (simp; omega) | (simp; done)))
    refine inv_at (i + 1) (by omega) (by rw [hK]; rfl) ?_ (by omega)
    have h3 := mkAt_to (k := k) hir
    rw [e1] at h3
    simp only [mkR, mkD] at h3
    rw [← h3]
    all_goals rfl
  · simp -implicitDefEqProofs (disch := omega) only [go_sem, hb]
    have hi : i = xs.length := by omega
    rw [mkTo_all (by omega), List.take_of_length_le (by omega)]
    all_goals (first | rfl | exact ⟨rfl, rfl⟩)
theorem heldStringS_ok (xs : List (List UInt8)) : ∀ (k : Int) (l j r : Nat) (p : List (Nat × Nat)) (S : Store) (rs : List (List (List D))), getO S (l, j) = some (.xf rs) → atR rs r p = some (mkRs (xs.map encS) k) → 0 ≤ k ∧ k + mcRs (xs.map encS) ≤ 4611686018427387904 → ACall Tryz.prog 55 [.c (.xp (l, j) r p), .c (.d (.i .i64 k))] S (fun res S' => res = .c (.d (.i .i64 (k + mcRs (xs.map encS)))) ∧ S' = S) := by
  intro k l j r p S rs hS hp hk
  have hlen := len_mc (f := encS) (fun x => by simp only [encS, List.cons_append, List.nil_append, mcR, mcD]; omega) xs
  obtain ⟨rows, hr⟩ : ∃ rows, rows = xs.map encS := ⟨_, rfl⟩
  have hl : rows.length = xs.length := by rw [hr, List.length_map]
  rw [← hr] at hp hk hlen ⊢
  refine acall_cw (rs := [.tmp 4]) Tryz.checked.mixed Tryz.func55 Tryz.ntmps55 rfl rfl rfl rfl rfl ?_
  simp -implicitDefEqProofs (disch := omega) only [go_sem]
  refine loop_at (ι := Nat) Tryz.checked.mixed rfl [0, 1, 5] (fun i => [.c (.xp (1 + l, j) r p), .c (.d (.i .i64 (k + mcRs (rows.take i)))), .c (.d (.i .i64 i))])
    (fun i => [] :: S) (fun i => i ≤ xs.length) (fun i => xs.length - i) 0 ?_ rfl (Nat.zero_le _) ?_
  · have z0 : k + ((mcRs (rows.take 0) : Nat) : Int) = k := by simp [mcRs]
    rw [z0]
    rfl
  intro i hi
  simp -implicitDefEqProofs (disch := omega) only [go_sem, hS, hp, mkRs_length, hl]
  with_reducible refine split2 (fun hb => ?_) (fun hb => ?_) <;> have h := hb <;> try simp only [wf_preprocess] at h
  · have hi : i < xs.length := by omega
    have hir : i < rows.length := by omega
    obtain ⟨x, hx⟩ : ∃ x, x = xs[i] := ⟨_, rfl⟩
    have e1 : rows[i] = [.s x] := by
      simp only [hr, List.getElem_map, ← hx]
      simp only [encS, List.cons_append, List.nil_append]
    have hm := mcRs_take hir
    have hle := mcRs_le (rows := rows) (i := i + 1)
    rw [hm, e1] at hle
    rw [e1] at hm
    simp only [mcR, mcD] at hle hm
    have hK : k + ((mcRs (rows.take (i + 1)) : Nat) : Int) = k + ((mcRs (rows.take i) : Nat) : Int) + 1 := by rw [hm]; omega
    have e2 : mkR rows[i] (k + ((mcRs (rows.take i) : Nat) : Int)) = [.s (mtext (k + ((mcRs (rows.take i) : Nat) : Int)))] := by
      rw [e1]
      simp only [mkR, mkD]
      all_goals rfl
    have hC : ∀ o, cellAt (mkRs rows k) i o = ([.s (mtext (k + ((mcRs (rows.take i) : Nat) : Int)))] : List D)[o]? := fun o => by
      have h1 : (mkRs rows k)[i]? = some (mkR rows[i] (k + ((mcRs (rows.take i) : Nat) : Int))) := by
        have h2 := mkRs_get (k := k) hir
        have h3 : i < (mkRs rows k).length := by rw [mkRs_length]; exact hir
        rw [List.getD_eq_getElem?_getD, List.getElem?_eq_getElem h3, Option.getD_some] at h2
        rw [List.getElem?_eq_getElem h3, h2]
      unfold cellAt
      rw [h1, Option.bind_some, e2]
    have hG := mkRs_get (k := k) hir
    rw [e2] at hG
    simp -implicitDefEqProofs (disch := omega) only [go_sem, hb, hS, hp, hC, hG, mkRs_length, hl, isSD]
    (repeat (with_reducible refine And.intro ?_ ?_; focus first | omega | rfl | assumption | exact ⟨_, rfl, rfl⟩ | (simp; omega) | (simp; done)))
    refine call_w (markText_ok (k + ((mcRs (rows.take i) : Nat) : Int)) (by omega)) ?_
    simp -implicitDefEqProofs (disch := omega) only [go_sem, hb, hS, hp, hC, hG, mkRs_length, hl, isSD]
    (repeat (with_reducible refine And.intro ?_ ?_; focus first | omega | rfl | assumption | exact ⟨_, rfl, rfl⟩ | (simp; omega) | (simp; done)))
    refine inv_at (i + 1) (by omega) (by rw [hK]; rfl) rfl (by omega)
  · simp -implicitDefEqProofs (disch := omega) only [go_sem, hb]
    have hi : i = xs.length := by omega
    rw [List.take_of_length_le (by omega)]
    all_goals (first | rfl | exact ⟨rfl, rfl⟩)
end Go.Proofs.YtlmhknhlmicmeaaGreat

namespace Go.Proofs.YtlmhknhlmicmeaaGreat
open Go Go.Ab
end Go.Proofs.YtlmhknhlmicmeaaGreat

namespace Go.Proofs.YtlmhknhlmicmeaaGreat
open Go Go.Ab
theorem markType_all : ∀ n : Nat, (∀ xs : List MType, SizeOf.sizeOf xs < n → ∀ (k : Int) (l j r : Nat) (p : List (Nat × Nat)) (S : Store) (rs : List (List (List D))), getO S (l, j) = some (.xf rs) → atR rs r p = some (xs.map MType.enc) → 0 ≤ k ∧ k + mcRs (xs.map MType.enc) ≤ 4611686018427387904 → ACall Tryz.prog 103 [.c (.xp (l, j) r p), .c (.d (.i .i64 k))] S (fun res S' => res = .c (.d (.i .i64 (k + mcRs (xs.map MType.enc)))) ∧ S' = setO S (l, j) (.xf (updR rs r p (mkRs (xs.map MType.enc) k)))))
  | 0 => fun xs h => by omega
  | n + 1 => by
    have ihType := markType_all n
    refine fun xs hn k l j r p S rs hS hp hk => ?_
    · have hlen := len_mc (f := MType.enc) (fun x => by simp only [MType.enc_eq, encS, encI, List.cons_append, List.nil_append, mcR, mcD]; omega) xs
      obtain ⟨rows, hr⟩ : ∃ rows, rows = xs.map MType.enc := ⟨_, rfl⟩
      have hl : rows.length = xs.length := by rw [hr, List.length_map]
      rw [← hr] at hp hk hlen ⊢
      have ht : ∀ x : Ab.Obj, getO (setO S (l, j) x) (l, j) = some x := fun x => getO_setO_eq _ _ _ _ hS
      have hA : ∀ new, atR (updR rs r p new) r p = some new := fun new => atR_updR hp
      have hU : ∀ a b, updR (updR rs r p a) r p b = updR rs r p b := fun a b => updR_updR hp
      refine acall_cw (rs := [.tmp 4]) Tryz.checked.mixed Tryz.func103 Tryz.ntmps103 rfl rfl rfl rfl rfl ?_
      simp -implicitDefEqProofs (disch := omega) only [go_sem]
      refine loop_at (ι := Nat) Tryz.checked.mixed rfl [0, 1, 5] (fun i => [.c (.xp (1 + l, j) r p), .c (.d (.i .i64 (k + mcRs (rows.take i)))), .c (.d (.i .i64 i))])
        (fun i => [] :: setO S (l, j) (.xf (updR rs r p (mkTo rows k i)))) (fun i => i ≤ xs.length) (fun i => xs.length - i) 0 ?_ ?_ (Nat.zero_le _) ?_
      · have z0 : k + ((mcRs (rows.take 0) : Nat) : Int) = k := by simp [mcRs]
        rw [z0]
        rfl
      · rw [mkTo_zero, updR_same hp, setO_self _ _ hS]
      intro i hi
      simp -implicitDefEqProofs (disch := omega) only [go_sem, ht, hA, mkTo_length, hl]
      with_reducible refine split2 (fun hb => ?_) (fun hb => ?_) <;> have h := hb <;> try simp only [wf_preprocess] at h
      · have hi : i < xs.length := by omega
        have hir : i < rows.length := by omega
        obtain ⟨x, hx⟩ : ∃ x, x = xs[i] := ⟨_, rfl⟩
        have e1 : rows[i] = [.i .i64 x.fKind, .s x.fName, .sl (x.fArgs.map MType.enc)] := by
          simp only [hr, List.getElem_map, ← hx]
          simp only [MType.enc_eq, encS, encI, List.cons_append, List.nil_append]
        have hm := mcRs_take hir
        have hle := mcRs_le (rows := rows) (i := i + 1)
        rw [hm, e1] at hle
        rw [e1] at hm
        simp only [mcR, mcD] at hle hm
        have hK : k + ((mcRs (rows.take (i + 1)) : Nat) : Int) = k + ((mcRs (rows.take i) : Nat) : Int) + 1 + 1 + ((mcRs (x.fArgs.map MType.enc) : Nat) : Int) := by rw [hm]; omega
        have e2 := mkTo_at (k := k) hir
        rw [e1] at e2
        have hC : ∀ row o, cellAt (mkAt rows k i row) i o = row[o]? := fun row o => mkAt_cell hir
        have hG : ∀ row, (mkAt rows k i row).getD i [] = row := fun row => mkAt_get hir
        simp -implicitDefEqProofs (disch := omega) only [go_sem, hb, ht, hA, hU, e2, hC, hG, mkAt_set, mkAt_length, hl, setO_twice, isSD]
        (repeat (with_reducible refine And.intro ?_ ?_; focus first | omega | rfl | assumption | exact ⟨_, rfl, rfl⟩ | (simp; omega) | (simp; done)))
        refine call_w (markText_ok (k + ((mcRs (rows.take i) : Nat) : Int) + 1) (by omega)) ?_
        simp -implicitDefEqProofs (disch := omega) only [go_sem, hb, ht, hA, hU, e2, hC, hG, mkAt_set, mkAt_length, hl, setO_twice, isSD]
        (repeat (with_reducible refine And.intro ?_ ?_; focus first | omega | rfl | assumption | exact ⟨_, rfl, rfl⟩ | (simp; omega) | (simp; done)))
        refine call_d rfl (sub_mk hS hp hir (by rfl) (fun S' rs' g1 g2 => ihType x.fArgs (by have := List.sizeOf_lt_of_mem (List.getElem_mem hi); rw [← hx] at this; have := MType.lt_Args x; omega) (k + ((mcRs (rows.take i) : Nat) : Int) + 1 + 1) (1 + l) j r _ S' rs' g1 g2 (by omega))) ?_
        simp -implicitDefEqProofs (disch := omega) only [go_sem, hb, ht, hA, hU, e2, hC, hG, mkAt_set, mkAt_length, hl, setO_twice, isSD]
        (repeat (with_reducible refine And.intro ?_ ?_; focus first | omega | rfl | assumption | exact ⟨_, rfl, rfl⟩ | (simp; omega) | (simp; done)))
        refine inv_at (i + 1) (by omega) (by rw [hK]; rfl) ?_ (by omega)
        have h3 := mkAt_to (k := k) hir
        rw [e1] at h3
        simp only [mkR, mkD] at h3
        rw [← h3]
        all_goals rfl
      · simp -implicitDefEqProofs (disch := omega) only [go_sem, hb]
        have hi : i = xs.length := by omega
        rw [mkTo_all (by omega), List.take_of_length_le (by omega)]
        all_goals (first | rfl | exact ⟨rfl, rfl⟩)
theorem markTypeS_ok (xs : List MType) : ∀ (k : Int) (l j r : Nat) (p : List (Nat × Nat)) (S : Store) (rs : List (List (List D))), getO S (l, j) = some (.xf rs) → atR rs r p = some (xs.map MType.enc) → 0 ≤ k ∧ k + mcRs (xs.map MType.enc) ≤ 4611686018427387904 → ACall Tryz.prog 103 [.c (.xp (l, j) r p), .c (.d (.i .i64 k))] S (fun res S' => res = .c (.d (.i .i64 (k + mcRs (xs.map MType.enc)))) ∧ S' = setO S (l, j) (.xf (updR rs r p (mkRs (xs.map MType.enc) k)))) := (markType_all _) xs (Nat.lt_succ_self _)
theorem heldType_all : ∀ n : Nat, (∀ xs : List MType, SizeOf.sizeOf xs < n → ∀ (k : Int) (l j r : Nat) (p : List (Nat × Nat)) (S : Store) (rs : List (List (List D))), getO S (l, j) = some (.xf rs) → atR rs r p = some (mkRs (xs.map MType.enc) k) → 0 ≤ k ∧ k + mcRs (xs.map MType.enc) ≤ 4611686018427387904 → ACall Tryz.prog 104 [.c (.xp (l, j) r p), .c (.d (.i .i64 k))] S (fun res S' => res = .c (.d (.i .i64 (k + mcRs (xs.map MType.enc)))) ∧ S' = S))
  | 0 => fun xs h => by omega
  | n + 1 => by
    have ihType := heldType_all n
    refine fun xs hn k l j r p S rs hS hp hk => ?_
    · have hlen := len_mc (f := MType.enc) (fun x => by simp only [MType.enc_eq, encS, encI, List.cons_append, List.nil_append, mcR, mcD]; omega) xs
      obtain ⟨rows, hr⟩ : ∃ rows, rows = xs.map MType.enc := ⟨_, rfl⟩
      have hl : rows.length = xs.length := by rw [hr, List.length_map]
      rw [← hr] at hp hk hlen ⊢
      refine acall_cw (rs := [.tmp 4]) Tryz.checked.mixed Tryz.func104 Tryz.ntmps104 rfl rfl rfl rfl rfl ?_
      simp -implicitDefEqProofs (disch := omega) only [go_sem]
      refine loop_at (ι := Nat) Tryz.checked.mixed rfl [0, 1, 5] (fun i => [.c (.xp (1 + l, j) r p), .c (.d (.i .i64 (k + mcRs (rows.take i)))), .c (.d (.i .i64 i))])
        (fun i => [] :: S) (fun i => i ≤ xs.length) (fun i => xs.length - i) 0 ?_ rfl (Nat.zero_le _) ?_
      · have z0 : k + ((mcRs (rows.take 0) : Nat) : Int) = k := by simp [mcRs]
        rw [z0]
        rfl
      intro i hi
      simp -implicitDefEqProofs (disch := omega) only [go_sem, hS, hp, mkRs_length, hl]
      with_reducible refine split2 (fun hb => ?_) (fun hb => ?_) <;> have h := hb <;> try simp only [wf_preprocess] at h
      · have hi : i < xs.length := by omega
        have hir : i < rows.length := by omega
        obtain ⟨x, hx⟩ : ∃ x, x = xs[i] := ⟨_, rfl⟩
        have e1 : rows[i] = [.i .i64 x.fKind, .s x.fName, .sl (x.fArgs.map MType.enc)] := by
          simp only [hr, List.getElem_map, ← hx]
          simp only [MType.enc_eq, encS, encI, List.cons_append, List.nil_append]
        have hm := mcRs_take hir
        have hle := mcRs_le (rows := rows) (i := i + 1)
        rw [hm, e1] at hle
        rw [e1] at hm
        simp only [mcR, mcD] at hle hm
        have hK : k + ((mcRs (rows.take (i + 1)) : Nat) : Int) = k + ((mcRs (rows.take i) : Nat) : Int) + 1 + 1 + ((mcRs (x.fArgs.map MType.enc) : Nat) : Int) := by rw [hm]; omega
        have e2 : mkR rows[i] (k + ((mcRs (rows.take i) : Nat) : Int)) = [.i .i64 (k + ((mcRs (rows.take i) : Nat) : Int)), .s (mtext (k + ((mcRs (rows.take i) : Nat) : Int) + 1)), .sl (mkRs (x.fArgs.map MType.enc) (k + ((mcRs (rows.take i) : Nat) : Int) + 1 + 1))] := by
          rw [e1]
          simp only [mkR, mkD]
          all_goals rfl
        have hC : ∀ o, cellAt (mkRs rows k) i o = ([.i .i64 (k + ((mcRs (rows.take i) : Nat) : Int)), .s (mtext (k + ((mcRs (rows.take i) : Nat) : Int) + 1)), .sl (mkRs (x.fArgs.map MType.enc) (k + ((mcRs (rows.take i) : Nat) : Int) + 1 + 1))] : List D)[o]? := fun o => by
          have h1 : (mkRs rows k)[i]? = some (mkR rows[i] (k + ((mcRs (rows.take i) : Nat) : Int))) := by
            have h2 := mkRs_get (k := k) hir
            have h3 : i < (mkRs rows k).length := by rw [mkRs_length]; exact hir
            rw [List.getD_eq_getElem?_getD, List.getElem?_eq_getElem h3, Option.getD_some] at h2
            rw [List.getElem?_eq_getElem h3, h2]
          unfold cellAt
          rw [h1, Option.bind_some, e2]
        have hG := mkRs_get (k := k) hir
        rw [e2] at hG
        simp -implicitDefEqProofs (disch := omega) only [go_sem, hb, hS, hp, hC, hG, mkRs_length, hl, isSD]
        (repeat (with_reducible refine And.intro ?_ ?_; focus first | omega | rfl | assumption | exact ⟨_, rfl, rfl⟩ | (simp; omega) | (simp; done)))
        refine call_w (markText_ok (k + ((mcRs (rows.take i) : Nat) : Int) + 1) (by omega)) ?_
        simp -implicitDefEqProofs (disch := omega) only [go_sem, hb, hS, hp, hC, hG, mkRs_length, hl, isSD]
        (repeat (with_reducible refine And.intro ?_ ?_; focus first | omega | rfl | assumption | exact ⟨_, rfl, rfl⟩ | (simp; omega) | (simp; done)))
        refine call_d rfl (ihType x.fArgs (by have := List.sizeOf_lt_of_mem (List.getElem_mem hi); rw [← hx] at this; have := MType.lt_Args x; omega) (k + ((mcRs (rows.take i) : Nat) : Int) + 1 + 1) (1 + l) j r _ _ _ (by rw [getO_up1]; exact hS) (atR_snoc hp (by rw [hC]; rfl)) (by omega)) ?_
        simp -implicitDefEqProofs (disch := omega) only [go_sem, hb, hS, hp, hC, hG, mkRs_length, hl, isSD, dec_neg]
        (repeat (with_reducible refine And.intro ?_ ?_; focus first | omega | rfl | assumption | exact ⟨_, rfl, rfl⟩ | (simp; omega) | (simp; done)))
        refine inv_at (i + 1) (by omega) (by rw [hK]; rfl) rfl (by omega)
      · simp -implicitDefEqProofs (disch := omega) only [go_sem, hb]
        have hi : i = xs.length := by omega
        rw [List.take_of_length_le (by omega)]
        all_goals (first | rfl | exact ⟨rfl, rfl⟩)
theorem heldTypeS_ok (xs : List MType) : ∀ (k : Int) (l j r : Nat) (p : List (Nat × Nat)) (S : Store) (rs : List (List (List D))), getO S (l, j) = some (.xf rs) → atR rs r p = some (mkRs (xs.map MType.enc) k) → 0 ≤ k ∧ k + mcRs (xs.map MType.enc) ≤ 4611686018427387904 → ACall Tryz.prog 104 [.c (.xp (l, j) r p), .c (.d (.i .i64 k))] S (fun res S' => res = .c (.d (.i .i64 (k + mcRs (xs.map MType.enc)))) ∧ S' = S) := (heldType_all _) xs (Nat.lt_succ_self _)
end Go.Proofs.YtlmhknhlmicmeaaGreat

namespace Go.Proofs.YtlmhknhlmicmeaaGreat
open Go Go.Ab
end Go.Proofs.YtlmhknhlmicmeaaGreat

namespace Go.Proofs.YtlmhknhlmicmeaaGreat
open Go Go.Ab
end Go.Proofs.YtlmhknhlmicmeaaGreat

namespace Go.Proofs.YtlmhknhlmicmeaaGreat
open Go Go.Ab
end Go.Proofs.YtlmhknhlmicmeaaGreat

namespace Go.Proofs.YtlmhknhlmicmeaaGreat
open Go Go.Ab
theorem markSExpr_all : ∀ n : Nat, (∀ xs : List MSExpr, SizeOf.sizeOf xs < n → ∀ (k : Int) (l j r : Nat) (p : List (Nat × Nat)) (S : Store) (rs : List (List (List D))), getO S (l, j) = some (.xf rs) → atR rs r p = some (xs.map MSExpr.enc) → 0 ≤ k ∧ k + mcRs (xs.map MSExpr.enc) ≤ 4611686018427387904 → ACall Tryz.prog 52 [.c (.xp (l, j) r p), .c (.d (.i .i64 k))] S (fun res S' => res = .c (.d (.i .i64 (k + mcRs (xs.map MSExpr.enc)))) ∧ S' = setO S (l, j) (.xf (updR rs r p (mkRs (xs.map MSExpr.enc) k)))))
  | 0 => fun xs h => by omega
  | n + 1 => by
    have ihSExpr := markSExpr_all n
    refine fun xs hn k l j r p S rs hS hp hk => ?_
    · have hlen := len_mc (f := MSExpr.enc) (fun x => by simp only [MSExpr.enc_eq, encS, encI, List.cons_append, List.nil_append, mcR, mcD]; omega) xs
      obtain ⟨rows, hr⟩ : ∃ rows, rows = xs.map MSExpr.enc := ⟨_, rfl⟩
      have hl : rows.length = xs.length := by rw [hr, List.length_map]
      rw [← hr] at hp hk hlen ⊢
      have ht : ∀ x : Ab.Obj, getO (setO S (l, j) x) (l, j) = some x := fun x => getO_setO_eq _ _ _ _ hS
      have hA : ∀ new, atR (updR rs r p new) r p = some new := fun new => atR_updR hp
      have hU : ∀ a b, updR (updR rs r p a) r p b = updR rs r p b := fun a b => updR_updR hp
      refine acall_cw (rs := [.tmp 4]) Tryz.checked.mixed Tryz.func52 Tryz.ntmps52 rfl rfl rfl rfl rfl ?_
      simp -implicitDefEqProofs (disch := omega) only [go_sem]
      refine loop_at (ι := Nat) Tryz.checked.mixed rfl [0, 1, 5] (fun i => [.c (.xp (1 + l, j) r p), .c (.d (.i .i64 (k + mcRs (rows.take i)))), .c (.d (.i .i64 i))])
        (fun i => [] :: setO S (l, j) (.xf (updR rs r p (mkTo rows k i)))) (fun i => i ≤ xs.length) (fun i => xs.length - i) 0 ?_ ?_ (Nat.zero_le _) ?_
      · have z0 : k + ((mcRs (rows.take 0) : Nat) : Int) = k := by simp [mcRs]
        rw [z0]
        rfl
      · rw [mkTo_zero, updR_same hp, setO_self _ _ hS]
      intro i hi
      simp -implicitDefEqProofs (disch := omega) only [go_sem, ht, hA, mkTo_length, hl]
      with_reducible refine split2 (fun hb => ?_) (fun hb => ?_) <;> have h := hb <;> try simp only [wf_preprocess] at h
      · have hi : i < xs.length := by omega
        have hir : i < rows.length := by omega
        obtain ⟨x, hx⟩ : ∃ x, x = xs[i] := ⟨_, rfl⟩
        have e1 : rows[i] = [.s x.fAtom, .sl (x.fList.map MSExpr.enc)] := by
          simp only [hr, List.getElem_map, ← hx]
          simp only [MSExpr.enc_eq, encS, encI, List.cons_append, List.nil_append]
        have hm := mcRs_take hir
        have hle := mcRs_le (rows := rows) (i := i + 1)
        rw [hm, e1] at hle
        rw [e1] at hm
        simp only [mcR, mcD] at hle hm
        have hK : k + ((mcRs (rows.take (i + 1)) : Nat) : Int) = k + ((mcRs (rows.take i) : Nat) : Int) + 1 + ((mcRs (x.fList.map MSExpr.enc) : Nat) : Int) := by rw [hm]; omega
        have e2 := mkTo_at (k := k) hir
        rw [e1] at e2
        have hC : ∀ row o, cellAt (mkAt rows k i row) i o = row[o]? := fun row o => mkAt_cell hir
        have hG : ∀ row, (mkAt rows k i row).getD i [] = row := fun row => mkAt_get hir
        simp -implicitDefEqProofs (disch := omega) only [go_sem, hb, ht, hA, hU, e2, hC, hG, mkAt_set, mkAt_length, hl, setO_twice, isSD]
        (repeat (with_reducible refine And.intro ?_ ?_; focus first | omega | rfl | assumption | exact ⟨_, rfl, rfl⟩ | (simp; omega) | (simp; done)))
        refine call_w (markText_ok (k + ((mcRs (rows.take i) : Nat) : Int)) (by omega)) ?_
        simp -implicitDefEqProofs (disch := omega) only [go_sem, hb, ht, hA, hU, e2, hC, hG, mkAt_set, mkAt_length, hl, setO_twice, isSD]
        (repeat (with_reducible refine And.intro ?_ ?_; focus first | omega | rfl | assumption | exact ⟨_, rfl, rfl⟩ | (simp; omega) | (simp; done)))
        refine call_d rfl (sub_mk hS hp hir (by rfl) (fun S' rs' g1 g2 => ihSExpr x.fList (by have := List.sizeOf_lt_of_mem (List.getElem_mem hi); rw [← hx] at this; have := MSExpr.lt_List x; omega) (k + ((mcRs (rows.take i) : Nat) : Int) + 1) (1 + l) j r _ S' rs' g1 g2 (by omega))) ?_
        simp -implicitDefEqProofs (disch := omega) only [go_sem, hb, ht, hA, hU, e2, hC, hG, mkAt_set, mkAt_length, hl, setO_twice, isSD]
        (repeat (with_reducible refine And.intro ?_ ?_; focus first | omega | rfl | assumption | exact ⟨_, rfl, rfl⟩ | (simp; omega) | (simp; done)))
        refine inv_at (i + 1) (by omega) (by rw [hK]; rfl) ?_ (by omega)
        have h3 := mkAt_to (k := k) hir
        rw [e1] at h3
        simp only [mkR, mkD] at h3
        rw [← h3]
        all_goals rfl
      · simp -implicitDefEqProofs (disch := omega) only [go_sem, hb]
        have hi : i = xs.length := by omega
        rw [mkTo_all (by omega), List.take_of_length_le (by omega)]
        all_goals (first | rfl | exact ⟨rfl, rfl⟩)
theorem markSExprS_ok (xs : List MSExpr) : ∀ (k : Int) (l j r : Nat) (p : List (Nat × Nat)) (S : Store) (rs : List (List (List D))), getO S (l, j) = some (.xf rs) → atR rs r p = some (xs.map MSExpr.enc) → 0 ≤ k ∧ k + mcRs (xs.map MSExpr.enc) ≤ 4611686018427387904 → ACall Tryz.prog 52 [.c (.xp (l, j) r p), .c (.d (.i .i64 k))] S (fun res S' => res = .c (.d (.i .i64 (k + mcRs (xs.map MSExpr.enc)))) ∧ S' = setO S (l, j) (.xf (updR rs r p (mkRs (xs.map MSExpr.enc) k)))) := (markSExpr_all _) xs (Nat.lt_succ_self _)
theorem markSExpr_ok (x : MSExpr) (k : Int) (l j b : Nat) (S : Store) (rs : List (List (List D))) (hS : getO S (l, j) = some (.xf rs)) (h1 : atR rs (b + 1) [] = some (x.fList.map MSExpr.enc)) (hk : 0 ≤ k ∧ k + ((mcRs (x.fList.map MSExpr.enc) : Nat) : Int) ≤ 4611686018427387904) : ACall Tryz.prog 19 [.agg [.d (.s x.fAtom), .xp (l, j) (b + 1) []], .c (.d (.i .i64 k))] S (fun res S' => res = .c (.d (.i .i64 (k + ((mcRs (x.fList.map MSExpr.enc) : Nat) : Int)))) ∧ S' = setO S (l, j) (.xf (updR (rs) (b + 1) [] (mkRs (x.fList.map MSExpr.enc) (k))))) := by
  have ht : ∀ x : Ab.Obj, getO (setO S (l, j) x) (l, j) = some x := fun x => getO_setO_eq _ _ _ _ hS
  refine acall_cw (rs := [.tmp 4]) Tryz.checked.mixed Tryz.func19 Tryz.ntmps19 rfl rfl rfl rfl rfl ?_
  simp -implicitDefEqProofs (disch := omega) only [go_sem]
  refine call_d rfl (markSExprS_ok x.fList (k) (1 + l) j (b + 1) [] _ _ (by rw [getO_up1]; first | exact hS | exact ht _) (by first | assumption | (simp (disch := omega) only [ne_eq, atR_ne]; assumption)) (by omega)) ?_
  simp -implicitDefEqProofs (disch := omega) only [go_sem, setO_twice, setO_up1]
  try exact ⟨rfl, rfl⟩
end Go.Proofs.YtlmhknhlmicmeaaGreat

namespace Go.Proofs.YtlmhknhlmicmeaaGreat
open Go Go.Ab
end Go.Proofs.YtlmhknhlmicmeaaGreat

namespace Go.Proofs.YtlmhknhlmicmeaaGreat
open Go Go.Ab
end Go.Proofs.YtlmhknhlmicmeaaGreat

namespace Go.Proofs.YtlmhknhlmicmeaaGreat
open Go Go.Ab
set_option maxHeartbeats 4000000 in
theorem markConstructorS_ok (xs : List MConstructor) : ∀ (k : Int) (l j r : Nat) (p : List (Nat × Nat)) (S : Store) (rs : List (List (List D))), getO S (l, j) = some (.xf rs) → atR rs r p = some (xs.map MConstructor.enc) → 0 ≤ k ∧ k + mcRs (xs.map MConstructor.enc) ≤ 4611686018427387904 → ACall Tryz.prog 54 [.c (.xp (l, j) r p), .c (.d (.i .i64 k))] S (fun res S' => res = .c (.d (.i .i64 (k + mcRs (xs.map MConstructor.enc)))) ∧ S' = setO S (l, j) (.xf (updR rs r p (mkRs (xs.map MConstructor.enc) k)))) := by
  intro k l j r p S rs hS hp hk
  have hlen := len_mc (f := MConstructor.enc) (fun x => by simp only [MConstructor.enc_eq, encS, encI, List.cons_append, List.nil_append, mcR, mcD]; omega) xs
  obtain ⟨rows, hr⟩ : ∃ rows, rows = xs.map MConstructor.enc := ⟨_, rfl⟩
  have hl : rows.length = xs.length := by rw [hr, List.length_map]
  rw [← hr] at hp hk hlen ⊢
  have ht : ∀ x : Ab.Obj, getO (setO S (l, j) x) (l, j) = some x := fun x => getO_setO_eq _ _ _ _ hS
  have hA : ∀ new, atR (updR rs r p new) r p = some new := fun new => atR_updR hp
  have hU : ∀ a b, updR (updR rs r p a) r p b = updR rs r p b := fun a b => updR_updR hp
  refine acall_cw (rs := [.tmp 4]) Tryz.checked.mixed Tryz.func54 Tryz.ntmps54 rfl rfl rfl rfl rfl ?_
  simp -implicitDefEqProofs (disch := omega) only [go_sem]
  refine loop_at (ι := Nat) Tryz.checked.mixed rfl [0, 1, 5] (fun i => [.c (.xp (1 + l, j) r p), .c (.d (.i .i64 (k + mcRs (rows.take i)))), .c (.d (.i .i64 i))])
    (fun i => [] :: setO S (l, j) (.xf (updR rs r p (mkTo rows k i)))) (fun i => i ≤ xs.length) (fun i => xs.length - i) 0 ?_ ?_ (Nat.zero_le _) ?_
  · have z0 : k + ((mcRs (rows.take 0) : Nat) : Int) = k := by simp [mcRs]
    rw [z0]
    rfl
  · rw [mkTo_zero, updR_same hp, setO_self _ _ hS]
  intro i hi
  simp -implicitDefEqProofs (disch := omega) only [go_sem, ht, hA, mkTo_length, hl]
  with_reducible refine split2 (fun hb => ?_) (fun hb => ?_) <;> have h := hb <;> try simp only [wf_preprocess] at h
  · have hi : i < xs.length := by omega
    have hir : i < rows.length := by omega
    obtain ⟨x, hx⟩ : ∃ x, x = xs[i] := ⟨_, rfl⟩
    have e1 : rows[i] = [.s x.fName, .sl (x.fFields.map MType.enc)] := by
      simp only [hr, List.getElem_map, ← hx]
      simp only [MConstructor.enc_eq, encS, encI, List.cons_append, List.nil_append]
    have hm := mcRs_take hir
    have hle := mcRs_le (rows := rows) (i := i + 1)
    rw [hm, e1] at hle
    rw [e1] at hm
    simp only [mcR, mcD] at hle hm
    have hK : k + ((mcRs (rows.take (i + 1)) : Nat) : Int) = k + ((mcRs (rows.take i) : Nat) : Int) + 1 + ((mcRs (x.fFields.map MType.enc) : Nat) : Int) := by rw [hm]; omega
    have e2 := mkTo_at (k := k) hir
    rw [e1] at e2
    have hC : ∀ row o, cellAt (mkAt rows k i row) i o = row[o]? := fun row o => mkAt_cell hir
    have hG : ∀ row, (mkAt rows k i row).getD i [] = row := fun row => mkAt_get hir
    simp -implicitDefEqProofs (disch := omega) only [go_sem, hb, ht, hA, hU, e2, hC, hG, mkAt_set, mkAt_length, hl, setO_twice, isSD]
    (repeat (with_reducible refine And.intro ?_ ?_; focus first | omega | rfl | assumption | exact ⟨_, rfl, rfl⟩ | (simp; omega) | (simp; done)))
    refine call_w (markText_ok (k + ((mcRs (rows.take i) : Nat) : Int)) (by omega)) ?_
    simp -implicitDefEqProofs (disch := omega) only [go_sem, hb, ht, hA, hU, e2, hC, hG, mkAt_set, mkAt_length, hl, setO_twice, isSD]
    (repeat (with_reducible refine And.intro ?_ ?_; focus first | omega | rfl | assumption | exact ⟨_, rfl, rfl⟩ | (simp; omega) | (simp; done)))
    refine call_d rfl (sub_mk hS hp hir (by rfl) (fun S' rs' g1 g2 => markTypeS_ok x.fFields (k + ((mcRs (rows.take i) : Nat) : Int) + 1) (1 + l) j r _ S' rs' g1 g2 (by omega))) ?_
    simp -implicitDefEqProofs (disch := omega) only [go_sem, hb, ht, hA, hU, e2, hC, hG, mkAt_set, mkAt_length, hl, setO_twice, isSD]
    (repeat (with_reducible refine And.intro ?_ ?_; focus first | omega | rfl | assumption | exact ⟨_, rfl, rfl⟩ | (simp; omega) | (simp; done)))
    refine inv_at (i + 1) (by omega) (by rw [hK]; rfl) ?_ (by omega)
    have h3 := mkAt_to (k := k) hir
    rw [e1] at h3
    simp only [mkR, mkD] at h3
    rw [← h3]
    all_goals rfl
  · simp -implicitDefEqProofs (disch := omega) only [go_sem, hb]
    have hi : i = xs.length := by omega
    rw [mkTo_all (by omega), List.take_of_length_le (by omega)]
    all_goals (first | rfl | exact ⟨rfl, rfl⟩)
set_option maxHeartbeats 4000000 in
theorem heldConstructorS_ok (xs : List MConstructor) : ∀ (k : Int) (l j r : Nat) (p : List (Nat × Nat)) (S : Store) (rs : List (List (List D))), getO S (l, j) = some (.xf rs) → atR rs r p = some (mkRs (xs.map MConstructor.enc) k) → 0 ≤ k ∧ k + mcRs (xs.map MConstructor.enc) ≤ 4611686018427387904 → ACall Tryz.prog 56 [.c (.xp (l, j) r p), .c (.d (.i .i64 k))] S (fun res S' => res = .c (.d (.i .i64 (k + mcRs (xs.map MConstructor.enc)))) ∧ S' = S) := by
  intro k l j r p S rs hS hp hk
  have hlen := len_mc (f := MConstructor.enc) (fun x => by simp only [MConstructor.enc_eq, encS, encI, List.cons_append, List.nil_append, mcR, mcD]; omega) xs
  obtain ⟨rows, hr⟩ : ∃ rows, rows = xs.map MConstructor.enc := ⟨_, rfl⟩
  have hl : rows.length = xs.length := by rw [hr, List.length_map]
  rw [← hr] at hp hk hlen ⊢
  refine acall_cw (rs := [.tmp 4]) Tryz.checked.mixed Tryz.func56 Tryz.ntmps56 rfl rfl rfl rfl rfl ?_
  simp -implicitDefEqProofs (disch := omega) only [go_sem]
  refine loop_at (ι := Nat) Tryz.checked.mixed rfl [0, 1, 5] (fun i => [.c (.xp (1 + l, j) r p), .c (.d (.i .i64 (k + mcRs (rows.take i)))), .c (.d (.i .i64 i))])
    (fun i => [] :: S) (fun i => i ≤ xs.length) (fun i => xs.length - i) 0 ?_ rfl (Nat.zero_le _) ?_
  · have z0 : k + ((mcRs (rows.take 0) : Nat) : Int) = k := by simp [mcRs]
    rw [z0]
    rfl
  intro i hi
  simp -implicitDefEqProofs (disch := omega) only [go_sem, hS, hp, mkRs_length, hl]
  with_reducible refine split2 (fun hb => ?_) (fun hb => ?_) <;> have h := hb <;> try simp only [wf_preprocess] at h
  · have hi : i < xs.length := by omega
    have hir : i < rows.length := by omega
    obtain ⟨x, hx⟩ : ∃ x, x = xs[i] := ⟨_, rfl⟩
    have e1 : rows[i] = [.s x.fName, .sl (x.fFields.map MType.enc)] := by
      simp only [hr, List.getElem_map, ← hx]
      simp only [MConstructor.enc_eq, encS, encI, List.cons_append, List.nil_append]
    have hm := mcRs_take hir
    have hle := mcRs_le (rows := rows) (i := i + 1)
    rw [hm, e1] at hle
    rw [e1] at hm
    simp only [mcR, mcD] at hle hm
    have hK : k + ((mcRs (rows.take (i + 1)) : Nat) : Int) = k + ((mcRs (rows.take i) : Nat) : Int) + 1 + ((mcRs (x.fFields.map MType.enc) : Nat) : Int) := by rw [hm]; omega
    have e2 : mkR rows[i] (k + ((mcRs (rows.take i) : Nat) : Int)) = [.s (mtext (k + ((mcRs (rows.take i) : Nat) : Int))), .sl (mkRs (x.fFields.map MType.enc) (k + ((mcRs (rows.take i) : Nat) : Int) + 1))] := by
      rw [e1]
      simp only [mkR, mkD]
      all_goals rfl
    have hC : ∀ o, cellAt (mkRs rows k) i o = ([.s (mtext (k + ((mcRs (rows.take i) : Nat) : Int))), .sl (mkRs (x.fFields.map MType.enc) (k + ((mcRs (rows.take i) : Nat) : Int) + 1))] : List D)[o]? := fun o => by
      have h1 : (mkRs rows k)[i]? = some (mkR rows[i] (k + ((mcRs (rows.take i) : Nat) : Int))) := by
        have h2 := mkRs_get (k := k) hir
        have h3 : i < (mkRs rows k).length := by rw [mkRs_length]; exact hir
        rw [List.getD_eq_getElem?_getD, List.getElem?_eq_getElem h3, Option.getD_some] at h2
        rw [List.getElem?_eq_getElem h3, h2]
      unfold cellAt
      rw [h1, Option.bind_some, e2]
    have hG := mkRs_get (k := k) hir
    rw [e2] at hG
    simp -implicitDefEqProofs (disch := omega) only [go_sem, hb, hS, hp, hC, hG, mkRs_length, hl, isSD]
    (repeat (with_reducible refine And.intro ?_ ?_; focus first | omega | rfl | assumption | exact ⟨_, rfl, rfl⟩ | (simp; omega) | (simp; done)))
    refine call_w (markText_ok (k + ((mcRs (rows.take i) : Nat) : Int)) (by omega)) ?_
    simp -implicitDefEqProofs (disch := omega) only [go_sem, hb, hS, hp, hC, hG, mkRs_length, hl, isSD]
    (repeat (with_reducible refine And.intro ?_ ?_; focus first | omega | rfl | assumption | exact ⟨_, rfl, rfl⟩ | (simp; omega) | (simp; done)))
    refine call_d rfl (heldTypeS_ok x.fFields (k + ((mcRs (rows.take i) : Nat) : Int) + 1) (1 + l) j r _ _ _ (by rw [getO_up1]; exact hS) (atR_snoc hp (by rw [hC]; rfl)) (by omega)) ?_
    simp -implicitDefEqProofs (disch := omega) only [go_sem, hb, hS, hp, hC, hG, mkRs_length, hl, isSD, dec_neg]
    (repeat (with_reducible refine And.intro ?_ ?_; focus first | omega | rfl | assumption | exact ⟨_, rfl, rfl⟩ | (simp; omega) | (simp; done)))
    refine inv_at (i + 1) (by omega) (by rw [hK]; rfl) rfl (by omega)
  · simp -implicitDefEqProofs (disch := omega) only [go_sem, hb]
    have hi : i = xs.length := by omega
    rw [List.take_of_length_le (by omega)]
    all_goals (first | rfl | exact ⟨rfl, rfl⟩)
end Go.Proofs.YtlmhknhlmicmeaaGreat

namespace Go.Proofs.YtlmhknhlmicmeaaGreat
open Go Go.Ab
theorem markDataType_ok (x : MDataType) (k : Int) (l j b : Nat) (S : Store) (rs : List (List (List D))) (hS : getO S (l, j) = some (.xf rs)) (h1 : atR rs (b + 1) [] = some (x.fVars.map encS)) (h2 : atR rs (b + 2) [] = some (x.fConstructors.map MConstructor.enc)) (hk : 0 ≤ k ∧ k + ((mcRs (x.fVars.map encS) : Nat) : Int) + ((mcRs (x.fConstructors.map MConstructor.enc) : Nat) : Int) ≤ 4611686018427387904) : ACall Tryz.prog 20 [.agg [.d (.s x.fName), .xp (l, j) (b + 1) [], .xp (l, j) (b + 2) []], .c (.d (.i .i64 k))] S (fun res S' => res = .c (.d (.i .i64 (k + ((mcRs (x.fVars.map encS) : Nat) : Int) + ((mcRs (x.fConstructors.map MConstructor.enc) : Nat) : Int)))) ∧ S' = setO S (l, j) (.xf (updR (updR (rs) (b + 1) [] (mkRs (x.fVars.map encS) (k))) (b + 2) [] (mkRs (x.fConstructors.map MConstructor.enc) (k + ((mcRs (x.fVars.map encS) : Nat) : Int)))))) := by
  have ht : ∀ x : Ab.Obj, getO (setO S (l, j) x) (l, j) = some x := fun x => getO_setO_eq _ _ _ _ hS
  refine acall_cw (rs := [.tmp 4]) Tryz.checked.mixed Tryz.func20 Tryz.ntmps20 rfl rfl rfl rfl rfl ?_
  simp -implicitDefEqProofs (disch := omega) only [go_sem]
  refine call_d rfl (markStringS_ok x.fVars (k) (1 + l) j (b + 1) [] _ _ (by rw [getO_up1]; first | exact hS | exact ht _) (by first | assumption | (simp (disch := omega) only [ne_eq, atR_ne]; assumption)) (by omega)) ?_
  simp -implicitDefEqProofs (disch := omega) only [go_sem, setO_twice, setO_up1]
  refine call_d rfl (markConstructorS_ok x.fConstructors (k + ((mcRs (x.fVars.map encS) : Nat) : Int)) (1 + l) j (b + 2) [] _ _ (by rw [getO_up1]; first | exact hS | exact ht _) (by first | assumption | (simp (disch := omega) only [ne_eq, atR_ne]; assumption)) (by omega)) ?_
  simp -implicitDefEqProofs (disch := omega) only [go_sem, setO_twice, setO_up1]
  try exact ⟨rfl, rfl⟩
theorem heldDataType_ok (x : MDataType) (k : Int) (l j b : Nat) (S : Store) (rs : List (List (List D))) (hS : getO S (l, j) = some (.xf rs)) (h1 : atR rs (b + 1) [] = some (mkRs (x.fVars.map encS) (k))) (h2 : atR rs (b + 2) [] = some (mkRs (x.fConstructors.map MConstructor.enc) (k + ((mcRs (x.fVars.map encS) : Nat) : Int)))) (hk : 0 ≤ k ∧ k + ((mcRs (x.fVars.map encS) : Nat) : Int) + ((mcRs (x.fConstructors.map MConstructor.enc) : Nat) : Int) ≤ 4611686018427387904) : ACall Tryz.prog 21 [.agg [.d (.s x.fName), .xp (l, j) (b + 1) [], .xp (l, j) (b + 2) []], .c (.d (.i .i64 k))] S (fun res S' => res = .c (.d (.i .i64 (k + ((mcRs (x.fVars.map encS) : Nat) : Int) + ((mcRs (x.fConstructors.map MConstructor.enc) : Nat) : Int)))) ∧ S' = S) := by
  refine acall_cw (rs := [.tmp 4]) Tryz.checked.mixed Tryz.func21 Tryz.ntmps21 rfl rfl rfl rfl rfl ?_
  simp -implicitDefEqProofs (disch := omega) only [go_sem]
  refine call_d rfl (heldStringS_ok x.fVars (k) (1 + l) j (b + 1) [] _ _ (by rw [getO_up1]; first | exact hS | exact ht _) (by first | assumption | (simp (disch := omega) only [ne_eq, atR_ne]; assumption)) (by omega)) ?_
  simp -implicitDefEqProofs (disch := omega) only [go_sem, dec_neg]
  refine call_d rfl (heldConstructorS_ok x.fConstructors (k + ((mcRs (x.fVars.map encS) : Nat) : Int)) (1 + l) j (b + 2) [] _ _ (by rw [getO_up1]; first | exact hS | exact ht _) (by first | assumption | (simp (disch := omega) only [ne_eq, atR_ne]; assumption)) (by omega)) ?_
  simp -implicitDefEqProofs (disch := omega) only [go_sem, dec_neg]
  try exact ⟨rfl, rfl⟩
end Go.Proofs.YtlmhknhlmicmeaaGreat

namespace Go.Proofs.YtlmhknhlmicmeaaGreat.fnExactSExprToDataType
open Go Go.Ab
set_option maxHeartbeats 4000000 in
theorem law (x0 : MSExpr) (f0 : FitL x0.enc) : ACall Tryz.prog 4 [x0.v] [] (fun r _ => r = .c (.d (.b true))) := by
  have hmx := mcr_sz x0.enc x0.plw.2
  rw [MSExpr.enc_length, MSExpr.sz_def] at hmx
  simp only [MSExpr.enc_eq, List.cons_append, List.nil_append, mcR, mcD] at hmx
  refine acall_cw (rs := [.tmp 2]) Tryz.checked.mixed Tryz.func4 Tryz.ntmps4 rfl rfl rfl rfl rfl ?_
  simp -implicitDefEqProofs (disch := omega) only [go_sem]
  refine call_w (szSExpr_ok x0 _ (by omega) (by omega) f0) ?_
  simp -implicitDefEqProofs (disch := omega) only [go_sem] <;> (repeat (with_reducible refine And.intro ?_ ?_; focus first | omega | rfl | assumption | exact ⟨_, rfl, rfl⟩ | (simp; omega) | (simp; done)))
  with_reducible refine split2 (fun hb => ?_) (fun hb => ?_) <;> have h := hb <;> (try simp only [wf_preprocess] at h) <;> simp -implicitDefEqProofs (disch := omega) only [go_sem, hb] <;> (repeat (with_reducible refine And.intro ?_ ?_; focus first | omega | rfl | assumption | exact ⟨_, rfl, rfl⟩ | (simp; omega) | (simp; done)))
  have h0 := sub1_nn h
  have c1 := specDecData_ok x0 (by omega)
  have c2 := fun n => implDecData_labR x0 n (by omega)
  have hd : (rdD x0).sz ≤ 1048576 := rdD_sz (by omega)
  obtain ⟨X, hX⟩ : ∃ X, X = rdD x0 := ⟨_, rfl⟩
  obtain ⟨B, hB⟩ : ∃ B, B = okD x0 := ⟨_, rfl⟩
  rw [← hX] at hd
  simp only [← hX, ← hB] at c1 c2
  have hmd := mcr_sz X.enc X.plw.2
  rw [MDataType.enc_length, MDataType.sz_def] at hmd
  simp only [MDataType.enc_eq, List.cons_append, List.nil_append, mcR, mcD] at hmd
  have c3 : PCall Tryz.prog 16 [x0.v] (.tup [(true, X.enc.map .d), (false, [.d (.b B)])]) :=
    PCall.less (c2 0) (tup1_less fun w σ S β vs h => repcs_lab h)
  simp only [MDataType.enc_eq, List.cons_append, List.nil_append, List.map_cons, List.map_nil] at c1 c3
  refine call_w (toSExpr_ok x0 (by omega)) ?_
  simp -implicitDefEqProofs (disch := omega) only [go_sem] <;> (repeat (with_reducible refine And.intro ?_ ?_; focus first | omega | rfl | assumption | exact ⟨_, rfl, rfl⟩ | (simp; omega) | (simp; done)))
  refine call_w c1 ?_
  simp -implicitDefEqProofs (disch := omega) only [go_sem]
  refine call_d rfl (ACall.own (mk := V.agg) (r := x0.enc) holder_agg x0.plw.1 (fun n => toSExpr_lab x0 n (by omega))) ?_
  simp -implicitDefEqProofs (disch := omega) only [go_sem, MSExpr.enc_eq, List.cons_append, List.nil_append, rowX, cellX, rootD]
  refine call_d rfl (ACall.ownL (k := (0, 2)) rfl (mk := fun cs => .tup ((true, cs) :: [C.d (.b B)].map fun x => (false, [x]))) (r := X.enc) (holder_tup [C.d (.b B)] rfl) X.plw.1 (fun n => c2 n)) ?_
  simp -implicitDefEqProofs (disch := omega) only [go_sem, MDataType.enc_eq, List.cons_append, List.nil_append, List.map_cons, List.map_nil, rowX, cellX, rootD]
  refine call_d rfl (ACall.lend (k := (0, 4)) rfl (stay_plain rfl) (eqDataType_ok X X (by omega))) ?_
  simp -implicitDefEqProofs (disch := omega) only [go_sem, dec_true rfl, Bool.not_true]
  refine call_w (toSExpr_ok x0 (by omega)) ?_
  simp -implicitDefEqProofs (disch := omega) only [go_sem] <;> (repeat (with_reducible refine And.intro ?_ ?_; focus first | omega | rfl | assumption | exact ⟨_, rfl, rfl⟩ | (simp; omega) | (simp; done)))
  refine call_a rfl (DS.refl _) (ACall.lend (k := (0, 2)) rfl (stay_plain rfl) (eqSExpr_ok x0 x0 (by omega))) ?_
  simp -implicitDefEqProofs (disch := omega) only [go_sem, dec_true rfl, Bool.not_true]
  refine call_d rfl (markSExpr_ok x0 1 0 2 0 _ _ rfl rfl ⟨by omega, by omega⟩) ?_
  simp -implicitDefEqProofs (disch := omega) only [go_sem, dec_neg]
  refine call_d rfl (ACall.lend (k := (0, 4)) rfl (stay_plain rfl) (eqDataType_ok X X (by omega))) ?_
  simp -implicitDefEqProofs (disch := omega) only [go_sem, dec_true rfl, Bool.not_true]
  refine call_d rfl (markDataType_ok X 1 0 4 0 _ _ rfl rfl rfl ⟨by omega, by omega⟩) ?_
  simp -implicitDefEqProofs (disch := omega) only [go_sem]
  refine call_d rfl (heldDataType_ok X 1 0 4 0 _ _ rfl rfl rfl ⟨by omega, by omega⟩) ?_
  simp -implicitDefEqProofs (disch := omega) only [go_sem, dec_neg, Bool.not_true]
  refine call_w (toSExpr_ok x0 (by omega)) ?_
  simp -implicitDefEqProofs (disch := omega) only [go_sem] <;> (repeat (with_reducible refine And.intro ?_ ?_; focus first | omega | rfl | assumption | exact ⟨_, rfl, rfl⟩ | (simp; omega) | (simp; done)))
  refine call_w c3 ?_
  simp -implicitDefEqProofs (disch := omega) only [go_sem]
  refine call_w (eqDataType_ok X X (by omega)) ?_
  simp -implicitDefEqProofs (disch := omega) only [go_sem, dec_true rfl, Bool.not_true]
  refine call_d rfl (heldDataType_ok X 1 0 4 0 _ _ rfl rfl rfl ⟨by omega, by omega⟩) ?_
  simp -implicitDefEqProofs (disch := omega) only [go_sem, dec_neg, Bool.not_true]
end Go.Proofs.YtlmhknhlmicmeaaGreat.fnExactSExprToDataType

namespace Go.Ab
theorem wt_pos {P : Program} {n : Nat} {t : TypeId} {ds : List D} (h : WT P n t ds) : ∃ m, n = m + 1 := by
  cases n with
  | zero => exact h.elim
  | succ m => exact ⟨m, rfl⟩
theorem wt_string {P : Program} {n : Nat} {t : TypeId} {ds : List D} (ht : P.underlying t = some .string) (h : WT P n t ds) : ∃ l, ds = [.s l] := by
  obtain ⟨m, rfl⟩ := wt_pos h
  simp only [WT, ht] at h; exact ⟨h.choose, h.choose_spec.1⟩
theorem wt_slice {P : Program} {n : Nat} {t e : TypeId} {ds : List D} (ht : P.underlying t = some (.slice e)) (h : WT P n t ds) : ∃ es m, m < n ∧ ds = [.sl es] ∧ ∀ x ∈ es, WT P m e x := by
  obtain ⟨m, rfl⟩ := wt_pos h
  simp only [WT, ht] at h
  obtain ⟨es, h1, _, h2⟩ := h
  exact ⟨es, m, by omega, h1, fun x hx => (h2 x hx).2⟩
theorem wt_struct {P : Program} {n : Nat} {t : TypeId} {fs : Array Field} {ds : List D} (ht : P.underlying t = some (.struct fs)) (h : WT P n t ds) : ∃ m, m < n ∧ WTF P (WT P m) fs.toList ds := by
  obtain ⟨m, rfl⟩ := wt_pos h
  simp only [WT, ht] at h
  exact ⟨m, by omega, h⟩
theorem list_enc {α : Type} {enc : α → List D} : ∀ {es : List (List D)}, (∀ x ∈ es, ∃ m, x = enc m) → ∃ ms : List α, es = ms.map enc
  | [], _ => ⟨[], rfl⟩
  | e :: es, h => by
    obtain ⟨m, hm⟩ := h e (by simp)
    obtain ⟨ms, hms⟩ := list_enc (es := es) fun x hx => h x (by simp [hx])
    exact ⟨m :: ms, by rw [List.map_cons, ← hm, ← hms]⟩
theorem wtf_fit {P : Program} {W : TypeId → List D → Prop} (hW : ∀ t ds, W t ds → FitL ds) : ∀ (fs : List Field) (ds : List D), WTF P W fs ds → FitL ds
  | [], ds, h => by
    have h : ds = [] := h
    rw [h]; exact fitL_nil
  | f :: fs, ds, h => by
    obtain ⟨a, b, rfl, _, h1, h2⟩ := h
    exact fitL_append.2 ⟨hW _ _ h1, wtf_fit hW fs b h2⟩
theorem wt_fit {P : Program} : ∀ (n : Nat) (t : TypeId) (ds : List D), WT P n t ds → FitL ds
  | 0, t, ds, h => h.elim
  | n + 1, t, ds, h => by
    simp only [WT] at h
    split at h
    · obtain ⟨b, rfl⟩ := h; exact fitL_cons.2 ⟨.b _, fitL_nil⟩
    · obtain ⟨b, rfl, _⟩ := h; exact fitL_cons.2 ⟨.i _ _, fitL_nil⟩
    · obtain ⟨l, rfl, hl⟩ := h; exact fitL_cons.2 ⟨.s _ hl, fitL_nil⟩
    · obtain ⟨es, rfl, hl, hh⟩ := h
      exact fitL_cons.2 ⟨.sl _ hl fun e he d hd => wt_fit n _ e (hh e he).2 d hd, fitL_nil⟩
    · exact wtf_fit (wt_fit n) _ _ h
    · exact h.elim
end Go.Ab
namespace Go.Proofs.YtlmhknhlmicmeaaGreat
open Go Go.Ab
theorem wt_SExpr : ∀ (n : Nat) (ds : List D), WT Tryz.prog n 36 ds → ∃ x : MSExpr, ds = x.enc := by
  intro n
  induction n using Nat.strongRecOn with
  | _ n ih =>
    intro ds h
    obtain ⟨m, hm, h⟩ := wt_struct Tryz.underlying36 h
    simp only [WTF] at h
    obtain ⟨a0, r0, rfl, l0, h0, a1, r1, rfl, l1, h1, rfl⟩ := h
    obtain ⟨x0, rfl⟩ := wt_string Tryz.underlying9 h0
    obtain ⟨es1, m1, hm1, rfl, hs1⟩ := wt_slice Tryz.underlying34 h1
    obtain ⟨x1, rfl⟩ := list_enc (enc := MSExpr.enc) fun y hy => ih m1 (by omega) y (hs1 y hy)
    refine ⟨MSExpr.mk x0 x1, ?_⟩
    rw [MSExpr.enc_eq]
    simp [MSExpr.fAtom, MSExpr.fList]
end Go.Proofs.YtlmhknhlmicmeaaGreat

