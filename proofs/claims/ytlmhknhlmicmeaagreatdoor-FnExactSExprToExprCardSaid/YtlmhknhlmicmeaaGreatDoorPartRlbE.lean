/-
  SEVERAL TEXTS IN ONE (merged by program): contracts and models, each with its own heading.
-/
import Derived.Test.YtlmhknhlmicmeaaGreatDoorPartRlbD
import Derived.Shelf.Strconv.Atoi
import Derived.Shelf.LaysC
import Derived.Shelf.Strconv.AtoiErr
import Derived.Shelf.Strconv.ErrVar
import Derived.Test.YtlmhknhlmicmeaaGreatDoorProg
import Derived.Lib.AppendIntMem
import Derived.Lib.AtoiBound
import Derived.WalkKit
import Derived.ProofKit
import Derived.Lib.AppendZeros
import Derived.Laws.Cover3
set_option linter.unusedSimpArgs false
set_option linter.unusedVariables false
set_option maxRecDepth 4000
set_option maxRecDepth 8000
namespace Go.Ab
theorem sizeOf_drop {α : Type} [SizeOf α] : ∀ (i : Nat) (l : List α), SizeOf.sizeOf (l.drop i) ≤ SizeOf.sizeOf l
  | 0, l => by simp
  | i + 1, [] => by simp
  | i + 1, x :: l => by
    have := sizeOf_drop i l
    rw [List.drop_succ_cons]; simp only [List.cons.sizeOf_spec]; omega
theorem encX_drop (l : List MSExpr) (n i : Nat) (h : l.length ≤ n) : ((l.map MSExpr.enc).take n).drop i = (l.drop i).map MSExpr.enc := by
  rw [List.take_of_length_le (by rw [List.length_map]; exact h), List.map_drop]
theorem szX_getD (l : List MSExpr) (i : Nat) : (l.getD i zeroX).sz ≤ szX l := by
  rw [List.getD_eq_getElem?_getD]
  by_cases h : i < l.length
  · rw [List.getElem?_eq_getElem h]; exact szX_mem (List.getElem_mem h)
  · rw [List.getElem?_eq_none (by omega)]
    rw [Option.getD_none, sx_sz]; simp [zeroX, MSExpr.fAtom, MSExpr.fList, szRows]
theorem sz_fList (x : MSExpr) : x.fList.length + szX x.fList ≤ x.sz := by rw [sx_sz, szX_rows]; omega
theorem sz_fAtom (x : MSExpr) : x.fAtom.length ≤ x.sz := by rw [sx_sz]; omega
def atomRow (x : MSExpr) : List D := [.s x.fAtom]
def allA (l : List MSExpr) : Bool := l.all fun x => decide (x.fAtom ≠ [])
theorem allA_no {l : List MSExpr} {i : Nat} (hi : i < l.length) (h : l[i].fAtom = []) : allA l = false ∧ namesX l = [] := by
  have : allA l = false := by
    unfold allA
    rw [List.all_eq_false]
    exact ⟨_, List.getElem_mem hi, by simp [h]⟩
  refine ⟨this, ?_⟩
  unfold namesX
  unfold allA at this
  rw [this]; rfl
theorem allA_yes {l : List MSExpr} (h : ∀ j (hj : j < l.length), l[j].fAtom ≠ []) : allA l = true ∧ (namesX l).map encS = l.map atomRow := by
  have : allA l = true := by
    unfold allA
    rw [List.all_eq_true]
    intro x hx
    obtain ⟨j, hj, rfl⟩ := List.getElem_of_mem hx
    exact decide_eq_true (h j hj)
  refine ⟨this, ?_⟩
  unfold namesX
  unfold allA at this
  rw [this, if_pos rfl, List.map_map]; rfl
theorem atomRow_snoc {l : List MSExpr} {i : Nat} (hi : i < l.length) : (l.take i).map atomRow ++ [[.s l[i].fAtom]] = (l.take (i + 1)).map atomRow := by
  rw [List.take_succ_eq_append_getElem hi, List.map_append]; rfl
theorem atomRow_len {l : List MSExpr} {i : Nat} : ((l.take i).map atomRow).length ≤ i := by rw [List.length_map]; exact List.length_take_le _ _
def lt (l : List MType) (n : Nat) : List (List D) := labRs (l.map MType.enc) n
def cntTs (l : List MType) : Nat := cntRs (l.map MType.enc)
theorem labT_eq (x : MType) (n : Nat) : labR x.enc n = [.i .i64 x.fKind, .s x.fName, .ol n (lt x.fArgs (n + 1))] := by
  rw [MType.enc_eq]; simp only [labR, labD, cntD, Nat.add_zero, lt]
theorem lt_length (l : List MType) (n : Nat) : (lt l n).length = l.length := by unfold lt; rw [labRs_length, List.length_map]
theorem lt_snoc {l : List MType} {i : Nat} (hi : i < l.length) (n : Nat) : lt (l.take i) n ++ [[.i .i64 l[i].fKind, .s l[i].fName, .ol (n + cntTs (l.take i)) (lt l[i].fArgs (n + cntTs (l.take i) + 1))]] = lt (l.take (i + 1)) n := by
  rw [List.take_succ_eq_append_getElem hi]
  unfold lt cntTs
  rw [List.map_append, labRs_append]
  simp only [List.map_cons, List.map_nil, labRs, labT_eq, lt]
theorem encT_snoc {l : List MType} {i : Nat} (hi : i < l.length) : (l.take i).map MType.enc ++ [[.i .i64 l[i].fKind, .s l[i].fName, .sl (l[i].fArgs.map MType.enc)]] = (l.take (i + 1)).map MType.enc := by
  rw [List.take_succ_eq_append_getElem hi, List.map_append]
  simp only [List.map_cons, List.map_nil, MType.enc_eq]
theorem typ_nil (k : Int) (s : List UInt8) (n : Nat) : Less (.agg [.d (.i .i64 k), .d (.s s), .fsl []]) (.agg [.d (.i .i64 k), .d (.s s), .d (.ol n [])]) := (CellsLe.cons (.refl _) (.cons (.refl _) (.cons (cell_nil_ol n) .nil))).less
theorem typ_fsl (k : Int) (s : List UInt8) (es : List (List D)) : Less (.agg [.d (.i .i64 k), .d (.s s), .fsl es]) (.agg [.d (.i .i64 k), .d (.s s), .d (.sl es)]) := (CellsLe.cons (.refl _) (.cons (.refl _) (.cons (cell_fsl es) .nil))).less
theorem head39 {s : List UInt8} (h : s ≠ []) : ((s.getD 0 0).toNat : Int) = 39 ↔ s.head? = some 39 := by
  cases s with
  | nil => exact (h rfl).elim
  | cons b s =>
    simp only [List.getD_cons_zero, List.head?_cons, Option.some.injEq]
    constructor
    · intro e
      have : b.toNat = 39 := by omega
      exact UInt8.toNat.inj this
    · intro e; rw [e]; rfl
theorem tail_slice (s : List UInt8) (n : Nat) (h : s.length ≤ n) : (s.take n).drop 1 = s.tail := by rw [List.take_of_length_le h, List.drop_one]
abbrev MType.vl (t : MType) (n : Nat) : V := .agg [.d (.i .i64 t.fKind), .d (.s t.fName), .d (.ol n (lt t.fArgs (n + 1)))]
theorem labW_cnt (l : List (List UInt8)) : cntRs (l.map encS) = 0 := by
  induction l with
  | nil => rfl
  | cons s l ih => rw [List.map_cons, cntRs, ih]; rfl
theorem le_T {b : Bool} {x : MSExpr} {r : V} {k : Int} {s : List UInt8} {l : List MType} (h : decT b x = .mk k s l) (hl : Less r (.agg [.d (.i .i64 k), .d (.s s), .d (.sl (l.map MType.enc))])) : Less r (decT b x).v := by rw [h]; exact hl
theorem le_T0 {b : Bool} {x : MSExpr} {k : Int} {s : List UInt8} (h : decT b x = .mk k s []) : Less (.agg [.d (.i .i64 k), .d (.s s), .fsl []]) (decT b x).v := by rw [h]; exact typ_fsl k s []
theorem le_T1 {b : Bool} {x : MSExpr} {k : Int} {s : List UInt8} (h : decT b x = .mk k s []) : Less (.agg [.d (.i .i64 k), .d (.s s), .d (.sl [])]) (decT b x).v := by rw [h]; exact less_refl _
theorem le_lT {b : Bool} {x : MSExpr} {r : V} {n : Nat} {k : Int} {s : List UInt8} {l : List MType} (h : decT b x = .mk k s l) (hl : Less r (.agg [.d (.i .i64 k), .d (.s s), .d (.ol n (lt l (n + 1)))])) : Less r ((decT b x).vl n) := by rw [h]; exact hl
theorem le_lT0 {b : Bool} {x : MSExpr} {n : Nat} {k : Int} {s : List UInt8} (h : decT b x = .mk k s []) : Less (.agg [.d (.i .i64 k), .d (.s s), .fsl []]) ((decT b x).vl n) := by rw [h]; exact typ_nil k s n
theorem le_lT1 {b : Bool} {x : MSExpr} {n : Nat} {k : Int} {s : List UInt8} (h : decT b x = .mk k s []) : Less (.agg [.d (.i .i64 k), .d (.s s), .d (.ol n [])]) ((decT b x).vl n) := by rw [h]; exact less_refl _
theorem head39_take {s : List UInt8} (h : 1 ≤ s.length) : (s.take 1).drop 0 = [39] ↔ s.head? = some 39 := by
  cases s with
  | nil => simp at h
  | cons b s => simp
end Go.Ab
namespace Go.Proofs.YtlmhknhlmicmeaaGreatDoor
open Go Go.Ab
theorem specAtoms_ok (xs : List MSExpr) (hx : xs.length ≤ 1073741824) : PCall Tryz.prog 215 [.c (.d (.sl (xs.map MSExpr.enc)))] (.tup [(false, [.d (.sl ((namesX xs).map encS))]), (false, [.d (.b (allA xs))])]) := PCall.of_le fun S => by
  refine acall_cw (rs := [.tmp 2, .tmp 3]) Tryz.checked.mixed Tryz.func215 Tryz.ntmps215 rfl rfl rfl rfl rfl ?_
  simp -implicitDefEqProofs (disch := omega) only [go_sem]
  (repeat (with_reducible refine And.intro ?_ ?_; focus first | omega | rfl | assumption | exact ⟨_, rfl, rfl⟩ | (simp; omega) | (simp; done)))
  refine aw_tok 4 1 [] rfl (by simp) ?_
  refine loop_at (ι := Nat) Tryz.checked.mixed rfl [0, 4, 5] (fun i => [.c (.d (.sl (xs.map MSExpr.enc))), .c (.tsl (0, 0) ((xs.take i).map atomRow)), .c (.d (.i .i64 i))]) (fun i => [.tok 1 ((xs.take i).map atomRow)] :: S)
    (fun i => i ≤ xs.length ∧ ∀ j, ∀ hj : j < xs.length, j < i → xs[j].fAtom ≠ []) (fun i => xs.length - i) 0 rfl rfl ⟨Nat.zero_le _, fun j _ h => by omega⟩ ?_
  rintro i ⟨p1, p2⟩
  have hl := atomRow_len (l := xs) (i := i)
  simp -implicitDefEqProofs (disch := omega) only [go_sem, MSExpr.enc_eq]
  with_reducible refine split2 (fun hb => ?_) (fun hb => ?_) <;> have h := hb <;> (try simp only [wf_preprocess] at h) <;> simp -implicitDefEqProofs (disch := omega) only [go_sem, hb] <;> (repeat (with_reducible refine And.intro ?_ ?_; focus first | omega | rfl | assumption | exact ⟨_, rfl, rfl⟩ | (simp; omega) | (simp; done)))
  · have hi' : i < xs.length := by omega
    have hs := atomRow_snoc hi'
    (repeat (with_reducible refine And.intro ?_ ?_; focus first | omega | rfl | assumption | exact ⟨_, rfl, rfl⟩ | (simp; omega) | (simp; done)))
    with_reducible refine split2 (fun hb => ?_) (fun hb => ?_) <;> have h := hb <;> (try simp only [wf_preprocess] at h) <;> simp -implicitDefEqProofs (disch := omega) only [go_sem, hb] <;> (repeat (with_reducible refine And.intro ?_ ?_; focus first | omega | rfl | assumption | exact ⟨_, rfl, rfl⟩ | (simp; omega) | (simp; done)))
    · obtain ⟨e1, e2⟩ := allA_no hi' h
      rw [e1, e2]
      exact (CompsLe.cons (.cons (cell_fsl _) .nil) (.refl _)).less
    · (repeat (with_reducible refine And.intro ?_ ?_; focus first | omega | rfl | assumption | exact ⟨_, rfl, rfl⟩ | (simp; omega) | (simp; done)))
      rw [hs]
      refine inv_at (i + 1) (by omega) rfl rfl ⟨by omega, fun j hj hji => ?_⟩
      by_cases e' : j = i
      · subst e'; exact h
      · exact p2 j hj (by omega)
  · have hi' : i = xs.length := by omega
    subst hi'
    obtain ⟨e1, e2⟩ := allA_yes fun j hj => p2 j hj hj
    rw [e1, e2, List.take_length]
    exact less_refl _
theorem l1Min_ok (a b : Int) : PCall Tryz.prog 201 [.c (.d (.i .i64 a)), .c (.d (.i .i64 b))] (.c (.d (.i .i64 (min a b)))) := fun S => by
  refine acall_cw (rs := [.tmp 4]) Tryz.checked.mixed Tryz.func201 Tryz.ntmps201 rfl rfl rfl rfl rfl ?_
  simp -implicitDefEqProofs (disch := omega) only [go_sem]
  with_reducible refine split2 (fun hb => ?_) (fun hb => ?_) <;> have h := hb <;> (try simp only [wf_preprocess] at h) <;> simp -implicitDefEqProofs (disch := omega) only [go_sem, hb] <;> (repeat (with_reducible refine And.intro ?_ ?_; focus first | omega | rfl | assumption | exact ⟨_, rfl, rfl⟩ | (simp; omega) | (simp; done)))
  · exact int_eq (by omega)
  · exact int_eq (by omega)
theorem specCon_ok (s : List UInt8) : PCall Tryz.prog 217 [.c (.d (.s s)), .c (.d (.sl []))] (.agg [.d (.i .i64 2), .d (.s s), .d (.sl [])]) := PCall.of_le fun S => by
  refine acall_cw (rs := [.cell 4 57]) Tryz.checked.mixed Tryz.func217 Tryz.ntmps217 rfl rfl rfl rfl rfl ?_
  simp -implicitDefEqProofs (disch := omega) only [go_sem]
  (repeat (with_reducible refine And.intro ?_ ?_; focus first | omega | rfl | assumption | exact ⟨_, rfl, rfl⟩ | (simp; omega) | (simp; done)))
  exact less_refl _
theorem specVar_ok (s : List UInt8) : PCall Tryz.prog 216 [.c (.d (.s s))] (.agg [.d (.i .i64 1), .d (.s s), .d (.sl [])]) := PCall.of_le fun S => by
  refine acall_cw (rs := [.cell 2 57]) Tryz.checked.mixed Tryz.func216 Tryz.ntmps216 rfl rfl rfl rfl rfl ?_
  simp -implicitDefEqProofs (disch := omega) only [go_sem]
  (repeat (with_reducible refine And.intro ?_ ?_; focus first | omega | rfl | assumption | exact ⟨_, rfl, rfl⟩ | (simp; omega) | (simp; done)))
  exact typ_fsl _ _ _
theorem specDecTy_all : ∀ N : Nat, (∀ x : MSExpr, SizeOf.sizeOf x < N → x.sz ≤ 4194304 → PCall Tryz.prog 122 [x.v] (decT false x).v)
  | 0 => fun x h => by omega
  | N + 1 => by
    have ih := specDecTy_all N
    intro x hn hsz
    have lArgs := MSExpr.lt_List x
    have h1 := sz_fList x
    have h2 := sz_fAtom x
    have hx := decT_eq false x
    have hall : ∀ t ∈ x.fList, t.sz ≤ 4194304 := fun t ht => by have := szX_mem ht; omega
    refine PCall.of_le fun S => ?_
    refine acall_cw (rs := [.cell 2 57]) Tryz.checked.mixed Tryz.func122 Tryz.ntmps122 rfl rfl rfl rfl rfl ?_
    simp -implicitDefEqProofs (disch := omega) only [go_sem]
    with_reducible refine split2 (fun hb => ?_) (fun hb => ?_) <;> have h := hb <;> (try simp only [wf_preprocess] at h) <;> simp -implicitDefEqProofs (disch := omega) only [go_sem, hb] <;> (repeat (with_reducible refine And.intro ?_ ?_; focus first | omega | rfl | assumption | exact ⟨_, rfl, rfl⟩ | (simp; omega) | (simp; done)))
    · have hne := h
      rw [if_neg h] at hx
      have h39 := head39 h
      have hln : 0 < x.fAtom.length := List.length_pos_iff.2 hne
      have hsl := tail_slice x.fAtom x.fAtom.length (Nat.le_refl _)
      (repeat (with_reducible refine And.intro ?_ ?_; focus first | omega | rfl | assumption | exact ⟨_, rfl, rfl⟩ | (simp; omega) | (simp; done)))
      with_reducible refine split2 (fun hb => ?_) (fun hb => ?_) <;> have h := hb <;> (try simp only [wf_preprocess] at h) <;> simp -implicitDefEqProofs (disch := omega) only [go_sem, hb] <;> (repeat (with_reducible refine And.intro ?_ ?_; focus first | omega | rfl | assumption | exact ⟨_, rfl, rfl⟩ | (simp; omega) | (simp; done)))
      · rw [if_pos (h39.1 h)] at hx
        (repeat (with_reducible refine And.intro ?_ ?_; focus first | omega | rfl | assumption | exact ⟨_, rfl, rfl⟩ | (simp; omega) | (simp; done)))
        rw [hsl]
        refine call_w (specVar_ok _) ?_
        simp -implicitDefEqProofs (disch := omega) only [go_sem]
        exact le_T1 hx
      · rw [if_neg (fun e => h (h39.2 e))] at hx
        refine call_w (specCon_ok _) ?_
        simp -implicitDefEqProofs (disch := omega) only [go_sem]
        exact le_T1 hx
    rw [if_pos h] at hx
    with_reducible refine split2 (fun hb => ?_) (fun hb => ?_) <;> have h := hb <;> (try simp only [wf_preprocess] at h) <;> simp -implicitDefEqProofs (disch := omega) only [go_sem, hb] <;> (repeat (with_reducible refine And.intro ?_ ?_; focus first | omega | rfl | assumption | exact ⟨_, rfl, rfl⟩ | (simp; omega) | (simp; done)))
    · rw [if_pos (by omega)] at hx
      exact le_T0 hx
    rw [if_neg (by omega)] at hx
    have hl2 : 2 ≤ x.fList.length := by omega
    have a0 := atA_get (l := x.fList) (i := 0) (by omega)
    have a1 := atA_get (l := x.fList) (i := 1) (by omega)
    obtain ⟨T, hT⟩ : ∃ T : Nat → List (List D), T = fun i => (((x.fList.map (decT false)).drop 1).take i).map MType.enc := ⟨_, rfl⟩
    have hT0 : T 0 = [] := by rw [hT]; rfl
    have hTl : ∀ i, (T i).length ≤ i := fun i => by rw [hT]; simp only [List.length_map]; exact List.length_take_le _ _
    have hTr : ∀ i, ∀ r ∈ T i, r.length = 3 := fun i => by
      rw [hT]; intro r hr
      obtain ⟨z, _, rfl⟩ := List.mem_map.1 hr
      exact z.enc_length
    have hTs : ∀ i (hi : i + 1 < x.fList.length), T i ++ [[.i .i64 (decT false x.fList[i + 1]).fKind, .s (decT false x.fList[i + 1]).fName, .sl ((decT false x.fList[i + 1]).fArgs.map MType.enc)]] = T (i + 1) := fun i hi => by
      have := encT_snoc (l := (x.fList.map (decT false)).drop 1) (i := i) (by rw [List.length_drop, List.length_map]; omega)
      rw [List.getElem_drop, List.getElem_map] at this
      rw [hT]; simp only [Nat.add_comm 1 i] at this ⊢; exact this
    have hTe : T (x.fList.length - 1) = ((x.fList.map (decT false)).drop 1).map MType.enc := by
      rw [hT]; simp only
      rw [List.take_of_length_le (by simp)]
    have hTn : (T (x.fList.length - 1)).length = x.fList.length - 1 := by rw [hTe]; simp
    have hTd : (T (x.fList.length - 1)).drop 1 = ((x.fList.map (decT false)).drop 2).map MType.enc := by rw [hTe, ← List.map_drop, List.drop_drop]
    clear hT
    (repeat (with_reducible refine And.intro ?_ ?_; focus first | omega | rfl | assumption | exact ⟨_, rfl, rfl⟩ | (simp; omega) | (simp; done)))
    refine aw_tok 4 3 [] rfl (by simp) ?_
    refine loop_at (ι := Nat) Tryz.checked.mixed rfl [1, 2, 3, 4, 5] (fun i => [.c (.ptr (0, 0) 0), .c (.ptr (0, 1) 0), .c (.d (.s x.fList[0].fAtom)), .c (.tsl (0, 2) (T i)), .c (.d (.i .i64 ((i + 1 : Nat) : Int)))])
      (fun i => [.box [.d (.s x.fAtom), .d (.sl (x.fList.map MSExpr.enc))], .box [.d (.i .i64 0), .d (.s []), .fsl []], .tok 3 (T i)] :: S)
      (fun i => i + 1 ≤ x.fList.length) (fun i => x.fList.length - (i + 1)) 0 (by rw [hT0]; rfl) (by rw [hT0]; rfl) (by omega) ?_
    intro i hi
    have hl := hTl i
    simp -implicitDefEqProofs (disch := omega) only [go_sem]
    with_reducible refine split2 (fun hb => ?_) (fun hb => ?_) <;> have h := hb <;> (try simp only [wf_preprocess] at h) <;> simp -implicitDefEqProofs (disch := omega) only [go_sem, hb] <;> (repeat (with_reducible refine And.intro ?_ ?_; focus first | omega | rfl | assumption | exact ⟨_, rfl, rfl⟩ | (simp; omega) | (simp; done)))
    · have hi' : i + 1 < x.fList.length := by omega
      have hm := List.getElem_mem hi'
      have hs := hTs i hi'
      (repeat (with_reducible refine And.intro ?_ ?_; focus first | omega | rfl | assumption | exact ⟨_, rfl, rfl⟩ | (simp; omega) | (simp; done)))
      refine call_w (ih x.fList[i + 1] (by have := List.sizeOf_lt_of_mem hm; omega) (hall _ hm)) ?_
      simp -implicitDefEqProofs (disch := omega) only [go_sem, MType.enc_eq]
      (repeat (with_reducible refine And.intro ?_ ?_; focus first | omega | rfl | assumption | exact ⟨_, rfl, rfl⟩ | (simp; omega) | (simp; done)))
      rw [hs]
      exact inv_at (i + 1) (by omega) rfl rfl (by omega)
    have hi' : i = x.fList.length - 1 := by omega
    subst hi'
    have hrows := hTr (x.fList.length - 1)
    have hta : ((T (x.fList.length - 1)).take (x.fList.length - 1)) = T (x.fList.length - 1) := List.take_of_length_le (by omega)
    rw [a0, a1] at hx
    have tD : x.fList[0].fAtom = [100, 121, 110] ∧ x.fList.length = 2 ∧ x.fList[1].fAtom ≠ [] → decT false x = .mk 4 x.fList[1].fAtom [] := fun e => hx.trans (if_pos ⟨e.1, .inr e.2⟩)
    have tA : x.fList[0].fAtom = [97, 115, 115, 111, 99] ∧ x.fList.length = 3 ∧ x.fList[1].fAtom ≠ [] → decT false x = .mk 3 x.fList[1].fAtom ((x.fList.map (decT false)).drop 2) := fun e => by
      rw [hx, if_neg (fun e' => by have := e'.1.symm.trans e.1; revert this; decide), if_pos ⟨e.1, .inr e.2⟩]
    have tN : ¬ (x.fList[0].fAtom = [100, 121, 110] ∧ x.fList.length = 2 ∧ x.fList[1].fAtom ≠ []) → ¬ (x.fList[0].fAtom = [97, 115, 115, 111, 99] ∧ x.fList.length = 3 ∧ x.fList[1].fAtom ≠ []) → decT false x = .mk 2 x.fList[0].fAtom ((x.fList.map (decT false)).drop 1) := fun e1 e2 => by
      rw [hx, if_neg (fun e' => e1 ⟨e'.1, e'.2.resolve_left (by decide)⟩), if_neg (fun e' => e2 ⟨e'.1, e'.2.resolve_left (by decide)⟩)]
    clear hx hTs ih
    repeat' (first | (with_reducible refine split2 (fun hb => ?_) (fun hb => ?_) <;> have h := hb <;> (try simp only [wf_preprocess] at h) <;> simp -implicitDefEqProofs (disch := omega) only [go_sem, hb] <;> (repeat (with_reducible refine And.intro ?_ ?_; focus first | omega | rfl | assumption | exact ⟨_, rfl, rfl⟩ | (simp; omega) | (simp; done)))))
    all_goals first
      | (refine ⟨⟨by omega, by omega, hrows⟩, ?_⟩; refine le_T (tA ⟨by assumption, by omega, by assumption⟩) ?_; rw [hTn, hta, hTd]; exact less_refl _)
      | exact le_T0 (tD ⟨by assumption, by omega, by assumption⟩)
      | (refine le_T (tN (fun ⟨a, b, c⟩ => by first | contradiction | omega) (fun ⟨a, b, c⟩ => by first | contradiction | omega)) ?_; rw [hTe]; exact less_refl _)
      | trace_state
theorem specDecTy_ok (x : MSExpr) (hsz : x.sz ≤ 4194304) : PCall Tryz.prog 122 [x.v] (decT false x).v := specDecTy_all _ x (Nat.lt_succ_self _) hsz
theorem stlHasPrefix_ok (s : List UInt8) (hs : s.length ≤ 1073741824) : PCall Tryz.prog 332 [.c (.d (.s s)), .c (.d (.s [39]))] (.c (.d (.b (decide (s.head? = some 39))))) := fun S => by
  refine acall_cw (rs := [.tmp 4]) Tryz.checked.mixed Tryz.func332 Tryz.ntmps332 rfl rfl rfl rfl rfl ?_
  simp -implicitDefEqProofs (disch := omega) only [go_sem]
  with_reducible refine split2 (fun hb => ?_) (fun hb => ?_) <;> have h := hb <;> (try simp only [wf_preprocess] at h) <;> simp -implicitDefEqProofs (disch := omega) only [go_sem, hb] <;> (repeat (with_reducible refine And.intro ?_ ?_; focus first | omega | rfl | assumption | exact ⟨_, rfl, rfl⟩ | (simp; omega) | (simp; done)))
  · exact bool_eq (decide_eq_decide.2 (head39_take (by omega)))
  · have : s = [] := List.eq_nil_of_length_eq_zero (by omega)
    subst this
    rfl
theorem stlCutPrefix_ok (s : List UInt8) (hs : s.length ≤ 1073741824) : PCall Tryz.prog 289 [.c (.d (.s s)), .c (.d (.s [39]))] (.tup [(false, [.d (.s (if s.head? = some 39 then s.tail else s))]), (false, [.d (.b (decide (s.head? = some 39)))])]) := fun S => by
  refine acall_cw (rs := [.tmp 4, .tmp 5]) Tryz.checked.mixed Tryz.func289 Tryz.ntmps289 rfl rfl rfl rfl rfl ?_
  simp -implicitDefEqProofs (disch := omega) only [go_sem]
  refine call_w (stlHasPrefix_ok s hs) ?_
  simp -implicitDefEqProofs (disch := omega) only [go_sem]
  with_reducible refine split2 (fun hb => ?_) (fun hb => ?_) <;> have h := hb <;> (try simp only [wf_preprocess] at h) <;> simp -implicitDefEqProofs (disch := omega) only [go_sem, hb] <;> (repeat (with_reducible refine And.intro ?_ ?_; focus first | omega | rfl | assumption | exact ⟨_, rfl, rfl⟩ | (simp; omega) | (simp; done)))
  · rw [if_neg h, decide_eq_false h]
  · have hl : 0 < s.length := by
      cases s with
      | nil => cases h
      | cons _ _ => simp
    (repeat (with_reducible refine And.intro ?_ ?_; focus first | omega | rfl | assumption | exact ⟨_, rfl, rfl⟩ | (simp; omega) | (simp; done)))
    rw [if_pos h, decide_eq_true h, tail_slice _ _ (Nat.le_refl _)]
theorem cutPrefix_ok (s : List UInt8) (hs : s.length ≤ 1073741824) : PCall Tryz.prog 219 [.c (.d (.s s)), .c (.d (.s [39]))] (.tup [(false, [.d (.s (if s.head? = some 39 then s.tail else s))]), (false, [.d (.b (decide (s.head? = some 39)))])]) := fun S => by
  refine acall_cw (rs := [.tmp 4, .tmp 5]) Tryz.checked.mixed Tryz.func219 Tryz.ntmps219 rfl rfl rfl rfl rfl ?_
  simp -implicitDefEqProofs (disch := omega) only [go_sem]
  refine call_w (stlCutPrefix_ok s hs) ?_
  simp -implicitDefEqProofs (disch := omega) only [go_sem]
theorem implNamesOf_lab (xs : List MSExpr) (hx : xs.length ≤ 1073741824) (n : Nat) : PCall Tryz.prog 218 [.c (.d (.sl (xs.map MSExpr.enc)))] (.tup [(false, [.d (.ol n ((namesX xs).map encS))]), (false, [.d (.b (allA xs))])]) := PCall.of_le fun S => by
  refine acall_cwL (n) (rs := [.tmp 2, .tmp 3]) Tryz.checked.mixed Tryz.func218 Tryz.ntmps218 rfl rfl rfl rfl rfl ?_
  simp -implicitDefEqProofs (disch := omega) only [go_sem]
  (repeat (with_reducible refine And.intro ?_ ?_; focus first | omega | rfl | assumption | exact ⟨_, rfl, rfl⟩ | (simp; omega) | (simp; done)))
  refine aw_ltok n 4 1 [] (.inl rfl) (by simp) ?_
  refine loop_at (ι := Nat) Tryz.checked.mixed rfl [4, 8, 9, 10] (fun i => [.c (.tsl (0, 1) ((xs.take i).map atomRow)), .c (.d (.sl (xs.map MSExpr.enc))), .c (.d (.i .i64 xs.length)), .c (.d (.i .i64 i))]) (fun i => [.seed n, .ltok n 1 ((xs.take i).map atomRow)] :: S)
    (fun i => i ≤ xs.length ∧ ∀ j, ∀ hj : j < xs.length, j < i → xs[j].fAtom ≠ []) (fun i => xs.length - i) 0 rfl rfl ⟨Nat.zero_le _, fun j _ h => by omega⟩ ?_
  rintro i ⟨p1, p2⟩
  have hl := atomRow_len (l := xs) (i := i)
  simp -implicitDefEqProofs (disch := omega) only [go_sem, MSExpr.enc_eq]
  with_reducible refine split2 (fun hb => ?_) (fun hb => ?_) <;> have h := hb <;> (try simp only [wf_preprocess] at h) <;> simp -implicitDefEqProofs (disch := omega) only [go_sem, hb] <;> (repeat (with_reducible refine And.intro ?_ ?_; focus first | omega | rfl | assumption | exact ⟨_, rfl, rfl⟩ | (simp; omega) | (simp; done)))
  · have hi' : i < xs.length := by omega
    have hs := atomRow_snoc hi'
    (repeat (with_reducible refine And.intro ?_ ?_; focus first | omega | rfl | assumption | exact ⟨_, rfl, rfl⟩ | (simp; omega) | (simp; done)))
    with_reducible refine split2 (fun hb => ?_) (fun hb => ?_) <;> have h := hb <;> (try simp only [wf_preprocess] at h) <;> simp -implicitDefEqProofs (disch := omega) only [go_sem, hb] <;> (repeat (with_reducible refine And.intro ?_ ?_; focus first | omega | rfl | assumption | exact ⟨_, rfl, rfl⟩ | (simp; omega) | (simp; done)))
    · obtain ⟨e1, e2⟩ := allA_no hi' h
      rw [e1, e2]
      exact (CompsLe.cons (.cons (cell_nil_ol n) .nil) (.refl _)).less
    · (repeat (with_reducible refine And.intro ?_ ?_; focus first | omega | rfl | assumption | exact ⟨_, rfl, rfl⟩ | (simp; omega) | (simp; done)))
      rw [hs]
      refine inv_drop 2 (by decide) (i + 1) (by omega) rfl rfl rfl rfl ⟨by omega, fun j hj hji => ?_⟩
      by_cases e' : j = i
      · subst e'; exact h
      · exact p2 j hj (by omega)
  · have hi' : i = xs.length := by omega
    subst hi'
    obtain ⟨e1, e2⟩ := allA_yes fun j hj => p2 j hj hj
    rw [e1, e2, List.take_length]
    exact less_refl _
theorem implVar_lab (s : List UInt8) (n : Nat) : PCall Tryz.prog 220 [.c (.d (.s s))] (.agg [.d (.i .i64 1), .d (.s s), .d (.ol n [])]) := PCall.of_le fun S => by
  refine acall_cw (rs := [.cell 2 57]) Tryz.checked.mixed Tryz.func220 Tryz.ntmps220 rfl rfl rfl rfl rfl ?_
  simp -implicitDefEqProofs (disch := omega) only [go_sem]
  (repeat (with_reducible refine And.intro ?_ ?_; focus first | omega | rfl | assumption | exact ⟨_, rfl, rfl⟩ | (simp; omega) | (simp; done)))
  exact typ_nil _ _ _
theorem implDyn_lab (s : List UInt8) (n : Nat) : PCall Tryz.prog 221 [.c (.d (.s s))] (.agg [.d (.i .i64 4), .d (.s s), .d (.ol n [])]) := PCall.of_le fun S => by
  refine acall_cw (rs := [.cell 2 57]) Tryz.checked.mixed Tryz.func221 Tryz.ntmps221 rfl rfl rfl rfl rfl ?_
  simp -implicitDefEqProofs (disch := omega) only [go_sem]
  (repeat (with_reducible refine And.intro ?_ ?_; focus first | omega | rfl | assumption | exact ⟨_, rfl, rfl⟩ | (simp; omega) | (simp; done)))
  exact typ_nil _ _ _
theorem implDecTy_all : ∀ N : Nat, (∀ x : MSExpr, SizeOf.sizeOf x < N → ∀ n : Nat, x.sz ≤ 4194304 → PCall Tryz.prog 126 [x.v] ((decT true x).vl n)) ∧
    (∀ xs : List MSExpr, SizeOf.sizeOf xs < N → ∀ n q : Nat, xs.length ≤ 4194304 → (∀ t ∈ xs, t.sz ≤ 4194304) → PCall Tryz.prog 222 [.c (.d (.sl (xs.map MSExpr.enc)))] (.c (.d (.ol n (lt (xs.map (decT true)) q)))))
  | 0 => ⟨fun x h => by omega, fun x h => by omega⟩
  | N + 1 => by
    obtain ⟨ih, ihS⟩ := implDecTy_all N
    refine ⟨fun x hn n hsz => PCall.of_le fun S => ?_, fun xs hn n q hlen hsz S => ?_⟩
    · have lArgs := MSExpr.lt_List x
      have h1 := sz_fList x
      have h2 := sz_fAtom x
      have hx := decT_eq true x
      have hall : ∀ t ∈ x.fList, t.sz ≤ 4194304 := fun t ht => by have := szX_mem ht; omega
      refine acall_cw (rs := [.cell 2 57]) Tryz.checked.mixed Tryz.func126 Tryz.ntmps126 rfl rfl rfl rfl rfl ?_
      simp -implicitDefEqProofs (disch := omega) only [go_sem]
      with_reducible refine split2 (fun hb => ?_) (fun hb => ?_) <;> have h := hb <;> (try simp only [wf_preprocess] at h) <;> simp -implicitDefEqProofs (disch := omega) only [go_sem, hb] <;> (repeat (with_reducible refine And.intro ?_ ?_; focus first | omega | rfl | assumption | exact ⟨_, rfl, rfl⟩ | (simp; omega) | (simp; done)))
      · rw [if_neg h] at hx
        refine call_w (cutPrefix_ok x.fAtom (by omega)) ?_
        simp -implicitDefEqProofs (disch := omega) only [go_sem]
        with_reducible refine split2 (fun hb => ?_) (fun hb => ?_) <;> have h := hb <;> (try simp only [wf_preprocess] at h) <;> simp -implicitDefEqProofs (disch := omega) only [go_sem, hb] <;> (repeat (with_reducible refine And.intro ?_ ?_; focus first | omega | rfl | assumption | exact ⟨_, rfl, rfl⟩ | (simp; omega) | (simp; done)))
        · rw [if_pos h] at hx ⊢
          refine call_w (implVar_lab _ n) ?_
          simp -implicitDefEqProofs (disch := omega) only [go_sem]
          exact le_lT1 hx
        · rw [if_neg h] at hx
          (repeat (with_reducible refine And.intro ?_ ?_; focus first | omega | rfl | assumption | exact ⟨_, rfl, rfl⟩ | (simp; omega) | (simp; done)))
          exact le_lT0 hx
      rw [if_pos h] at hx
      with_reducible refine split2 (fun hb => ?_) (fun hb => ?_) <;> have h := hb <;> (try simp only [wf_preprocess] at h) <;> simp -implicitDefEqProofs (disch := omega) only [go_sem, hb] <;> (repeat (with_reducible refine And.intro ?_ ?_; focus first | omega | rfl | assumption | exact ⟨_, rfl, rfl⟩ | (simp; omega) | (simp; done)))
      · rw [if_pos (by omega)] at hx
        exact le_lT0 hx
      rw [if_neg (by omega)] at hx
      have hl2 : 2 ≤ x.fList.length := by omega
      have a0 := atA_get (l := x.fList) (i := 0) (by omega)
      have a1 := atA_get (l := x.fList) (i := 1) (by omega)
      rw [a0, a1] at hx
      have hr := enc_rows (l := x.fList)
      have hd := fun i => encX_drop x.fList x.fList.length i (Nat.le_refl _)
      have hso := fun i => sizeOf_drop i x.fList
      have hdl : ∀ i, (x.fList.drop i).length ≤ 4194304 := fun i => by rw [List.length_drop]; omega
      have hda : ∀ i, ∀ t ∈ x.fList.drop i, t.sz ≤ 4194304 := fun i t ht => hall t (List.mem_of_mem_drop ht)
      (repeat (with_reducible refine And.intro ?_ ?_; focus first | omega | rfl | assumption | exact ⟨_, rfl, rfl⟩ | (simp; omega) | (simp; done)))
      with_reducible refine split2 (fun hb => ?_) (fun hb => ?_) <;> have h := hb <;> (try simp only [wf_preprocess] at h) <;> simp -implicitDefEqProofs (disch := omega) only [go_sem, hb] <;> (repeat (with_reducible refine And.intro ?_ ?_; focus first | omega | rfl | assumption | exact ⟨_, rfl, rfl⟩ | (simp; omega) | (simp; done)))
      · have hx := hx.trans (if_pos ⟨h, .inl rfl⟩)
        (repeat (with_reducible refine And.intro ?_ ?_; focus first | omega | rfl | assumption | exact ⟨_, rfl, rfl⟩ | (simp; omega) | (simp; done)))
        refine call_w (implDyn_lab _ n) ?_
        simp -implicitDefEqProofs (disch := omega) only [go_sem]
        exact le_lT1 hx
      have hx := hx.trans (if_neg fun e => h e.1)
      with_reducible refine split2 (fun hb => ?_) (fun hb => ?_) <;> have h := hb <;> (try simp only [wf_preprocess] at h) <;> simp -implicitDefEqProofs (disch := omega) only [go_sem, hb] <;> (repeat (with_reducible refine And.intro ?_ ?_; focus first | omega | rfl | assumption | exact ⟨_, rfl, rfl⟩ | (simp; omega) | (simp; done)))
      · have hx := hx.trans (if_pos ⟨h, .inl rfl⟩)
        refine ⟨⟨by omega, by omega, hr⟩, ?_⟩
        rw [hd]
        refine call_w (ihS (x.fList.drop 2) (by have := hso 2; omega) n (n + 1) (hdl 2) (hda 2)) ?_
        simp -implicitDefEqProofs (disch := omega) only [go_sem]
        refine le_lT hx ?_
        rw [List.map_drop]
        exact less_refl _
      · have hx := hx.trans (if_neg fun e => h e.1)
        refine ⟨⟨by omega, by omega, hr⟩, ?_⟩
        rw [hd]
        refine call_w (ihS (x.fList.drop 1) (by have := hso 1; omega) n (n + 1) (hdl 1) (hda 1)) ?_
        simp -implicitDefEqProofs (disch := omega) only [go_sem]
        refine le_lT hx ?_
        rw [List.map_drop]
        exact less_refl _
    · have hsnoc := fun (i : Nat) (hi : i < xs.length) => lt_snoc (l := xs.map (decT true)) (i := i) (by rw [List.length_map]; exact hi) q
      refine acall_cwL (n) (rs := [.tmp 2]) Tryz.checked.mixed Tryz.func222 Tryz.ntmps222 rfl rfl rfl rfl rfl ?_
      simp -implicitDefEqProofs (disch := omega) only [go_sem]
      (repeat (with_reducible refine And.intro ?_ ?_; focus first | omega | rfl | assumption | exact ⟨_, rfl, rfl⟩ | (simp; omega) | (simp; done)))
      refine aw_ltok n 3 3 [] (.inl rfl) (by simp) ?_
      refine loop_at (ι := Nat) Tryz.checked.mixed rfl [3, 7, 8, 9] (fun i => [.c (.tsl (0, 1) (lt ((xs.map (decT true)).take i) q)), .c (.d (.sl (xs.map MSExpr.enc))), .c (.d (.i .i64 xs.length)), .c (.d (.i .i64 i))]) (fun i => [.seed n, .ltok n 3 (lt ((xs.map (decT true)).take i) q)] :: S)
        (fun i => i ≤ xs.length) (fun i => xs.length - i) 0 rfl rfl (Nat.zero_le _) ?_
      intro i hi
      simp -implicitDefEqProofs (disch := omega) only [go_sem, MSExpr.enc_eq]
      with_reducible refine split2 (fun hb => ?_) (fun hb => ?_) <;> have h := hb <;> (try simp only [wf_preprocess] at h) <;> simp -implicitDefEqProofs (disch := omega) only [go_sem, hb] <;> (repeat (with_reducible refine And.intro ?_ ?_; focus first | omega | rfl | assumption | exact ⟨_, rfl, rfl⟩ | (simp; omega) | (simp; done)))
      · have hi' : i < xs.length := by omega
        have hs := hsnoc i hi'
        rw [List.getElem_map] at hs
        have hl : (lt ((xs.map (decT true)).take i) q).length ≤ i := by rw [lt_length]; exact List.length_take_le _ _
        (repeat (with_reducible refine And.intro ?_ ?_; focus first | omega | rfl | assumption | exact ⟨_, rfl, rfl⟩ | (simp; omega) | (simp; done)))
        refine call_w (ih xs[i] (by have := List.sizeOf_lt_of_mem (List.getElem_mem hi'); omega) (q + cntTs ((xs.map (decT true)).take i)) (hsz _ (List.getElem_mem hi'))) ?_
        simp -implicitDefEqProofs (disch := omega) only [go_sem]
        (repeat (with_reducible refine And.intro ?_ ?_; focus first | omega | rfl | assumption | exact ⟨_, rfl, rfl⟩ | (simp; omega) | (simp; done)))
        rw [hs]
        exact inv_drop 2 (by decide) (i + 1) (by omega) rfl rfl rfl rfl (by omega)
      · have hi' : i = (xs.map (decT true)).length := by rw [List.length_map]; omega
        rw [hi', List.take_length]
theorem implDecTy_lab (x : MSExpr) (n : Nat) (hsz : x.sz ≤ 4194304) : PCall Tryz.prog 126 [x.v] ((decT true x).vl n) := (implDecTy_all _).1 x (Nat.lt_succ_self _) n hsz
end Go.Proofs.YtlmhknhlmicmeaaGreatDoor

namespace Go.Ab
theorem decE_eq (b : Bool) (x : MSExpr) : decE b x = if x.fAtom = [] then
      if b = true ∧ (x.fList.length < 2 ∨ atA x.fList 0 = wMethod ∧ x.fList.length < 3) then zeroEx
      else if atA x.fList 0 = wCall then .mk 4 [] (atA x.fList 1) 0 tyZ ((x.fList.map (decE b)).drop 2) []
      else if atA x.fList 0 = wNew then .mk 6 [] (atA x.fList 1) 0 tyZ ((x.fList.map (decE b)).drop 2) []
      else if atA x.fList 0 = wLet then .mk 8 [] (atA x.fList 1) 0 tyZ ((x.fList.map (decE b)).drop 2) []
      else if atA x.fList 0 = wPack then .mk 11 (atA x.fList 1) [] 0 tyZ ((x.fList.map (decE b)).drop 2) []
      else if atA x.fList 0 = wMethod then .mk 5 (atA x.fList 1) (atA x.fList 2) 0 tyZ ((x.fList.map (decE b)).drop 3) []
      else if atA x.fList 0 = wIf then .mk 9 [] [] 0 tyZ ((x.fList.map (decE b)).drop 1) []
      else if atA x.fList 0 = wThe then .mk 12 [] [] 0 (decT b (x.fList.getD 1 zeroX)) ((x.fList.map (decE b)).drop 2) []
      else if atA x.fList 0 = wCase then .mk 7 [] [] 0 tyZ (((x.fList.map (decE b)).drop 1).take 1) ((x.fList.map (decM b)).drop 2)
      else .mk 10 [] (atA x.fList 0) 0 tyZ ((x.fList.map (decE b)).drop 1) []
    else match readI x.fAtom with
      | some n => .mk 1 [] [] n tyZ [] []
      | none => if x.fAtom = wTrue then .mk 2 [] [] 1 tyZ [] [] else if x.fAtom = wFalse then .mk 2 [] [] 0 tyZ [] [] else .mk 3 [] x.fAtom 0 tyZ [] [] := by
  cases x; rw [decE, decEs_map, decMs_map]; rfl
theorem decM_eq (b : Bool) (x : MSExpr) (h : 2 ≤ x.fList.length) : decM b x = .mk (atA x.fList 0) (namesX ((x.fList.drop 1).dropLast)) (decE b (x.fList[x.fList.length - 1]'(by omega))) := by
  obtain ⟨a, l⟩ := x
  simp only [MSExpr.fList] at h ⊢
  rw [decM, if_neg (by omega), decEs_map]
  congr 1
  rw [List.getLastD_eq_getLast?, List.getLast?_eq_getElem?, List.length_map, List.getElem?_eq_getElem (by rw [List.length_map]; omega)]
  simp
theorem decM_no (b : Bool) (x : MSExpr) (h : x.fList.length < 2) : decM b x = .mk [] [] zeroEx := by
  obtain ⟨a, l⟩ := x
  rw [decM]
  exact if_pos h
def goodL (b : Bool) (l : List MSExpr) : Prop := ¬ (b = true ∧ (l.length < 2 ∨ atA l 0 = wMethod ∧ l.length < 3))
theorem decE_Call {b : Bool} {x : MSExpr} (ha : x.fAtom = []) (hg : goodL b x.fList) (h : atA x.fList 0 = wCall) : decE b x = .mk 4 [] (atA x.fList 1) 0 tyZ ((x.fList.drop 2).map (decE b)) [] := by
  rw [decE_eq, if_pos ha, if_neg hg, if_pos h]
  simp only [List.map_drop, List.map_take]
theorem decE_New {b : Bool} {x : MSExpr} (ha : x.fAtom = []) (hg : goodL b x.fList) (h : atA x.fList 0 = wNew) : decE b x = .mk 6 [] (atA x.fList 1) 0 tyZ ((x.fList.drop 2).map (decE b)) [] := by
  rw [decE_eq, if_pos ha, if_neg hg, if_neg (by rw [h]; decide), if_pos h]
  simp only [List.map_drop, List.map_take]
theorem decE_Let {b : Bool} {x : MSExpr} (ha : x.fAtom = []) (hg : goodL b x.fList) (h : atA x.fList 0 = wLet) : decE b x = .mk 8 [] (atA x.fList 1) 0 tyZ ((x.fList.drop 2).map (decE b)) [] := by
  rw [decE_eq, if_pos ha, if_neg hg, if_neg (by rw [h]; decide), if_neg (by rw [h]; decide), if_pos h]
  simp only [List.map_drop, List.map_take]
theorem decE_Pack {b : Bool} {x : MSExpr} (ha : x.fAtom = []) (hg : goodL b x.fList) (h : atA x.fList 0 = wPack) : decE b x = .mk 11 (atA x.fList 1) [] 0 tyZ ((x.fList.drop 2).map (decE b)) [] := by
  rw [decE_eq, if_pos ha, if_neg hg, if_neg (by rw [h]; decide), if_neg (by rw [h]; decide), if_neg (by rw [h]; decide), if_pos h]
  simp only [List.map_drop, List.map_take]
theorem decE_Method {b : Bool} {x : MSExpr} (ha : x.fAtom = []) (hg : goodL b x.fList) (h : atA x.fList 0 = wMethod) : decE b x = .mk 5 (atA x.fList 1) (atA x.fList 2) 0 tyZ ((x.fList.drop 3).map (decE b)) [] := by
  rw [decE_eq, if_pos ha, if_neg hg, if_neg (by rw [h]; decide), if_neg (by rw [h]; decide), if_neg (by rw [h]; decide), if_neg (by rw [h]; decide), if_pos h]
  simp only [List.map_drop, List.map_take]
theorem decE_If {b : Bool} {x : MSExpr} (ha : x.fAtom = []) (hg : goodL b x.fList) (h : atA x.fList 0 = wIf) : decE b x = .mk 9 [] [] 0 tyZ ((x.fList.drop 1).map (decE b)) [] := by
  rw [decE_eq, if_pos ha, if_neg hg, if_neg (by rw [h]; decide), if_neg (by rw [h]; decide), if_neg (by rw [h]; decide), if_neg (by rw [h]; decide), if_neg (by rw [h]; decide), if_pos h]
  simp only [List.map_drop, List.map_take]
theorem decE_The {b : Bool} {x : MSExpr} (ha : x.fAtom = []) (hg : goodL b x.fList) (h : atA x.fList 0 = wThe) : decE b x = .mk 12 [] [] 0 (decT b (x.fList.getD 1 zeroX)) ((x.fList.drop 2).map (decE b)) [] := by
  rw [decE_eq, if_pos ha, if_neg hg, if_neg (by rw [h]; decide), if_neg (by rw [h]; decide), if_neg (by rw [h]; decide), if_neg (by rw [h]; decide), if_neg (by rw [h]; decide), if_neg (by rw [h]; decide), if_pos h]
  simp only [List.map_drop, List.map_take]
theorem decE_Case {b : Bool} {x : MSExpr} (ha : x.fAtom = []) (hg : goodL b x.fList) (h : atA x.fList 0 = wCase) : decE b x = .mk 7 [] [] 0 tyZ (((x.fList.drop 1).take 1).map (decE b)) ((x.fList.drop 2).map (decM b)) := by
  rw [decE_eq, if_pos ha, if_neg hg, if_neg (by rw [h]; decide), if_neg (by rw [h]; decide), if_neg (by rw [h]; decide), if_neg (by rw [h]; decide), if_neg (by rw [h]; decide), if_neg (by rw [h]; decide), if_neg (by rw [h]; decide), if_pos h]
  simp only [List.map_drop, List.map_take]
theorem decE_Prim {b : Bool} {x : MSExpr} (ha : x.fAtom = []) (hg : goodL b x.fList) (h0 : atA x.fList 0 ≠ wCall) (h1 : atA x.fList 0 ≠ wNew) (h2 : atA x.fList 0 ≠ wLet) (h3 : atA x.fList 0 ≠ wPack) (h4 : atA x.fList 0 ≠ wMethod) (h5 : atA x.fList 0 ≠ wIf) (h6 : atA x.fList 0 ≠ wThe) (h7 : atA x.fList 0 ≠ wCase) : decE b x = .mk 10 [] (atA x.fList 0) 0 tyZ ((x.fList.drop 1).map (decE b)) [] := by
  rw [decE_eq, if_pos ha, if_neg hg, if_neg h0, if_neg h1, if_neg h2, if_neg h3, if_neg h4, if_neg h5, if_neg h6, if_neg h7]
  simp only [List.map_drop, List.map_take]
theorem decE_zero {x : MSExpr} (ha : x.fAtom = []) (hg : ¬ goodL true x.fList) : decE true x = zeroEx := by
  rw [decE_eq, if_pos ha, if_pos (Decidable.not_not.1 hg)]
theorem decE_int {b : Bool} {x : MSExpr} {n : Int} (ha : x.fAtom ≠ []) (h : readI x.fAtom = some n) : decE b x = .mk 1 [] [] n tyZ [] [] := by
  rw [decE_eq, if_neg ha, h]
theorem decE_true {b : Bool} {x : MSExpr} (ha : x.fAtom ≠ []) (h : readI x.fAtom = none) (h1 : x.fAtom = wTrue) : decE b x = .mk 2 [] [] 1 tyZ [] [] := by
  rw [decE_eq, if_neg ha, h]; exact if_pos h1
theorem decE_false {b : Bool} {x : MSExpr} (ha : x.fAtom ≠ []) (h : readI x.fAtom = none) (h1 : x.fAtom ≠ wTrue) (h2 : x.fAtom = wFalse) : decE b x = .mk 2 [] [] 0 tyZ [] [] := by
  rw [decE_eq, if_neg ha, h]; exact (if_neg h1).trans (if_pos h2)
theorem decE_var {b : Bool} {x : MSExpr} (ha : x.fAtom ≠ []) (h : readI x.fAtom = none) (h1 : x.fAtom ≠ wTrue) (h2 : x.fAtom ≠ wFalse) : decE b x = .mk 3 [] x.fAtom 0 tyZ [] [] := by
  rw [decE_eq, if_neg ha, h]; exact (if_neg h1).trans (if_neg h2)
def lE (l : List MExpr) (n : Nat) : List (List D) := labRs (l.map MExpr.enc) n
def cntEs (l : List MExpr) : Nat := cntRs (l.map MExpr.enc)
def lM (l : List MArm) (n : Nat) : List (List D) := labRs (l.map MArm.enc) n
def cntMs (l : List MArm) : Nat := cntRs (l.map MArm.enc)
abbrev MExpr.vl (x : MExpr) (n : Nat) : V := .agg [.d (.i .i64 x.fKind), .d (.s x.fTrait), .d (.s x.fName), .d (.i .i64 x.fN), .d (.i .i64 x.fType.fKind), .d (.s x.fType.fName), .d (.ol n (lt x.fType.fArgs (n + 1))),
    .d (.ol (n + (cntTs x.fType.fArgs + 1)) (lE x.fArgs (n + (cntTs x.fType.fArgs + 1) + 1))), .d (.ol (n + (cntTs x.fType.fArgs + 1) + (cntEs x.fArgs + 1)) (lM x.fArms (n + (cntTs x.fType.fArgs + 1) + (cntEs x.fArgs + 1) + 1)))]
theorem labEx_eq (x : MExpr) (n : Nat) : labR x.enc n = [.i .i64 x.fKind, .s x.fTrait, .s x.fName, .i .i64 x.fN, .i .i64 x.fType.fKind, .s x.fType.fName, .ol n (lt x.fType.fArgs (n + 1)),
    .ol (n + (cntTs x.fType.fArgs + 1)) (lE x.fArgs (n + (cntTs x.fType.fArgs + 1) + 1)), .ol (n + (cntTs x.fType.fArgs + 1) + (cntEs x.fArgs + 1)) (lM x.fArms (n + (cntTs x.fType.fArgs + 1) + (cntEs x.fArgs + 1) + 1))] := by
  simp only [MExpr.enc_eq, MType.enc_eq, List.cons_append, List.nil_append, labR, labD, cntD, Nat.add_zero, lt, lE, lM, cntTs, cntEs]
theorem labAr_eq (x : MArm) (n : Nat) : labR x.enc n = [.s x.fConstructor, .ol n (x.fVars.map encS)] ++ labR x.fBody.enc (n + 1) := by
  rw [MArm.enc_eq, labR_append]
  simp only [labR, labD, cntR, cntD, Nat.add_zero, lab_encS, labW_cnt, Nat.zero_add]
abbrev MArm.vl (x : MArm) (n : Nat) : V := .agg [.d (.s x.fConstructor), .d (.ol n (x.fVars.map encS)), .d (.i .i64 x.fBody.fKind), .d (.s x.fBody.fTrait), .d (.s x.fBody.fName), .d (.i .i64 x.fBody.fN), .d (.i .i64 x.fBody.fType.fKind), .d (.s x.fBody.fType.fName), .d (.ol (n + 1) (lt x.fBody.fType.fArgs (n + 1 + 1))),
    .d (.ol (n + 1 + (cntTs x.fBody.fType.fArgs + 1)) (lE x.fBody.fArgs (n + 1 + (cntTs x.fBody.fType.fArgs + 1) + 1))), .d (.ol (n + 1 + (cntTs x.fBody.fType.fArgs + 1) + (cntEs x.fBody.fArgs + 1)) (lM x.fBody.fArms (n + 1 + (cntTs x.fBody.fType.fArgs + 1) + (cntEs x.fBody.fArgs + 1) + 1)))]
theorem lE_length (l : List MExpr) (n : Nat) : (lE l n).length = l.length := by unfold lE; rw [labRs_length, List.length_map]
theorem lM_length (l : List MArm) (n : Nat) : (lM l n).length = l.length := by unfold lM; rw [labRs_length, List.length_map]
theorem lE_snoc {l : List MExpr} {i : Nat} (hi : i < l.length) (n : Nat) : lE (l.take i) n ++ [labR l[i].enc (n + cntEs (l.take i))] = lE (l.take (i + 1)) n := by
  rw [List.take_succ_eq_append_getElem hi]
  unfold lE cntEs
  rw [List.map_append, labRs_append]; rfl
theorem lM_snoc {l : List MArm} {i : Nat} (hi : i < l.length) (n : Nat) : lM (l.take i) n ++ [labR l[i].enc (n + cntMs (l.take i))] = lM (l.take (i + 1)) n := by
  rw [List.take_succ_eq_append_getElem hi]
  unfold lM cntMs
  rw [List.map_append, labRs_append]; rfl
theorem encE_snoc {l : List MExpr} {i : Nat} (hi : i < l.length) : (l.take i).map MExpr.enc ++ [l[i].enc] = (l.take (i + 1)).map MExpr.enc := by
  rw [List.take_succ_eq_append_getElem hi, List.map_append]; rfl
theorem encM_snoc {l : List MArm} {i : Nat} (hi : i < l.length) : (l.take i).map MArm.enc ++ [l[i].enc] = (l.take (i + 1)).map MArm.enc := by
  rw [List.take_succ_eq_append_getElem hi, List.map_append]; rfl
theorem ie0 {x : MExpr} {n : Nat} {k N : Int} {tr nm : List UInt8} (h : x = .mk k tr nm N tyZ [] []) : Less (.agg [.d (.i .i64 k), .d (.s tr), .d (.s nm), .d (.i .i64 N), .d (.i .i64 0), .d (.s []), .fsl [], .fsl [], .fsl []]) (x.vl n) := by
  rw [h]
  exact (CellsLe.cons (.refl _) (.cons (.refl _) (.cons (.refl _) (.cons (.refl _) (.cons (.refl _) (.cons (.refl _) (.cons (cell_nil_ol _) (.cons (cell_nil_ol _) (.cons (cell_nil_ol _) .nil))))))))).less
theorem ie1 {x : MExpr} {n : Nat} {k N : Int} {tr nm : List UInt8} {args : List MExpr} (h : x = .mk k tr nm N tyZ args []) : Less (.agg [.d (.i .i64 k), .d (.s tr), .d (.s nm), .d (.i .i64 N), .d (.i .i64 0), .d (.s []), .fsl [], .d (.ol (n + 1) (lE args (n + 1 + 1))), .fsl []]) (x.vl n) := by
  rw [h]
  exact (CellsLe.cons (.refl _) (.cons (.refl _) (.cons (.refl _) (.cons (.refl _) (.cons (.refl _) (.cons (.refl _) (.cons (cell_nil_ol _) (.cons (.refl _) (.cons (cell_nil_ol _) .nil))))))))).less
theorem ie2 {x : MExpr} {n : Nat} {k N : Int} {tr nm : List UInt8} {ty : MType} {args : List MExpr} (h : x = .mk k tr nm N ty args []) : Less (.agg [.d (.i .i64 k), .d (.s tr), .d (.s nm), .d (.i .i64 N), .d (.i .i64 ty.fKind), .d (.s ty.fName), .d (.ol n (lt ty.fArgs (n + 1))), .d (.ol (n + (cntTs ty.fArgs + 1)) (lE args (n + (cntTs ty.fArgs + 1) + 1))), .fsl []]) (x.vl n) := by
  rw [h]
  exact (CellsLe.cons (.refl _) (.cons (.refl _) (.cons (.refl _) (.cons (.refl _) (.cons (.refl _) (.cons (.refl _) (.cons (.refl _) (.cons (.refl _) (.cons (cell_nil_ol _) .nil))))))))).less
theorem ie3 {x : MExpr} {n : Nat} {k N : Int} {tr nm : List UInt8} {args : List MExpr} {arms : List MArm} (h : x = .mk k tr nm N tyZ args arms) : Less (.agg [.d (.i .i64 k), .d (.s tr), .d (.s nm), .d (.i .i64 N), .d (.i .i64 0), .d (.s []), .fsl [], .d (.ol (n + 1) (lE args (n + 1 + 1))), .d (.ol (n + 1 + (cntEs args + 1)) (lM arms (n + 1 + (cntEs args + 1) + 1)))]) (x.vl n) := by
  rw [h]
  exact (CellsLe.cons (.refl _) (.cons (.refl _) (.cons (.refl _) (.cons (.refl _) (.cons (.refl _) (.cons (.refl _) (.cons (cell_nil_ol _) (.cons (.refl _) (.cons (.refl _) .nil))))))))).less
theorem se0 {x : MExpr} {k N : Int} {tr nm : List UInt8} (h : x = .mk k tr nm N tyZ [] []) : Less (.agg [.d (.i .i64 k), .d (.s tr), .d (.s nm), .d (.i .i64 N), .d (.i .i64 0), .d (.s []), .fsl [], .fsl [], .fsl []]) x.v := by
  rw [h]
  exact (CellsLe.cons (.refl _) (.cons (.refl _) (.cons (.refl _) (.cons (.refl _) (.cons (.refl _) (.cons (.refl _) (.cons (cell_fsl _) (.cons (cell_fsl _) (.cons (cell_fsl _) .nil))))))))).less
theorem se1 {x : MExpr} {k N : Int} {tr nm : List UInt8} {args : List MExpr} (h : x = .mk k tr nm N tyZ args []) : Less (.agg [.d (.i .i64 k), .d (.s tr), .d (.s nm), .d (.i .i64 N), .d (.i .i64 0), .d (.s []), .fsl [], .d (.sl (args.map MExpr.enc)), .fsl []]) x.v := by
  rw [h]
  exact (CellsLe.cons (.refl _) (.cons (.refl _) (.cons (.refl _) (.cons (.refl _) (.cons (.refl _) (.cons (.refl _) (.cons (cell_fsl _) (.cons (.refl _) (.cons (cell_fsl _) .nil))))))))).less
theorem se2 {x : MExpr} {k N : Int} {tr nm : List UInt8} {ty : MType} {args : List MExpr} (h : x = .mk k tr nm N ty args []) : Less (.agg [.d (.i .i64 k), .d (.s tr), .d (.s nm), .d (.i .i64 N), .d (.i .i64 ty.fKind), .d (.s ty.fName), .d (.sl (ty.fArgs.map MType.enc)), .d (.sl (args.map MExpr.enc)), .fsl []]) x.v := by
  rw [h]
  exact (CellsLe.cons (.refl _) (.cons (.refl _) (.cons (.refl _) (.cons (.refl _) (.cons (.refl _) (.cons (.refl _) (.cons (.refl _) (.cons (.refl _) (.cons (cell_fsl _) .nil))))))))).less
theorem se3 {x : MExpr} {k N : Int} {tr nm : List UInt8} {args : List MExpr} {arms : List MArm} (h : x = .mk k tr nm N tyZ args arms) : Less (.agg [.d (.i .i64 k), .d (.s tr), .d (.s nm), .d (.i .i64 N), .d (.i .i64 0), .d (.s []), .fsl [], .d (.sl (args.map MExpr.enc)), .d (.sl (arms.map MArm.enc))]) x.v := by
  rw [h]
  exact (CellsLe.cons (.refl _) (.cons (.refl _) (.cons (.refl _) (.cons (.refl _) (.cons (.refl _) (.cons (.refl _) (.cons (cell_fsl _) (.cons (.refl _) (.cons (.refl _) .nil))))))))).less
theorem enc_dropmin (l : List MSExpr) (i : Nat) : ((l.map MSExpr.enc).take l.length).drop (min i l.length) = (l.drop i).map MSExpr.enc := by
  rw [encX_drop _ _ _ (Nat.le_refl _)]
  by_cases h : i ≤ l.length
  · rw [Nat.min_eq_left h]
  · rw [Nat.min_eq_right (by omega), List.drop_length, List.drop_of_length_le (by omega)]
theorem enc_mid (l : List MSExpr) : ((l.map MSExpr.enc).take (min 2 l.length)).drop 1 = ((l.drop 1).take 1).map MSExpr.enc := by
  match l with
  | [] => rfl
  | [x] => rfl
  | x :: y :: l => simp [show min 2 (l.length + 1 + 1) = 2 by omega]
theorem list3 (l : List MSExpr) (i : Nat) (h : i < l.length + 3) : (l.map MSExpr.enc ++ ([[.s [], .sl []], [.s [], .sl []], [.s [], .sl []]] : List (List D))).getD i [] = [.s (atA l i), .sl ((l.getD i zeroX).fList.map MSExpr.enc)] := by
  rw [List.getD_eq_getElem?_getD, List.getElem?_append]
  split
  · rename_i hi
    rw [List.length_map] at hi
    rw [List.getElem?_map, List.getElem?_eq_getElem hi]
    simp only [Option.map_some, Option.getD_some]
    rw [MSExpr.enc_eq, atA_get hi, List.getD_eq_getElem?_getD, List.getElem?_eq_getElem hi]; rfl
  · rename_i hi
    rw [List.length_map] at hi
    rw [atA_no (by omega), List.getD_eq_getElem?_getD, List.getElem?_eq_none (by omega : l.length ≤ i), List.length_map]
    have : i - l.length = 0 ∨ i - l.length = 1 ∨ i - l.length = 2 := by omega
    rcases this with e | e | e <;> rw [e] <;> rfl
theorem enc_inner (l : List MSExpr) (h : 2 ≤ l.length) : ((l.map MSExpr.enc).take ((l.length : Int) - 1).toNat).drop 1 = ((l.drop 1).dropLast).map MSExpr.enc := by
  rw [show ((l.length : Int) - 1).toNat = l.length - 1 by omega, ← List.map_take, ← List.map_drop, List.dropLast_eq_take, List.length_drop, List.drop_take]
theorem getD_sz' (x : MSExpr) (i : Nat) {m : Nat} (h : x.sz ≤ m) : (x.fList.getD i zeroX).sz ≤ m := by
  have := szX_getD x.fList i
  have := sz_fList x
  omega
theorem form_mem {l : List MSExpr} (h : formXs l = true) {t : MSExpr} (ht : t ∈ l) : formX t = true := formXs_iff.1 h t ht
theorem form_drop {l : List MSExpr} (h : formXs l = true) (i : Nat) : formXs (l.drop i) = true := formXs_iff.2 fun t ht => form_mem h (List.mem_of_mem_drop ht)
theorem form_take {l : List MSExpr} (h : formXs l = true) (i : Nat) : formXs (l.take i) = true := formXs_iff.2 fun t ht => form_mem h (List.mem_of_mem_take ht)
theorem sizeOf_take {α : Type} [SizeOf α] : ∀ (i : Nat) (l : List α), SizeOf.sizeOf (l.take i) ≤ SizeOf.sizeOf l
  | 0, [] => by simp
  | 0, x :: l => by rw [List.take_zero]; simp only [List.cons.sizeOf_spec, List.nil.sizeOf_spec]; omega
  | i + 1, [] => by simp
  | i + 1, x :: l => by
    have := sizeOf_take i l
    rw [List.take_succ_cons]; simp only [List.cons.sizeOf_spec]; omega
end Go.Ab
namespace Go.Proofs.YtlmhknhlmicmeaaGreatDoor
open Go Go.Ab
theorem specInt_ok (n : Int) : PCall Tryz.prog 198 [.c (.d (.i .i64 n))] (.agg [.d (.i .i64 1), .d (.s []), .d (.s []), .d (.i .i64 n), .d (.i .i64 0), .d (.s []), .fsl [], .fsl [], .fsl []]) := fun S => by
  refine acall_cw (rs := [.cell 2 61]) Tryz.checked.mixed Tryz.func198 Tryz.ntmps198 rfl rfl rfl rfl rfl ?_
  simp -implicitDefEqProofs (disch := omega) only [go_sem]
theorem specEVar_ok (s : List UInt8) : PCall Tryz.prog 199 [.c (.d (.s s))] (.agg [.d (.i .i64 3), .d (.s []), .d (.s s), .d (.i .i64 0), .d (.i .i64 0), .d (.s []), .fsl [], .fsl [], .fsl []]) := fun S => by
  refine acall_cw (rs := [.cell 2 61]) Tryz.checked.mixed Tryz.func199 Tryz.ntmps199 rfl rfl rfl rfl rfl ?_
  simp -implicitDefEqProofs (disch := omega) only [go_sem]
theorem specDecE_all : ∀ N : Nat, (∀ x : MSExpr, SizeOf.sizeOf x < N → x.sz ≤ 4194304 → PCall Tryz.prog 105 [x.v] (decE false x).v) ∧
    (∀ xs : List MSExpr, SizeOf.sizeOf xs < N → xs.length ≤ 4194304 → (∀ t ∈ xs, t.sz ≤ 4194304) → PCall Tryz.prog 200 [.c (.d (.sl (xs.map MSExpr.enc)))] (.c (.d (.sl ((xs.map (decE false)).map MExpr.enc))))) ∧
    (∀ x : MSExpr, SizeOf.sizeOf x < N → x.sz ≤ 4194304 → PCall Tryz.prog 202 [x.v] (decM false x).v)
  | 0 => ⟨fun x h => by omega, fun x h => by omega, fun x h => by omega⟩
  | N + 1 => by
    obtain ⟨ih, ihS, ihM⟩ := specDecE_all N
    refine ⟨fun x hn hsz => PCall.of_le fun S => ?_, fun xs hn hlen hsz S => ?_, fun x hn hsz => PCall.of_le fun S => ?_⟩
    · have lArgs := MSExpr.lt_List x
      have h1 := sz_fList x
      have h2 := sz_fAtom x
      have hall : ∀ t ∈ x.fList, t.sz ≤ 4194304 := fun t ht => by have := szX_mem ht; omega
      have hr := enc_rows (l := x.fList)
      have hso := fun i => sizeOf_drop i x.fList
      have hdl : ∀ i, (x.fList.drop i).length ≤ 4194304 := fun i => by rw [List.length_drop]; omega
      have hda : ∀ i, ∀ t ∈ x.fList.drop i, t.sz ≤ 4194304 := fun i t ht => hall t (List.mem_of_mem_drop ht)
      have hg : goodL false x.fList := fun e => by cases e.1
      refine acall_cw (rs := [.cell 2 61]) Tryz.checked.mixed Tryz.func105 Tryz.ntmps105 rfl rfl rfl rfl rfl ?_
      simp -implicitDefEqProofs (disch := omega) only [go_sem]
      with_reducible refine split2 (fun hb => ?_) (fun hb => ?_) <;> have h := hb <;> (try simp only [wf_preprocess] at h) <;> simp -implicitDefEqProofs (disch := omega) only [go_sem, hb] <;> (repeat (with_reducible refine And.intro ?_ ?_; focus first | omega | rfl | assumption | exact ⟨_, rfl, rfl⟩ | (simp; omega) | (simp; done)))
      · have hne := h
        refine call_w (specParseInt_ok x.fAtom (by omega)) ?_
        cases hri : readI x.fAtom with
        | some m =>
          simp -implicitDefEqProofs (disch := omega) only [go_sem, Option.getD_some, Option.isSome_some]
          refine call_w (specInt_ok m) ?_
          simp -implicitDefEqProofs (disch := omega) only [go_sem]
          exact se0 (decE_int hne hri)
        | none =>
          simp -implicitDefEqProofs (disch := omega) only [go_sem, Option.getD_none, Option.isSome_none]
          with_reducible refine split2 (fun hb => ?_) (fun hb => ?_) <;> have h := hb <;> (try simp only [wf_preprocess] at h) <;> simp -implicitDefEqProofs (disch := omega) only [go_sem, hb] <;> (repeat (with_reducible refine And.intro ?_ ?_; focus first | omega | rfl | assumption | exact ⟨_, rfl, rfl⟩ | (simp; omega) | (simp; done)))
          · exact se0 (decE_true hne hri h)
          have k1 := h
          with_reducible refine split2 (fun hb => ?_) (fun hb => ?_) <;> have h := hb <;> (try simp only [wf_preprocess] at h) <;> simp -implicitDefEqProofs (disch := omega) only [go_sem, hb] <;> (repeat (with_reducible refine And.intro ?_ ?_; focus first | omega | rfl | assumption | exact ⟨_, rfl, rfl⟩ | (simp; omega) | (simp; done)))
          · exact se0 (decE_false hne hri k1 h)
          have k2 := h
          refine call_w (specEVar_ok _) ?_
          simp -implicitDefEqProofs (disch := omega) only [go_sem]
          exact se0 (decE_var hne hri k1 k2)
      have ha := h
      have l0 := list3 x.fList 0 (by omega)
      have l1 := list3 x.fList 1 (by omega)
      have l2 := list3 x.fList 2 (by omega)
      have hm1 : min (1 : Int) (x.fList.length : Int) = ((min 1 x.fList.length : Nat) : Int) := by omega
      have hm2 : min (2 : Int) (x.fList.length : Int) = ((min 2 x.fList.length : Nat) : Int) := by omega
      have hm3 : min (3 : Int) (x.fList.length : Int) = ((min 3 x.fList.length : Nat) : Int) := by omega
      have hd := fun i => enc_dropmin x.fList i
      have hdd := encX_drop x.fList x.fList.length 1 (Nat.le_refl _)
      simp -implicitDefEqProofs (disch := omega) only [go_sem, l0, l1, l2]
      (repeat (with_reducible refine And.intro ?_ ?_; focus first | omega | rfl | assumption | exact ⟨_, rfl, rfl⟩ | (simp; omega) | (simp; done)))
      with_reducible refine split2 (fun hb => ?_) (fun hb => ?_) <;> have h := hb <;> (try simp only [wf_preprocess] at h) <;> simp -implicitDefEqProofs (disch := omega) only [go_sem, hb, l0, l1, l2] <;> (repeat (with_reducible refine And.intro ?_ ?_; focus first | omega | rfl | assumption | exact ⟨_, rfl, rfl⟩ | (simp; omega) | (simp; done)))
      · refine call_w (l1Min_ok _ _) ?_
        rw [hm2]
        simp -implicitDefEqProofs (disch := omega) only [go_sem]
        refine ⟨⟨by omega, by omega, by omega, hr⟩, ?_⟩
        rw [hd]
        refine call_w (ihS (x.fList.drop 2) (by have := hso 2; omega) (hdl 2) (hda 2)) ?_
        simp -implicitDefEqProofs (disch := omega) only [go_sem]
        exact se1 (decE_Call ha hg h)
      have nCall := h
      with_reducible refine split2 (fun hb => ?_) (fun hb => ?_) <;> have h := hb <;> (try simp only [wf_preprocess] at h) <;> simp -implicitDefEqProofs (disch := omega) only [go_sem, hb, l0, l1, l2] <;> (repeat (with_reducible refine And.intro ?_ ?_; focus first | omega | rfl | assumption | exact ⟨_, rfl, rfl⟩ | (simp; omega) | (simp; done)))
      · refine call_w (l1Min_ok _ _) ?_
        rw [hm3]
        simp -implicitDefEqProofs (disch := omega) only [go_sem]
        refine ⟨⟨by omega, by omega, by omega, hr⟩, ?_⟩
        rw [hd]
        refine call_w (ihS (x.fList.drop 3) (by have := hso 3; omega) (hdl 3) (hda 3)) ?_
        simp -implicitDefEqProofs (disch := omega) only [go_sem]
        exact se1 (decE_Method ha hg h)
      have nMethod := h
      with_reducible refine split2 (fun hb => ?_) (fun hb => ?_) <;> have h := hb <;> (try simp only [wf_preprocess] at h) <;> simp -implicitDefEqProofs (disch := omega) only [go_sem, hb, l0, l1, l2] <;> (repeat (with_reducible refine And.intro ?_ ?_; focus first | omega | rfl | assumption | exact ⟨_, rfl, rfl⟩ | (simp; omega) | (simp; done)))
      · refine call_w (l1Min_ok _ _) ?_
        rw [hm2]
        simp -implicitDefEqProofs (disch := omega) only [go_sem]
        refine ⟨⟨by omega, by omega, by omega, hr⟩, ?_⟩
        rw [hd]
        refine call_w (ihS (x.fList.drop 2) (by have := hso 2; omega) (hdl 2) (hda 2)) ?_
        simp -implicitDefEqProofs (disch := omega) only [go_sem]
        exact se1 (decE_New ha hg h)
      have nNew := h
      with_reducible refine split2 (fun hb => ?_) (fun hb => ?_) <;> have h := hb <;> (try simp only [wf_preprocess] at h) <;> simp -implicitDefEqProofs (disch := omega) only [go_sem, hb, l0, l1, l2] <;> (repeat (with_reducible refine And.intro ?_ ?_; focus first | omega | rfl | assumption | exact ⟨_, rfl, rfl⟩ | (simp; omega) | (simp; done)))
      · refine call_w (l1Min_ok _ _) ?_
        rw [hm2]
        simp -implicitDefEqProofs (disch := omega) only [go_sem]
        refine ⟨⟨by omega, by omega, by omega, hr⟩, ?_⟩
        rw [hd]
        refine call_w (ihS (x.fList.drop 2) (by have := hso 2; omega) (hdl 2) (hda 2)) ?_
        simp -implicitDefEqProofs (disch := omega) only [go_sem]
        exact se1 (decE_Let ha hg h)
      have nLet := h
      with_reducible refine split2 (fun hb => ?_) (fun hb => ?_) <;> have h := hb <;> (try simp only [wf_preprocess] at h) <;> simp -implicitDefEqProofs (disch := omega) only [go_sem, hb, l0, l1, l2] <;> (repeat (with_reducible refine And.intro ?_ ?_; focus first | omega | rfl | assumption | exact ⟨_, rfl, rfl⟩ | (simp; omega) | (simp; done)))
      · have hpos : 0 < x.fList.length := by
          rcases Nat.eq_zero_or_pos x.fList.length with e | e
          · rw [atA_no (by omega)] at h; cases h
          · exact e
        refine ⟨⟨by omega, by omega, hr⟩, ?_⟩
        rw [hdd]
        refine call_w (ihS (x.fList.drop 1) (by have := hso 1; omega) (hdl 1) (hda 1)) ?_
        simp -implicitDefEqProofs (disch := omega) only [go_sem]
        exact se1 (decE_If ha hg h)
      have nIf := h
      with_reducible refine split2 (fun hb => ?_) (fun hb => ?_) <;> have h := hb <;> (try simp only [wf_preprocess] at h) <;> simp -implicitDefEqProofs (disch := omega) only [go_sem, hb, l0, l1, l2] <;> (repeat (with_reducible refine And.intro ?_ ?_; focus first | omega | rfl | assumption | exact ⟨_, rfl, rfl⟩ | (simp; omega) | (simp; done)))
      · refine call_w (l1Min_ok _ _) ?_
        rw [hm2]
        simp -implicitDefEqProofs (disch := omega) only [go_sem]
        refine ⟨⟨by omega, by omega, by omega, hr⟩, ?_⟩
        rw [hd]
        refine call_w (ihS (x.fList.drop 2) (by have := hso 2; omega) (hdl 2) (hda 2)) ?_
        simp -implicitDefEqProofs (disch := omega) only [go_sem]
        exact se1 (decE_Pack ha hg h)
      have nPack := h
      with_reducible refine split2 (fun hb => ?_) (fun hb => ?_) <;> have h := hb <;> (try simp only [wf_preprocess] at h) <;> simp -implicitDefEqProofs (disch := omega) only [go_sem, hb, l0, l1, l2] <;> (repeat (with_reducible refine And.intro ?_ ?_; focus first | omega | rfl | assumption | exact ⟨_, rfl, rfl⟩ | (simp; omega) | (simp; done)))
      · refine call_w (specDecTy_ok (x.fList.getD 1 zeroX) (getD_sz' x 1 hsz)) ?_
        simp -implicitDefEqProofs (disch := omega) only [go_sem]
        refine call_w (l1Min_ok _ _) ?_
        rw [hm2]
        simp -implicitDefEqProofs (disch := omega) only [go_sem]
        refine ⟨⟨by omega, by omega, by omega, hr⟩, ?_⟩
        rw [hd]
        refine call_w (ihS (x.fList.drop 2) (by have := hso 2; omega) (hdl 2) (hda 2)) ?_
        simp -implicitDefEqProofs (disch := omega) only [go_sem]
        exact se2 (decE_The ha hg h)
      have nThe := h
      with_reducible refine split2 (fun hb => ?_) (fun hb => ?_) <;> have h := hb <;> (try simp only [wf_preprocess] at h) <;> simp -implicitDefEqProofs (disch := omega) only [go_sem, hb, l0, l1, l2] <;> (repeat (with_reducible refine And.intro ?_ ?_; focus first | omega | rfl | assumption | exact ⟨_, rfl, rfl⟩ | (simp; omega) | (simp; done)))
      · have hpos : 0 < x.fList.length := by
          rcases Nat.eq_zero_or_pos x.fList.length with e | e
          · rw [atA_no (by omega)] at h; cases h
          · exact e
        have hdec := decE_Case ha hg h
        refine call_w (l1Min_ok _ _) ?_
        rw [hm2]
        simp -implicitDefEqProofs (disch := omega) only [go_sem]
        refine ⟨⟨by omega, by omega, hr⟩, ?_⟩
        rw [enc_mid]
        refine call_w (ihS ((x.fList.drop 1).take 1) (by have := hso 1; have := sizeOf_take 1 (x.fList.drop 1); omega) (by rw [List.length_take]; omega) (fun t ht => hda 1 t (List.mem_of_mem_take ht))) ?_
        simp -implicitDefEqProofs (disch := omega) only [go_sem]
        obtain ⟨ags, hags⟩ : ∃ ags, ags = ((x.fList.drop 1).take 1).map (decE false) := ⟨_, rfl⟩
        obtain ⟨T, hT⟩ : ∃ T : Nat → List (List D), T = fun k => (((x.fList.drop 2).map (decM false)).take k).map MArm.enc := ⟨_, rfl⟩
        have hT0 : T 0 = [] := by rw [hT]; rfl
        have hTl : ∀ k, (T k).length ≤ k := fun k => by rw [hT]; simp only [List.length_map]; exact List.length_take_le _ _
        have hTs : ∀ k (hk : k + 2 < x.fList.length), T k ++ [(decM false x.fList[k + 2]).enc] = T (k + 1) := fun k hk => by
          have := encM_snoc (l := (x.fList.drop 2).map (decM false)) (i := k) (by rw [List.length_map, List.length_drop]; omega)
          rw [List.getElem_map, List.getElem_drop] at this
          rw [hT]; simp only [Nat.add_comm 2 k] at this ⊢; exact this
        have hTe : T (x.fList.length - 2) = ((x.fList.drop 2).map (decM false)).map MArm.enc := by
          rw [hT]; simp only
          rw [List.take_of_length_le (by simp)]
        clear hT
        rw [← hags] at hdec ⊢
        refine aw_boxtok 3 8 11 _ rfl rfl ?_
        refine loop_at (ι := Nat) Tryz.checked.mixed rfl [1, 2, 6, 8, 9] (fun k => [.c (.ptr (0, 0) 0), .c (.ptr (0, 1) 0), .c (.d (.i .i64 x.fList.length)), .c (.ptr (0, 3) 0), .c (.d (.i .i64 ((k + 2 : Nat) : Int)))])
          (fun k => [.box [.d (.s x.fAtom), .d (.sl (x.fList.map MSExpr.enc))], .box [.d (.i .i64 0), .d (.s []), .d (.s []), .d (.i .i64 0), .d (.i .i64 0), .d (.s []), .fsl [], .fsl [], .fsl []], .tok 2 (x.fList.map MSExpr.enc ++ [[.s [], .sl []], [.s [], .sl []], [.s [], .sl []]]),
            .box [.d (.i .i64 7), .d (.s []), .d (.s []), .d (.i .i64 0), .d (.i .i64 0), .d (.s []), .fsl [], .d (.sl (ags.map MExpr.enc)), .tsl (0, 4) (T k)], .tok 11 (T k)] :: S)
          (fun k => k ≤ x.fList.length - 2) (fun k => x.fList.length - (k + 2)) 0 rfl (by rw [hT0]; rfl) (Nat.zero_le _) ?_
        intro k hk
        have hlk := hTl k
        clear l0 l1 l2
        simp -implicitDefEqProofs (disch := omega) only [go_sem]
        with_reducible refine split2 (fun hb => ?_) (fun hb => ?_) <;> have h := hb <;> (try simp only [wf_preprocess] at h) <;> simp -implicitDefEqProofs (disch := omega) only [go_sem, hb] <;> (repeat (with_reducible refine And.intro ?_ ?_; focus first | omega | rfl | assumption | exact ⟨_, rfl, rfl⟩ | (simp; omega) | (simp; done)))
        · have hk' : k + 2 < x.fList.length := by omega
          have hm := List.getElem_mem hk'
          have hs := hTs k hk'
          simp only [MArm.enc_eq, MExpr.enc_eq, MType.enc_eq, List.cons_append, List.nil_append] at hs
          (repeat (with_reducible refine And.intro ?_ ?_; focus first | omega | rfl | assumption | exact ⟨_, rfl, rfl⟩ | (simp; omega) | (simp; done)))
          refine call_w (ihM x.fList[k + 2] (by have := List.sizeOf_lt_of_mem hm; omega) (hall _ hm)) ?_
          simp -implicitDefEqProofs (disch := omega) only [go_sem]
          (repeat (with_reducible refine And.intro ?_ ?_; focus first | omega | rfl | assumption | exact ⟨_, rfl, rfl⟩ | (simp; omega) | (simp; done)))
          rw [hs]
          exact inv_at (k + 1) (by omega) rfl rfl (by omega)
        · have hk' : k = x.fList.length - 2 := by omega
          subst hk'
          rw [hTe]
          exact se3 hdec
      have nCase := h
      refine call_w (l1Min_ok _ _) ?_
      rw [hm1]
      simp -implicitDefEqProofs (disch := omega) only [go_sem]
      refine ⟨⟨by omega, by omega, by omega, hr⟩, ?_⟩
      rw [hd]
      refine call_w (ihS (x.fList.drop 1) (by have := hso 1; omega) (hdl 1) (hda 1)) ?_
      simp -implicitDefEqProofs (disch := omega) only [go_sem]
      exact se1 (decE_Prim ha hg nCall nNew nLet nPack nMethod nIf nThe nCase)
    · have hsnoc := fun (i : Nat) (hi : i < xs.length) => encE_snoc (l := xs.map (decE false)) (i := i) (by rw [List.length_map]; exact hi)
      refine acall_cw (rs := [.tmp 2]) Tryz.checked.mixed Tryz.func200 Tryz.ntmps200 rfl rfl rfl rfl rfl ?_
      simp -implicitDefEqProofs (disch := omega) only [go_sem]
      (repeat (with_reducible refine And.intro ?_ ?_; focus first | omega | rfl | assumption | exact ⟨_, rfl, rfl⟩ | (simp; omega) | (simp; done)))
      refine aw_tok 3 9 [] rfl (by simp) ?_
      refine loop_at (ι := Nat) Tryz.checked.mixed rfl [0, 3, 4] (fun i => [.c (.d (.sl (xs.map MSExpr.enc))), .c (.tsl (0, 0) (((xs.map (decE false)).take i).map MExpr.enc)), .c (.d (.i .i64 i))]) (fun i => [.tok 9 (((xs.map (decE false)).take i).map MExpr.enc)] :: S)
        (fun i => i ≤ xs.length) (fun i => xs.length - i) 0 rfl rfl (Nat.zero_le _) ?_
      intro i hi
      have hl : (((xs.map (decE false)).take i).map MExpr.enc).length ≤ i := by rw [List.length_map]; exact List.length_take_le _ _
      simp -implicitDefEqProofs (disch := omega) only [go_sem]
      with_reducible refine split2 (fun hb => ?_) (fun hb => ?_) <;> have h := hb <;> (try simp only [wf_preprocess] at h) <;> simp -implicitDefEqProofs (disch := omega) only [go_sem, hb] <;> (repeat (with_reducible refine And.intro ?_ ?_; focus first | omega | rfl | assumption | exact ⟨_, rfl, rfl⟩ | (simp; omega) | (simp; done)))
      · have hi' : i < xs.length := by omega
        have hs := hsnoc i hi'
        rw [List.getElem_map] at hs
        simp only [MExpr.enc_eq, MType.enc_eq, List.cons_append, List.nil_append] at hs
        (repeat (with_reducible refine And.intro ?_ ?_; focus first | omega | rfl | assumption | exact ⟨_, rfl, rfl⟩ | (simp; omega) | (simp; done)))
        refine call_w (ih xs[i] (by have := List.sizeOf_lt_of_mem (List.getElem_mem hi'); omega) (hsz _ (List.getElem_mem hi'))) ?_
        simp -implicitDefEqProofs (disch := omega) only [go_sem]
        (repeat (with_reducible refine And.intro ?_ ?_; focus first | omega | rfl | assumption | exact ⟨_, rfl, rfl⟩ | (simp; omega) | (simp; done)))
        rw [hs]
        exact inv_at (i + 1) (by omega) rfl rfl (by omega)
      · have hi' : i = (xs.map (decE false)).length := by rw [List.length_map]; omega
        rw [hi', List.take_length]
    · have lArgs := MSExpr.lt_List x
      have h1 := sz_fList x
      have hall : ∀ t ∈ x.fList, t.sz ≤ 4194304 := fun t ht => by have := szX_mem ht; omega
      have hr := enc_rows (l := x.fList)
      refine acall_cw (rs := [.cell 2 223]) Tryz.checked.mixed Tryz.func202 Tryz.ntmps202 rfl rfl rfl rfl rfl ?_
      simp -implicitDefEqProofs (disch := omega) only [go_sem]
      with_reducible refine split2 (fun hb => ?_) (fun hb => ?_) <;> have h := hb <;> (try simp only [wf_preprocess] at h) <;> simp -implicitDefEqProofs (disch := omega) only [go_sem, hb] <;> (repeat (with_reducible refine And.intro ?_ ?_; focus first | omega | rfl | assumption | exact ⟨_, rfl, rfl⟩ | (simp; omega) | (simp; done)))
      · rw [decM_no false x (by omega)]
        exact (CellsLe.cons (.refl _) (.cons (cell_fsl _) (.cons (.refl _) (.cons (.refl _) (.cons (.refl _) (.cons (.refl _) (.cons (.refl _) (.cons (.refl _) (.cons (cell_fsl _) (.cons (cell_fsl _) (.cons (cell_fsl _) .nil))))))))))).less
      have hl2 : 2 ≤ x.fList.length := by omega
      have a0 := atA_get (l := x.fList) (i := 0) (by omega)
      have hm := List.getElem_mem (l := x.fList) (n := x.fList.length - 1) (by omega)
      rw [decM_eq false x hl2, a0]
      refine ⟨⟨by omega, by omega, hr⟩, ?_⟩
      rw [enc_inner _ hl2]
      refine call_w (specAtoms_ok ((x.fList.drop 1).dropLast) (by rw [List.length_dropLast, List.length_drop]; omega)) ?_
      simp -implicitDefEqProofs (disch := omega) only [go_sem]
      (repeat (with_reducible refine And.intro ?_ ?_; focus first | omega | rfl | assumption | exact ⟨_, rfl, rfl⟩ | (simp; omega) | (simp; done)))
      have el : ((x.fList.length : Int) - 1).toNat = x.fList.length - 1 := by omega
      simp only [el]
      refine call_w (ih (x.fList[x.fList.length - 1]) (by have := List.sizeOf_lt_of_mem hm; omega) (hall _ hm)) ?_
      simp -implicitDefEqProofs (disch := omega) only [go_sem]
      exact less_refl _
theorem specDecE_ok (x : MSExpr) (hsz : x.sz ≤ 4194304) : PCall Tryz.prog 105 [x.v] (decE false x).v := (specDecE_all _).1 x (Nat.lt_succ_self _) hsz
end Go.Proofs.YtlmhknhlmicmeaaGreatDoor

namespace Go.Proofs
open Go.Shelf
def Tryz.lays172_ren : Go.Shelf.Ren := ⟨fun | 172 => 326 | 244 => 347 | 245 => 348 | 247 => 363 | 279 => 364 | 280 => 365 | 281 => 366 | 282 => 367 | 287 => 377 | 316 => 378 | 171 => 287 | 205 => 379 | 321 => 386 | 322 => 387 | 243 => 331 | 246 => 350 | 283 => 369 | 284 => 370 | 285 => 371 | 286 => 372 | 129 => 382 | 317 => 381 | 318 => 383 | 319 => 384 | 320 => 385 | 337 => 391 | 338 => 392 | n => n, fun | 9 => 9 | 3 => 3 | 75 => 286 | 76 => 287 | 4 => 4 | 5 => 5 | 167 => 351 | 37 => 227 | 0 => 0 | 85 => 352 | 2 => 2 | 168 => 354 | 53 => 359 | 175 => 367 | 46 => 369 | 210 => 372 | 127 => 290 | 145 => 384 | 143 => 382 | 21 => 21 | 171 => 358 | 173 => 362 | 212 => 376 | 51 => 377 | 20 => 20 | 213 => 378 | 232 => 388 | 233 => 389 | 80 => 231 | n => n, fun | 15 => 0 | 16 => 1 | 17 => 2 | 18 => 4 | 19 => 5 | n => n⟩
theorem Tryz.lays172 : Go.Proofs.Lays.n172 Tryz.prog Tryz.lays172_ren := {
  mixed := by kernel_rfl
  f129 := Tryz.func382.trans (congrArg some (by kernel_rfl))
  f171 := Tryz.func287.trans (congrArg some (by kernel_rfl))
  f172 := Tryz.func326.trans (congrArg some (by kernel_rfl))
  f205 := Tryz.func379.trans (congrArg some (by kernel_rfl))
  f243 := Tryz.func331.trans (congrArg some (by kernel_rfl))
  f244 := Tryz.func347.trans (congrArg some (by kernel_rfl))
  f245 := Tryz.func348.trans (congrArg some (by kernel_rfl))
  f246 := Tryz.func350.trans (congrArg some (by kernel_rfl))
  f247 := Tryz.func363.trans (congrArg some (by kernel_rfl))
  f279 := Tryz.func364.trans (congrArg some (by kernel_rfl))
  f280 := Tryz.func365.trans (congrArg some (by kernel_rfl))
  f281 := Tryz.func366.trans (congrArg some (by kernel_rfl))
  f282 := Tryz.func367.trans (congrArg some (by kernel_rfl))
  f283 := Tryz.func369.trans (congrArg some (by kernel_rfl))
  f284 := Tryz.func370.trans (congrArg some (by kernel_rfl))
  f285 := Tryz.func371.trans (congrArg some (by kernel_rfl))
  f286 := Tryz.func372.trans (congrArg some (by kernel_rfl))
  f287 := Tryz.func377.trans (congrArg some (by kernel_rfl))
  f316 := Tryz.func378.trans (congrArg some (by kernel_rfl))
  f317 := Tryz.func381.trans (congrArg some (by kernel_rfl))
  f318 := Tryz.func383.trans (congrArg some (by kernel_rfl))
  f319 := Tryz.func384.trans (congrArg some (by kernel_rfl))
  f320 := Tryz.func385.trans (congrArg some (by kernel_rfl))
  f321 := Tryz.func386.trans (congrArg some (by kernel_rfl))
  f322 := Tryz.func387.trans (congrArg some (by kernel_rfl))
  f337 := Tryz.func391.trans (congrArg some (by kernel_rfl))
  f338 := Tryz.func392.trans (congrArg some (by kernel_rfl))
  t0 := Tryz.underlying0
  a0 := Tryz.isAgg0
  z0 := Tryz.sizeOf0
  v0 := Tryz.zeroValue0
  t2 := Tryz.underlying2
  a2 := Tryz.isAgg2
  z2 := Tryz.sizeOf2
  v2 := Tryz.zeroValue2
  t3 := Tryz.underlying3
  a3 := Tryz.isAgg3
  z3 := Tryz.sizeOf3
  v3 := Tryz.zeroValue3
  t4 := Tryz.underlying4
  a4 := Tryz.isAgg4
  z4 := Tryz.sizeOf4
  v4 := Tryz.zeroValue4
  t5 := Tryz.underlying5
  a5 := Tryz.isAgg5
  z5 := Tryz.sizeOf5
  v5 := Tryz.zeroValue5
  t9 := Tryz.underlying9
  a9 := Tryz.isAgg9
  z9 := Tryz.sizeOf9
  v9 := Tryz.zeroValue9
  t20 := Tryz.underlying20
  a20 := Tryz.isAgg20
  z20 := Tryz.sizeOf20
  v20 := Tryz.zeroValue20
  t21 := Tryz.underlying21
  a21 := Tryz.isAgg21
  z21 := Tryz.sizeOf21
  v21 := Tryz.zeroValue21
  t37 := Tryz.underlying227
  a37 := Tryz.isAgg227
  z37 := Tryz.sizeOf227
  v37 := Tryz.zeroValue227
  t46 := Tryz.underlying369
  a46 := Tryz.isAgg369
  z46 := Tryz.sizeOf369
  v46 := Tryz.zeroValue369
  t51 := Tryz.underlying377
  a51 := Tryz.isAgg377
  z51 := Tryz.sizeOf377
  v51 := Tryz.zeroValue377
  t53 := Tryz.underlying359
  a53 := Tryz.isAgg359
  z53 := Tryz.sizeOf359
  v53 := Tryz.zeroValue359
  t75 := Tryz.underlying286
  a75 := Tryz.isAgg286
  z75 := Tryz.sizeOf286
  v75 := Tryz.zeroValue286
  t76 := Tryz.underlying287
  a76 := Tryz.isAgg287
  z76 := Tryz.sizeOf287
  v76 := Tryz.zeroValue287
  t85 := Tryz.underlying352
  a85 := Tryz.isAgg352
  z85 := Tryz.sizeOf352
  v85 := Tryz.zeroValue352
  t127 := Tryz.underlying290
  a127 := Tryz.isAgg290
  z127 := Tryz.sizeOf290
  v127 := Tryz.zeroValue290
  t143 := Tryz.underlying382
  a143 := Tryz.isAgg382
  z143 := Tryz.sizeOf382
  v143 := Tryz.zeroValue382
  t145 := Tryz.underlying384
  a145 := Tryz.isAgg384
  z145 := Tryz.sizeOf384
  v145 := Tryz.zeroValue384
  t167 := Tryz.underlying351
  a167 := Tryz.isAgg351
  z167 := Tryz.sizeOf351
  v167 := Tryz.zeroValue351
  t168 := Tryz.underlying354
  a168 := Tryz.isAgg354
  z168 := Tryz.sizeOf354
  v168 := Tryz.zeroValue354
  t171 := Tryz.underlying358
  a171 := Tryz.isAgg358
  z171 := Tryz.sizeOf358
  v171 := Tryz.zeroValue358
  t173 := Tryz.underlying362
  a173 := Tryz.isAgg362
  z173 := Tryz.sizeOf362
  v173 := Tryz.zeroValue362
  t175 := Tryz.underlying367
  a175 := Tryz.isAgg367
  z175 := Tryz.sizeOf367
  v175 := Tryz.zeroValue367
  t210 := Tryz.underlying372
  a210 := Tryz.isAgg372
  z210 := Tryz.sizeOf372
  v210 := Tryz.zeroValue372
  t212 := Tryz.underlying376
  a212 := Tryz.isAgg376
  z212 := Tryz.sizeOf376
  v212 := Tryz.zeroValue376
  t213 := Tryz.underlying378
  a213 := Tryz.isAgg378
  z213 := Tryz.sizeOf378
  t232 := Tryz.underlying388
  a232 := Tryz.isAgg388
  z232 := Tryz.sizeOf388
  v232 := Tryz.zeroValue388
  t233 := Tryz.underlying389
  a233 := Tryz.isAgg389
  z233 := Tryz.sizeOf389
  v233 := Tryz.zeroValue389
  g15 := by kernel_rfl
  g16 := by kernel_rfl
  g17 := by kernel_rfl
  g18 := by kernel_rfl
  g19 := by kernel_rfl }
open Go.RowKit in
theorem Tryz.strconv_Atoi (s : ByteArray) (n : Int) (hl : s.size ≤ 18) (h : Lib.atoi s.data.toList = some n) (w : World) :
    Calls Tryz.prog 326 #[.string s] w fun e w' => e = .returned (.tuple #[.int .i64 n, .nilIface]) ∧ ∃ t, w' = Lib.bytesWorld w 5 t := Any.strconv_Atoi Tryz.lays172 s n hl h w
def Tryz.laysC172_ren : Go.Shelf.Ren := ⟨fun | 172 => 326 | 244 => 347 | 245 => 348 | 247 => 363 | 279 => 364 | 280 => 365 | 281 => 366 | 282 => 367 | 287 => 377 | 316 => 378 | 171 => 287 | 205 => 379 | 321 => 386 | 322 => 387 | 243 => 331 | 246 => 350 | 283 => 369 | 284 => 370 | 285 => 371 | 286 => 372 | 129 => 382 | 317 => 381 | 318 => 383 | 319 => 384 | 320 => 385 | 337 => 391 | 338 => 392 | n => n, fun | 9 => 9 | 3 => 3 | 75 => 286 | 76 => 287 | 4 => 4 | 5 => 5 | 167 => 351 | 37 => 227 | 0 => 0 | 85 => 352 | 2 => 2 | 168 => 354 | 53 => 359 | 175 => 367 | 46 => 369 | 210 => 372 | 127 => 290 | 145 => 384 | 143 => 382 | 21 => 21 | 171 => 358 | 173 => 362 | 212 => 376 | 51 => 377 | 20 => 20 | 213 => 378 | 232 => 388 | 233 => 389 | 80 => 231 | n => n, fun | 15 => 0 | 16 => 1 | 17 => 2 | 18 => 4 | 19 => 5 | n => n⟩
theorem Tryz.laysC172 : Go.Proofs.LaysC.n172 Tryz.prog Tryz.laysC172_ren := {
  mixed := by kernel_rfl
  f129 := Tryz.func382.trans (congrArg some (by kernel_rfl))
  f171 := Tryz.func287.trans (congrArg some (by kernel_rfl))
  f172 := Tryz.func326.trans (congrArg some (by kernel_rfl))
  f205 := Tryz.func379.trans (congrArg some (by kernel_rfl))
  f243 := Tryz.func331.trans (congrArg some (by kernel_rfl))
  f244 := Tryz.func347.trans (congrArg some (by kernel_rfl))
  f245 := Tryz.func348.trans (congrArg some (by kernel_rfl))
  f246 := Tryz.func350.trans (congrArg some (by kernel_rfl))
  f247 := Tryz.func363.trans (congrArg some (by kernel_rfl))
  f279 := Tryz.func364.trans (congrArg some (by kernel_rfl))
  f280 := Tryz.func365.trans (congrArg some (by kernel_rfl))
  f281 := Tryz.func366.trans (congrArg some (by kernel_rfl))
  f282 := Tryz.func367.trans (congrArg some (by kernel_rfl))
  f283 := Tryz.func369.trans (congrArg some (by kernel_rfl))
  f284 := Tryz.func370.trans (congrArg some (by kernel_rfl))
  f285 := Tryz.func371.trans (congrArg some (by kernel_rfl))
  f286 := Tryz.func372.trans (congrArg some (by kernel_rfl))
  f287 := Tryz.func377.trans (congrArg some (by kernel_rfl))
  f316 := Tryz.func378.trans (congrArg some (by kernel_rfl))
  f317 := Tryz.func381.trans (congrArg some (by kernel_rfl))
  f318 := Tryz.func383.trans (congrArg some (by kernel_rfl))
  f319 := Tryz.func384.trans (congrArg some (by kernel_rfl))
  f320 := Tryz.func385.trans (congrArg some (by kernel_rfl))
  f321 := Tryz.func386.trans (congrArg some (by kernel_rfl))
  f322 := Tryz.func387.trans (congrArg some (by kernel_rfl))
  f337 := Tryz.func391.trans (congrArg some (by kernel_rfl))
  f338 := Tryz.func392.trans (congrArg some (by kernel_rfl))
  t0 := Tryz.underlying0
  a0 := Tryz.isAgg0
  z0 := Tryz.sizeOf0
  v0 := Tryz.zeroValue0
  t2 := Tryz.underlying2
  a2 := Tryz.isAgg2
  z2 := Tryz.sizeOf2
  v2 := Tryz.zeroValue2
  t3 := Tryz.underlying3
  a3 := Tryz.isAgg3
  z3 := Tryz.sizeOf3
  v3 := Tryz.zeroValue3
  t4 := Tryz.underlying4
  a4 := Tryz.isAgg4
  z4 := Tryz.sizeOf4
  v4 := Tryz.zeroValue4
  t5 := Tryz.underlying5
  a5 := Tryz.isAgg5
  z5 := Tryz.sizeOf5
  v5 := Tryz.zeroValue5
  t9 := Tryz.underlying9
  a9 := Tryz.isAgg9
  z9 := Tryz.sizeOf9
  v9 := Tryz.zeroValue9
  t20 := Tryz.underlying20
  a20 := Tryz.isAgg20
  z20 := Tryz.sizeOf20
  v20 := Tryz.zeroValue20
  t21 := Tryz.underlying21
  a21 := Tryz.isAgg21
  z21 := Tryz.sizeOf21
  v21 := Tryz.zeroValue21
  t37 := Tryz.underlying227
  a37 := Tryz.isAgg227
  z37 := Tryz.sizeOf227
  v37 := Tryz.zeroValue227
  t46 := Tryz.underlying369
  a46 := Tryz.isAgg369
  z46 := Tryz.sizeOf369
  v46 := Tryz.zeroValue369
  t51 := Tryz.underlying377
  a51 := Tryz.isAgg377
  z51 := Tryz.sizeOf377
  v51 := Tryz.zeroValue377
  t53 := Tryz.underlying359
  a53 := Tryz.isAgg359
  z53 := Tryz.sizeOf359
  v53 := Tryz.zeroValue359
  t75 := Tryz.underlying286
  a75 := Tryz.isAgg286
  z75 := Tryz.sizeOf286
  v75 := Tryz.zeroValue286
  t76 := Tryz.underlying287
  a76 := Tryz.isAgg287
  z76 := Tryz.sizeOf287
  v76 := Tryz.zeroValue287
  t85 := Tryz.underlying352
  a85 := Tryz.isAgg352
  z85 := Tryz.sizeOf352
  v85 := Tryz.zeroValue352
  t127 := Tryz.underlying290
  a127 := Tryz.isAgg290
  z127 := Tryz.sizeOf290
  v127 := Tryz.zeroValue290
  t143 := Tryz.underlying382
  a143 := Tryz.isAgg382
  z143 := Tryz.sizeOf382
  v143 := Tryz.zeroValue382
  t145 := Tryz.underlying384
  a145 := Tryz.isAgg384
  z145 := Tryz.sizeOf384
  v145 := Tryz.zeroValue384
  t167 := Tryz.underlying351
  a167 := Tryz.isAgg351
  z167 := Tryz.sizeOf351
  v167 := Tryz.zeroValue351
  t168 := Tryz.underlying354
  a168 := Tryz.isAgg354
  z168 := Tryz.sizeOf354
  v168 := Tryz.zeroValue354
  t171 := Tryz.underlying358
  a171 := Tryz.isAgg358
  z171 := Tryz.sizeOf358
  v171 := Tryz.zeroValue358
  t173 := Tryz.underlying362
  a173 := Tryz.isAgg362
  z173 := Tryz.sizeOf362
  v173 := Tryz.zeroValue362
  t175 := Tryz.underlying367
  a175 := Tryz.isAgg367
  z175 := Tryz.sizeOf367
  v175 := Tryz.zeroValue367
  t210 := Tryz.underlying372
  a210 := Tryz.isAgg372
  z210 := Tryz.sizeOf372
  v210 := Tryz.zeroValue372
  t212 := Tryz.underlying376
  a212 := Tryz.isAgg376
  z212 := Tryz.sizeOf376
  v212 := Tryz.zeroValue376
  t213 := Tryz.underlying378
  a213 := Tryz.isAgg378
  z213 := Tryz.sizeOf378
  t232 := Tryz.underlying388
  a232 := Tryz.isAgg388
  z232 := Tryz.sizeOf388
  v232 := Tryz.zeroValue388
  t233 := Tryz.underlying389
  a233 := Tryz.isAgg389
  z233 := Tryz.sizeOf389
  v233 := Tryz.zeroValue389
  g15 := by kernel_rfl
  g16 := by kernel_rfl
  g17 := by kernel_rfl
  g18 := by kernel_rfl
  g19 := by kernel_rfl
  t80 := Tryz.underlying231
  a80 := Tryz.isAgg231
  z80 := Tryz.sizeOf231
  v80 := Tryz.zeroValue231
  i0 := by kernel_rfl
  i2 := by kernel_rfl
  i3 := by kernel_rfl
  i4 := by kernel_rfl
  i5 := by kernel_rfl
  i9 := by kernel_rfl
  i20 := by kernel_rfl
  i21 := by kernel_rfl
  i37 := by kernel_rfl
  i46 := by kernel_rfl
  i51 := by kernel_rfl
  i53 := by kernel_rfl
  i75 := by kernel_rfl
  i76 := by kernel_rfl
  i80 := by kernel_rfl
  i85 := by kernel_rfl
  i127 := by kernel_rfl
  i143 := by kernel_rfl
  i145 := by kernel_rfl
  i167 := by kernel_rfl
  i168 := by kernel_rfl
  i171 := by kernel_rfl
  i173 := by kernel_rfl
  i175 := by kernel_rfl
  i210 := by kernel_rfl
  i212 := by kernel_rfl
  i232 := by kernel_rfl
  i233 := by kernel_rfl
  m15 := by kernel_rfl
  m16 := by kernel_rfl
  m17 := by kernel_rfl
  m18 := by kernel_rfl
  m19 := by kernel_rfl
  c0 := by kernel_rfl
  c2 := by kernel_rfl
  c3 := by kernel_rfl
  c4 := by kernel_rfl
  c5 := by kernel_rfl
  c9 := by kernel_rfl
  c20 := by kernel_rfl
  c21 := by kernel_rfl
  c37 := by kernel_rfl
  c46 := by kernel_rfl
  c51 := by kernel_rfl
  c53 := by kernel_rfl
  c75 := by kernel_rfl
  c76 := by kernel_rfl
  c80 := by kernel_rfl
  c85 := by kernel_rfl
  c127 := by kernel_rfl
  c143 := by kernel_rfl
  c145 := by kernel_rfl
  c167 := by kernel_rfl
  c168 := by kernel_rfl
  c171 := by kernel_rfl
  c173 := by kernel_rfl
  c175 := by kernel_rfl
  c210 := by kernel_rfl
  c212 := by kernel_rfl
  c213 := by kernel_rfl
  c232 := by kernel_rfl
  c233 := by kernel_rfl }
open Go.RowKit in
theorem Tryz.strconv_Atoi_err_var (s : ByteArray) (hl : s.size ≤ 18) (h : Lib.atoi s.data.toList = none) (tp : TypeId) (p : Value) (w : World) (hvar : w.var? Tryz.prog "strconv.ErrSyntax" = some #[.iface tp p]) :
    Calls Tryz.prog 326 #[.string s] w fun e w' => ∃ N, e = .returned (.tuple #[.int .i64 0, .iface 354 (.pointer (some ⟨N, 0, none⟩))]) ∧ w.heap.size ≤ N ∧ w'.heap[N]? = some (.cells #[.string ⟨#[65, 116, 111, 105]⟩, .string s, .iface tp p] 372 (0, 0)) ∧ Below w.heap.size w w' := Any.strconv_Atoi_err_var Tryz.laysC172 s hl h tp p w hvar
end Go.Proofs

namespace Go.Ab
theorem grow_of_below {w w' : World} {σ : Nat → Nat} (hl : ∀ b, b < w.heap.size ∨ σ b = 0) (h : Go.RowKit.Below w.heap.size w w') : Grow w σ w' σ :=
  ⟨h.size, h.os, h.output, fun b hb => ⟨h.block b hb, rfl⟩, fun b => (hl b).elim (fun x => .inl (Nat.lt_of_lt_of_le x h.size)) .inr⟩
theorem three_val {x y z : V} {vs : List Value} {w : World} {σ : Nat → Nat} {S : Store} {β : Hs} (h : RepVs w σ S β [x, y, z] vs) : ∃ u v t, vs = [u, v, t] ∧ RepV w σ S β x u ∧ RepV w σ S β y v ∧ RepV w σ S β z t := by
  obtain ⟨hl, h⟩ := h
  obtain ⟨u, e0, h0⟩ := h 0 x rfl
  obtain ⟨v, e1, h1⟩ := h 1 y rfl
  obtain ⟨t, e2, h2⟩ := h 2 z rfl
  match vs, hl, e0, e1, e2 with
  | [a, b, c], _, e0, e1, e2 => simp at e0 e1 e2; subst e0; subst e1; subst e2; exact ⟨_, _, _, rfl, h0, h1, h2⟩
end Go.Ab
namespace Go.Proofs.YtlmhknhlmicmeaaGreatDoor
open Go Go.Ab
theorem itoa_below (n : Int) (h0 : -9223372036854775808 ≤ n) (h1 : n ≤ 9223372036854775807) (w : World) (htab : Lib.TabIs Tryz.prog w "internal/strconv.uint64pow10" .u64 Lib.pow10Tab) :
    Calls Tryz.prog 287 #[.int .i64 n] w fun e w' => e = .returned (.string ⟨(Lib.itoa n).toArray⟩) ∧ Go.RowKit.Below w.heap.size w w' :=
  (Tryz.strconv_Itoa n h0 h1 w htab).mono fun e w' ⟨he, k, os, hw⟩ => ⟨he, by
    subst hw
    exact ⟨rfl, rfl, rfl, by show w.heap.size ≤ (w.heap ++ os).size; simp, fun b hb => by show (w.heap ++ os)[b]? = _; rw [Array.getElem?_append_left hb]⟩⟩
set_option maxHeartbeats 2000000 in
theorem readInt_run (s : List UInt8) (hs : s.length ≤ 18) (tp : TypeId) (p : Value) (w : World) (htab : Lib.TabIs Tryz.prog w "internal/strconv.uint64pow10" .u64 Lib.pow10Tab) (hvar : w.var? Tryz.prog "strconv.ErrSyntax" = some #[.iface tp p]) :
    Calls Tryz.prog 281 #[.string ⟨s.toArray⟩, .int .i64 (-999999999999), .int .i64 999999999999] w fun e w' => e = .returned (.tuple #[.int .i64 ((readI s).getD 0), .bool (readI s).isSome]) ∧ Go.RowKit.Below w.heap.size w w' := by
  have hsz : (⟨s.toArray⟩ : ByteArray).size ≤ 18 := by show s.toArray.size ≤ 18; simpa using hs
  cases h : Lib.atoi s with
  | none =>
    have hc := Tryz.strconv_Atoi_err_var ⟨s.toArray⟩ hsz (by simpa using h) tp p w hvar
    have hri : readI s = none := by unfold readI; rw [h]
    rw [hri]
    clear hsz
    go_enter Tryz.func281, Tryz.ntmps281
    go_wp2_with (go_at_call 326; refine hc.mono ?_; rintro e W1 ⟨N, rfl, -, -, hb⟩)
    go_ret2
    exact ⟨rfl, hb⟩
  | some n =>
    have hbd := Lib.atoi_bound h hs
    have hc := Tryz.strconv_Atoi ⟨s.toArray⟩ n hsz (by simpa using h) w
    have hri : readI s = if (-999999999999 ≤ n ∧ n ≤ 999999999999) ∧ Lib.itoa n = s then some n else none := by unfold readI; rw [h]
    have hc' : Calls Tryz.prog 326 #[.string ⟨s.toArray⟩] w fun e w' => e = .returned (.tuple #[.int .i64 n, .nilIface]) ∧ Go.RowKit.Below w.heap.size w w' := hc.mono fun e w' ⟨he, t, hw⟩ => ⟨he, by rw [hw]; exact Lib.bytesWorld_below _ _ _⟩
    have hi : ∀ W1, Go.RowKit.Below w.heap.size w W1 → Calls Tryz.prog 287 #[.int .i64 n] W1 fun e w' => e = .returned (.string ⟨(Lib.itoa n).toArray⟩) ∧ Go.RowKit.Below w.heap.size w w' := fun W1 hw =>
      (itoa_below n (by omega) (by omega) _ ((Lib.tabBelow_of_tabIs htab).on hw).here).mono fun e w' ⟨he, hb⟩ => ⟨he, hw.trans (hb.mono hw.size)⟩
    clear hsz h hc
    go_enter Tryz.func281, Tryz.ntmps281
    go_wp2_with (first | (go_at_call 326; refine hc'.mono ?_; rintro e W1 ⟨rfl, hb1⟩) | (go_at_call 287; refine (hi _ hb1).mono ?_; rintro e W2 ⟨rfl, hb2⟩))
    all_goals go_ret2
    all_goals first
      | (exfalso; omega)
      | exact ⟨rfl, hb2⟩
      | exact ⟨rfl, hb1⟩
      | (rw [hri, if_pos ⟨⟨by omega, by omega⟩, by simp_all; done⟩]; exact ⟨rfl, hb2⟩)
      | (rw [hri, if_neg (by rintro ⟨hc, _⟩; omega)]; exact ⟨rfl, hb1⟩)
      | (rw [hri, if_neg (by rintro ⟨_, hc⟩; simp [hc] at *; omega)]; exact ⟨rfl, hb2⟩)
      | (rw [hri, if_neg (by rintro ⟨_, hc⟩; simp_all; done)]; exact ⟨rfl, hb2⟩)
      | trace_state
theorem errSyntax_var {w : World} {σ : Nat → Nat} (h : Glob w σ) : ∃ tp p, w.var? Tryz.prog "strconv.ErrSyntax" = some #[.iface tp p] := by
  obtain ⟨c, t, fz, q1, q2, q3⟩ := h 0 (fun l => ∃ te pe, l = [Value.iface te pe]) (List.mem_cons_of_mem _ (List.mem_cons_of_mem _ (List.mem_cons_self ..)))
  obtain ⟨te, pe, e⟩ := q2
  have hn : Tryz.prog.globalNamed "strconv.ErrSyntax" = some 0 := by kernel_rfl
  refine ⟨te, pe, ?_⟩
  unfold World.var?
  rw [hn]
  simp only [Option.bind_some, q1, Option.some.injEq]
  exact Array.ext' e
theorem implReadInt_ok (s : List UInt8) (hs : s.length ≤ 18) : PCall Tryz.prog 281 [.c (.d (.s s)), .c (.d (.i .i64 (-999999999999))), .c (.d (.i .i64 999999999999))] (.tup [(false, [.d (.i .i64 ((readI s).getD 0))]), (false, [.d (.b (readI s).isSome)])]) := fun S => by
  refine ⟨⟨_, Tryz.func281, by kernel_rfl, by kernel_rfl⟩, fun w σ β vs hS hv => ?_⟩
  obtain ⟨u, v, t, rfl, ⟨hu, _⟩, ⟨hv, _⟩, ⟨ht, _⟩⟩ := three_val hv
  have hu0 : u = .string ⟨s.toArray⟩ := by cases hu; rfl
  have hv0 : v = .int .i64 (-999999999999) := by cases hv; rfl
  have ht0 : t = .int .i64 999999999999 := by cases ht; rfl
  subst hu0 hv0 ht0
  obtain ⟨tp, p, hvar⟩ := errSyntax_var hS.glob
  refine (readInt_run s hs tp p w (pow10_tab hS.glob) hvar).mono fun e w' ⟨he, hb⟩ => ?_
  have hg : Grow w σ w' σ := grow_of_below hS.live hb
  exact ⟨_, .tup [(false, [.d (.i .i64 ((readI s).getD 0))]), (false, [.d (.b (readI s).isSome)])], S, σ, β, he, hS.grow hg, Keep.refl _ _, Step.of_grow hg, ⟨_, rfl, rfl, fun j y hy => by
    match j, hy with
    | 0, hy => simp at hy; subst hy; exact ⟨_, rfl, _, rfl, .i _ _, rfl⟩
    | 1, hy => simp at hy; subst hy; exact ⟨_, rfl, _, rfl, .b _, rfl⟩
    | j + 2, hy => simp at hy⟩, rfl, rfl⟩
theorem implParseInt_ok (s : List UInt8) (hs : s.length ≤ 18) : PCall Tryz.prog 207 [.c (.d (.s s))] (.tup [(false, [.d (.i .i64 ((readI s).getD 0))]), (false, [.d (.b (readI s).isSome)])]) := fun S => by
  refine acall_cw (rs := [.tmp 2, .tmp 3]) Tryz.checked.mixed Tryz.func207 Tryz.ntmps207 rfl rfl rfl rfl rfl ?_
  simp -implicitDefEqProofs (disch := omega) only [go_sem]
  refine call_w (implReadInt_ok s hs) ?_
  simp -implicitDefEqProofs (disch := omega) only [go_sem] <;> (repeat (with_reducible refine And.intro ?_ ?_; focus first | omega | rfl | assumption | exact ⟨_, rfl, rfl⟩ | (simp; omega) | (simp; done)))
end Go.Proofs.YtlmhknhlmicmeaaGreatDoor

namespace Go.Ab
theorem good_of {l : List MSExpr} (h2 : 2 ≤ l.length) (h : atA l 0 = wMethod → 3 ≤ l.length) : goodL true l := fun e => by
  rcases e.2 with e | e
  · omega
  · have := h e.1; omega
theorem form_list {x : MSExpr} (h : formX x = true) (ha : x.fAtom = []) : formXs x.fList = true := by rw [formX_eq, if_pos ha] at h; exact h
theorem form_atom {x : MSExpr} (h : formX x = true) (ha : x.fAtom ≠ []) : x.fAtom.length ≤ 18 := by
  rw [formX_eq, if_neg ha, Bool.and_eq_true] at h
  have h1 := h.1
  unfold validAtom at h1
  rw [Bool.and_eq_true, decide_eq_true_eq] at h1
  omega
theorem form_last {x : MSExpr} (h : formX x = true) (ha : x.fList ≠ []) : formXs x.fList = true := by
  by_cases e : x.fAtom = []
  · exact form_list h e
  · rw [formX_eq, if_neg e, Bool.and_eq_true, decide_eq_true_eq] at h
    exact absurd (List.eq_nil_of_length_eq_zero h.2) ha
theorem ma0 {x : MArm} {n : Nat} (h : x = .mk [] [] zeroEx) : Less (.agg [.d (.s []), .fsl [], .d (.i .i64 0), .d (.s []), .d (.s []), .d (.i .i64 0), .d (.i .i64 0), .d (.s []), .fsl [], .fsl [], .fsl []]) (x.vl n) := by
  rw [h]
  exact (CellsLe.cons (.refl _) (.cons (cell_nil_ol _) (.cons (.refl _) (.cons (.refl _) (.cons (.refl _) (.cons (.refl _) (.cons (.refl _) (.cons (.refl _) (.cons (cell_nil_ol _) (.cons (cell_nil_ol _) (.cons (cell_nil_ol _) .nil))))))))))).less
end Go.Ab
namespace Go.Proofs.YtlmhknhlmicmeaaGreatDoor
open Go Go.Ab
theorem implDecE_all : ∀ N : Nat, (∀ x : MSExpr, SizeOf.sizeOf x < N → ∀ n : Nat, formX x = true → x.sz ≤ 4194304 → PCall Tryz.prog 110 [x.v] ((decE true x).vl n)) ∧
    (∀ xs : List MSExpr, SizeOf.sizeOf xs < N → ∀ n q : Nat, formXs xs = true → xs.length ≤ 4194304 → (∀ t ∈ xs, t.sz ≤ 4194304) → PCall Tryz.prog 208 [.c (.d (.sl (xs.map MSExpr.enc)))] (.c (.d (.ol n (lE (xs.map (decE true)) q))))) ∧
    (∀ x : MSExpr, SizeOf.sizeOf x < N → ∀ n : Nat, formX x = true → x.sz ≤ 4194304 → PCall Tryz.prog 209 [x.v] ((decM true x).vl n))
  | 0 => ⟨fun x h => by omega, fun x h => by omega, fun x h => by omega⟩
  | N + 1 => by
    obtain ⟨ih, ihS, ihM⟩ := implDecE_all N
    refine ⟨fun x hn n hfo hsz => PCall.of_le fun S => ?_, fun xs hn n q hfo hlen hsz S => ?_, fun x hn n hfo hsz => PCall.of_le fun S => ?_⟩
    · have lArgs := MSExpr.lt_List x
      have h1 := sz_fList x
      have h2 := sz_fAtom x
      have hall : ∀ t ∈ x.fList, t.sz ≤ 4194304 := fun t ht => by have := szX_mem ht; omega
      have hr := enc_rows (l := x.fList)
      have hso := fun i => sizeOf_drop i x.fList
      have hdl : ∀ i, (x.fList.drop i).length ≤ 4194304 := fun i => by rw [List.length_drop]; omega
      have hda : ∀ i, ∀ t ∈ x.fList.drop i, t.sz ≤ 4194304 := fun i t ht => hall t (List.mem_of_mem_drop ht)
      have hdd := encX_drop x.fList x.fList.length 1 (Nat.le_refl _)
      refine acall_cwL (n) (rs := [.cell 2 61]) Tryz.checked.mixed Tryz.func110 Tryz.ntmps110 rfl rfl rfl rfl rfl ?_
      simp -implicitDefEqProofs (disch := omega) only [go_sem]
      with_reducible refine split2 (fun hb => ?_) (fun hb => ?_) <;> have h := hb <;> (try simp only [wf_preprocess] at h) <;> simp -implicitDefEqProofs (disch := omega) only [go_sem, hb] <;> (repeat (with_reducible refine And.intro ?_ ?_; focus first | omega | rfl | assumption | exact ⟨_, rfl, rfl⟩ | (simp; omega) | (simp; done)))
      · have hne := h
        refine call_w (implParseInt_ok x.fAtom (form_atom hfo hne)) ?_
        cases hri : readI x.fAtom with
        | some m =>
          simp -implicitDefEqProofs (disch := omega) only [go_sem, Option.getD_some, Option.isSome_some]
          exact ie0 (decE_int hne hri)
        | none =>
          simp -implicitDefEqProofs (disch := omega) only [go_sem, Option.getD_none, Option.isSome_none]
          with_reducible refine split2 (fun hb => ?_) (fun hb => ?_) <;> have h := hb <;> (try simp only [wf_preprocess] at h) <;> simp -implicitDefEqProofs (disch := omega) only [go_sem, hb] <;> (repeat (with_reducible refine And.intro ?_ ?_; focus first | omega | rfl | assumption | exact ⟨_, rfl, rfl⟩ | (simp; omega) | (simp; done)))
          · exact ie0 (decE_true hne hri h)
          have k1 := h
          with_reducible refine split2 (fun hb => ?_) (fun hb => ?_) <;> have h := hb <;> (try simp only [wf_preprocess] at h) <;> simp -implicitDefEqProofs (disch := omega) only [go_sem, hb] <;> (repeat (with_reducible refine And.intro ?_ ?_; focus first | omega | rfl | assumption | exact ⟨_, rfl, rfl⟩ | (simp; omega) | (simp; done)))
          · exact ie0 (decE_false hne hri k1 h)
          have k2 := h
          exact ie0 (decE_var hne hri k1 k2)
      have ha := h
      have hfs := form_list hfo ha
      with_reducible refine split2 (fun hb => ?_) (fun hb => ?_) <;> have h := hb <;> (try simp only [wf_preprocess] at h) <;> simp -implicitDefEqProofs (disch := omega) only [go_sem, hb] <;> (repeat (with_reducible refine And.intro ?_ ?_; focus first | omega | rfl | assumption | exact ⟨_, rfl, rfl⟩ | (simp; omega) | (simp; done)))
      · exact ie0 (decE_zero ha fun e => e ⟨rfl, .inl (by omega)⟩)
      have hl2 : 2 ≤ x.fList.length := by omega
      have a0 := atA_get (l := x.fList) (i := 0) (by omega)
      obtain ⟨m, hm⟩ : ∃ m, m = x.fList.drop 1 := ⟨_, rfl⟩
      have hml : m.length = x.fList.length - 1 := by rw [hm, List.length_drop]
      have hmi : ∀ i (hi : i < m.length), m[i] = x.fList[i + 1]'(by omega) := fun i hi => by simp only [hm, List.getElem_drop, Nat.add_comm 1 i]
      have hrm := enc_rows (l := m)
      have hmd : ∀ i, m.drop i = x.fList.drop (i + 1) := fun i => by rw [hm, List.drop_drop, Nat.add_comm 1 i]
      have hme := fun i => encX_drop m m.length i (Nat.le_refl _)
      have b1 : atA x.fList 1 = (m[0]'(by omega)).fAtom := by rw [hmi 0 (by omega), atA_get (by omega)]
      refine ⟨⟨by omega, by omega, hr⟩, ?_⟩
      rw [hdd, ← hm]
      simp only [← a0]
      with_reducible refine split2 (fun hb => ?_) (fun hb => ?_) <;> have h := hb <;> (try simp only [wf_preprocess] at h) <;> simp -implicitDefEqProofs (disch := omega) only [go_sem, hb] <;> (repeat (with_reducible refine And.intro ?_ ?_; focus first | omega | rfl | assumption | exact ⟨_, rfl, rfl⟩ | (simp; omega) | (simp; done)))
      · have hg := good_of hl2 fun e => by rw [h] at e; exact absurd e (by decide)
        have hdec := decE_Call ha hg h
        (repeat (with_reducible refine And.intro ?_ ?_; focus first | omega | rfl | assumption | exact ⟨_, rfl, rfl⟩ | (simp; omega) | (simp; done)))
        refine ⟨⟨by omega, by omega, hrm⟩, ?_⟩
        rw [hme, hmd, ← b1]
        refine call_w (ihS (x.fList.drop 2) (by have := hso 2; omega) (n + 1) (n + 1 + 1) (form_drop hfs 2) (hdl 2) (hda 2)) ?_
        simp -implicitDefEqProofs (disch := omega) only [go_sem]
        exact ie1 hdec
      have nCall := h
      with_reducible refine split2 (fun hb => ?_) (fun hb => ?_) <;> have h := hb <;> (try simp only [wf_preprocess] at h) <;> simp -implicitDefEqProofs (disch := omega) only [go_sem, hb] <;> (repeat (with_reducible refine And.intro ?_ ?_; focus first | omega | rfl | assumption | exact ⟨_, rfl, rfl⟩ | (simp; omega) | (simp; done)))
      · have hg := good_of hl2 fun e => by rw [h] at e; exact absurd e (by decide)
        have hdec := decE_New ha hg h
        (repeat (with_reducible refine And.intro ?_ ?_; focus first | omega | rfl | assumption | exact ⟨_, rfl, rfl⟩ | (simp; omega) | (simp; done)))
        refine ⟨⟨by omega, by omega, hrm⟩, ?_⟩
        rw [hme, hmd, ← b1]
        refine call_w (ihS (x.fList.drop 2) (by have := hso 2; omega) (n + 1) (n + 1 + 1) (form_drop hfs 2) (hdl 2) (hda 2)) ?_
        simp -implicitDefEqProofs (disch := omega) only [go_sem]
        exact ie1 hdec
      have nNew := h
      with_reducible refine split2 (fun hb => ?_) (fun hb => ?_) <;> have h := hb <;> (try simp only [wf_preprocess] at h) <;> simp -implicitDefEqProofs (disch := omega) only [go_sem, hb] <;> (repeat (with_reducible refine And.intro ?_ ?_; focus first | omega | rfl | assumption | exact ⟨_, rfl, rfl⟩ | (simp; omega) | (simp; done)))
      · have hg := good_of hl2 fun e => by rw [h] at e; exact absurd e (by decide)
        have hdec := decE_Let ha hg h
        (repeat (with_reducible refine And.intro ?_ ?_; focus first | omega | rfl | assumption | exact ⟨_, rfl, rfl⟩ | (simp; omega) | (simp; done)))
        refine ⟨⟨by omega, by omega, hrm⟩, ?_⟩
        rw [hme, hmd, ← b1]
        refine call_w (ihS (x.fList.drop 2) (by have := hso 2; omega) (n + 1) (n + 1 + 1) (form_drop hfs 2) (hdl 2) (hda 2)) ?_
        simp -implicitDefEqProofs (disch := omega) only [go_sem]
        exact ie1 hdec
      have nLet := h
      with_reducible refine split2 (fun hb => ?_) (fun hb => ?_) <;> have h := hb <;> (try simp only [wf_preprocess] at h) <;> simp -implicitDefEqProofs (disch := omega) only [go_sem, hb] <;> (repeat (with_reducible refine And.intro ?_ ?_; focus first | omega | rfl | assumption | exact ⟨_, rfl, rfl⟩ | (simp; omega) | (simp; done)))
      · have hg := good_of hl2 fun e => by rw [h] at e; exact absurd e (by decide)
        have hdec := decE_Pack ha hg h
        (repeat (with_reducible refine And.intro ?_ ?_; focus first | omega | rfl | assumption | exact ⟨_, rfl, rfl⟩ | (simp; omega) | (simp; done)))
        refine ⟨⟨by omega, by omega, hrm⟩, ?_⟩
        rw [hme, hmd, ← b1]
        refine call_w (ihS (x.fList.drop 2) (by have := hso 2; omega) (n + 1) (n + 1 + 1) (form_drop hfs 2) (hdl 2) (hda 2)) ?_
        simp -implicitDefEqProofs (disch := omega) only [go_sem]
        exact ie1 hdec
      have nPack := h
      with_reducible refine split2 (fun hb => ?_) (fun hb => ?_) <;> have h := hb <;> (try simp only [wf_preprocess] at h) <;> simp -implicitDefEqProofs (disch := omega) only [go_sem, hb] <;> (repeat (with_reducible refine And.intro ?_ ?_; focus first | omega | rfl | assumption | exact ⟨_, rfl, rfl⟩ | (simp; omega) | (simp; done)))
      · have hM := h
        with_reducible refine split2 (fun hb => ?_) (fun hb => ?_) <;> have h := hb <;> (try simp only [wf_preprocess] at h) <;> simp -implicitDefEqProofs (disch := omega) only [go_sem, hb] <;> (repeat (with_reducible refine And.intro ?_ ?_; focus first | omega | rfl | assumption | exact ⟨_, rfl, rfl⟩ | (simp; omega) | (simp; done)))
        · exact ie0 (decE_zero ha fun e => e ⟨rfl, .inr ⟨hM, by omega⟩⟩)
        have hl3 : 3 ≤ x.fList.length := by omega
        have hg := good_of hl2 fun _ => hl3
        have hdec := decE_Method ha hg hM
        have b2 : atA x.fList 2 = (m[1]'(by omega)).fAtom := by rw [hmi 1 (by omega), atA_get (by omega)]
        (repeat (with_reducible refine And.intro ?_ ?_; focus first | omega | rfl | assumption | exact ⟨_, rfl, rfl⟩ | (simp; omega) | (simp; done)))
        refine ⟨⟨by omega, by omega, hrm⟩, ?_⟩
        rw [hme, hmd, ← b1, ← b2]
        refine call_w (ihS (x.fList.drop 3) (by have := hso 3; omega) (n + 1) (n + 1 + 1) (form_drop hfs 3) (hdl 3) (hda 3)) ?_
        simp -implicitDefEqProofs (disch := omega) only [go_sem]
        exact ie1 hdec
      have nMethod := h
      have hg := good_of hl2 fun e => (nMethod e).elim
      with_reducible refine split2 (fun hb => ?_) (fun hb => ?_) <;> have h := hb <;> (try simp only [wf_preprocess] at h) <;> simp -implicitDefEqProofs (disch := omega) only [go_sem, hb] <;> (repeat (with_reducible refine And.intro ?_ ?_; focus first | omega | rfl | assumption | exact ⟨_, rfl, rfl⟩ | (simp; omega) | (simp; done)))
      · have hdec := decE_If ha hg h
        rw [hm]
        refine call_w (ihS (x.fList.drop 1) (by have := hso 1; omega) (n + 1) (n + 1 + 1) (form_drop hfs 1) (hdl 1) (hda 1)) ?_
        simp -implicitDefEqProofs (disch := omega) only [go_sem]
        exact ie1 hdec
      have nIf := h
      with_reducible refine split2 (fun hb => ?_) (fun hb => ?_) <;> have h := hb <;> (try simp only [wf_preprocess] at h) <;> simp -implicitDefEqProofs (disch := omega) only [go_sem, hb] <;> (repeat (with_reducible refine And.intro ?_ ?_; focus first | omega | rfl | assumption | exact ⟨_, rfl, rfl⟩ | (simp; omega) | (simp; done)))
      · have hdec := decE_The ha hg h
        have g1 : x.fList.getD 1 zeroX = m[0]'(by omega) := by rw [hmi 0 (by omega), List.getD_eq_getElem?_getD, List.getElem?_eq_getElem (by omega)]; rfl
        have gz := getD_sz' x 1 hsz
        rw [g1] at hdec gz
        (repeat (with_reducible refine And.intro ?_ ?_; focus first | omega | rfl | assumption | exact ⟨_, rfl, rfl⟩ | (simp; omega) | (simp; done)))
        refine call_w (implDecTy_lab m[0] n gz) ?_
        simp -implicitDefEqProofs (disch := omega) only [go_sem]
        refine ⟨⟨by omega, by omega, hrm⟩, ?_⟩
        rw [hme, hmd]
        refine call_w (ihS (x.fList.drop 2) (by have := hso 2; omega) (n + (cntTs (decT true m[0]).fArgs + 1)) (n + (cntTs (decT true m[0]).fArgs + 1) + 1) (form_drop hfs 2) (hdl 2) (hda 2)) ?_
        simp -implicitDefEqProofs (disch := omega) only [go_sem]
        exact ie2 hdec
      have nThe := h
      with_reducible refine split2 (fun hb => ?_) (fun hb => ?_) <;> have h := hb <;> (try simp only [wf_preprocess] at h) <;> simp -implicitDefEqProofs (disch := omega) only [go_sem, hb] <;> (repeat (with_reducible refine And.intro ?_ ?_; focus first | omega | rfl | assumption | exact ⟨_, rfl, rfl⟩ | (simp; omega) | (simp; done)))
      · have hdec := decE_Case ha hg h
        refine ⟨⟨by omega, hrm⟩, ?_⟩
        rw [← List.map_take]
        refine call_w (ihS (m.take 1) (by have := hso 1; have := sizeOf_take 1 m; rw [hm] at this ⊢; omega) (n + 1) (n + 1 + 1) (form_take (by rw [hm]; exact form_drop hfs 1) 1) (by rw [List.length_take]; omega) (fun t ht => hda 1 t (by rw [← hm]; exact List.mem_of_mem_take ht))) ?_
        simp -implicitDefEqProofs (disch := omega) only [go_sem]
        refine ⟨⟨by omega, by omega, hrm⟩, ?_⟩
        rw [hme, hmd]
        obtain ⟨ags, hags⟩ : ∃ ags, ags = (m.take 1).map (decE true) := ⟨_, rfl⟩
        obtain ⟨r, hrr⟩ : ∃ r, r = x.fList.drop 2 := ⟨_, rfl⟩
        have hrl : r.length = x.fList.length - 2 := by rw [hrr, List.length_drop]
        have hrs : ∀ t ∈ r, t.sz ≤ 4194304 ∧ SizeOf.sizeOf t < N ∧ formX t = true := fun t ht => by
          rw [hrr] at ht
          have h5 := List.mem_of_mem_drop ht
          have := List.sizeOf_lt_of_mem h5
          exact ⟨hda 2 t ht, by omega, form_mem hfs h5⟩
        obtain ⟨q, hq⟩ : ∃ q, q = n + 1 + (cntEs ags + 1) := ⟨_, rfl⟩
        obtain ⟨L, hL⟩ : ∃ L : Nat → Nat, L = fun k => q + 1 + cntMs ((r.map (decM true)).take k) := ⟨_, rfl⟩
        obtain ⟨T, hT⟩ : ∃ T : Nat → List (List D), T = fun k => lM ((r.map (decM true)).take k) (q + 1) := ⟨_, rfl⟩
        have hT0 : T 0 = [] := by rw [hT]; rfl
        have hTl : ∀ k, (T k).length ≤ k := fun k => by rw [hT]; simp only [lM_length]; exact List.length_take_le _ _
        have hTs : ∀ k (hk : k < r.length), T k ++ [labR (decM true r[k]).enc (L k)] = T (k + 1) := fun k hk => by
          have := lM_snoc (l := r.map (decM true)) (i := k) (by rw [List.length_map]; exact hk) (q + 1)
          rw [List.getElem_map] at this
          rw [hT, hL]; exact this
        have hTe : T r.length = lM (r.map (decM true)) (q + 1) := by
          rw [hT]; simp only
          rw [List.take_of_length_le (by simp)]
        clear hT hL
        rw [← hm, ← hags, ← hrr] at hdec
        rw [← hags, ← hrr]
        simp -implicitDefEqProofs (disch := omega) only [go_sem]
        refine aw_boxltok q 3 8 11 _ rfl rfl ?_
        refine loop_at (ι := Nat) Tryz.checked.mixed rfl [2, 7, 127, 128, 129] (fun k => [.c (.ptr (0, 2) 0), .c (.ptr (0, 3) 0), .c (.d (.sl (r.map MSExpr.enc))), .c (.d (.i .i64 r.length)), .c (.d (.i .i64 k))])
          (fun k => [.seed n, .box [.d (.s x.fAtom), .d (.sl (x.fList.map MSExpr.enc))], .box [.d (.i .i64 0), .d (.s []), .d (.s []), .d (.i .i64 0), .d (.i .i64 0), .d (.s []), .fsl [], .fsl [], .fsl []],
            .box [.d (.i .i64 7), .d (.s []), .d (.s []), .d (.i .i64 0), .d (.i .i64 0), .d (.s []), .fsl [], .d (.ol (n + 1) (lE ags (n + 1 + 1))), .tsl (0, 4) (T k)], .ltok q 11 (T k)] :: S)
          (fun k => k ≤ r.length) (fun k => r.length - k) 0 rfl (by rw [hT0]; rfl) (Nat.zero_le _) ?_
        intro k hk
        have hlk := hTl k
        simp -implicitDefEqProofs (disch := omega) only [go_sem]
        with_reducible refine split2 (fun hb => ?_) (fun hb => ?_) <;> have h := hb <;> (try simp only [wf_preprocess] at h) <;> simp -implicitDefEqProofs (disch := omega) only [go_sem, hb] <;> (repeat (with_reducible refine And.intro ?_ ?_; focus first | omega | rfl | assumption | exact ⟨_, rfl, rfl⟩ | (simp; omega) | (simp; done)))
        · have hk' : k < r.length := by omega
          have hmm := hrs _ (List.getElem_mem hk')
          have hs := hTs k hk'
          simp only [labAr_eq, labEx_eq, List.cons_append, List.nil_append] at hs
          (repeat (with_reducible refine And.intro ?_ ?_; focus first | omega | rfl | assumption | exact ⟨_, rfl, rfl⟩ | (simp; omega) | (simp; done)))
          refine call_w (ihM r[k] hmm.2.1 (L k) hmm.2.2 hmm.1) ?_
          simp -implicitDefEqProofs (disch := omega) only [go_sem]
          (repeat (with_reducible refine And.intro ?_ ?_; focus first | omega | rfl | assumption | exact ⟨_, rfl, rfl⟩ | (simp; omega) | (simp; done)))
          rw [hs]
          exact inv_drop 5 (by decide) (k + 1) (by omega) rfl rfl rfl rfl (by omega)
        · have hk' : k = r.length := by omega
          rw [hk', hTe, hq]
          exact ie3 hdec
      have nCase := h
      have hdec := decE_Prim ha hg nCall nNew nLet nPack nMethod nIf nThe nCase
      rw [hm]
      refine call_w (ihS (x.fList.drop 1) (by have := hso 1; omega) (n + 1) (n + 1 + 1) (form_drop hfs 1) (hdl 1) (hda 1)) ?_
      simp -implicitDefEqProofs (disch := omega) only [go_sem]
      exact ie1 hdec
    · have hsnoc := fun (i : Nat) (hi : i < xs.length) => lE_snoc (l := xs.map (decE true)) (i := i) (by rw [List.length_map]; exact hi) q
      refine acall_cwL (n) (rs := [.tmp 2]) Tryz.checked.mixed Tryz.func208 Tryz.ntmps208 rfl rfl rfl rfl rfl ?_
      simp -implicitDefEqProofs (disch := omega) only [go_sem]
      (repeat (with_reducible refine And.intro ?_ ?_; focus first | omega | rfl | assumption | exact ⟨_, rfl, rfl⟩ | (simp; omega) | (simp; done)))
      refine aw_ltok n 3 9 [] (.inl rfl) (by simp) ?_
      refine loop_at (ι := Nat) Tryz.checked.mixed rfl [3, 7, 8, 9] (fun i => [.c (.tsl (0, 1) (lE ((xs.map (decE true)).take i) q)), .c (.d (.sl (xs.map MSExpr.enc))), .c (.d (.i .i64 xs.length)), .c (.d (.i .i64 i))]) (fun i => [.seed n, .ltok n 9 (lE ((xs.map (decE true)).take i) q)] :: S)
        (fun i => i ≤ xs.length) (fun i => xs.length - i) 0 rfl rfl (Nat.zero_le _) ?_
      intro i hi
      simp -implicitDefEqProofs (disch := omega) only [go_sem]
      with_reducible refine split2 (fun hb => ?_) (fun hb => ?_) <;> have h := hb <;> (try simp only [wf_preprocess] at h) <;> simp -implicitDefEqProofs (disch := omega) only [go_sem, hb] <;> (repeat (with_reducible refine And.intro ?_ ?_; focus first | omega | rfl | assumption | exact ⟨_, rfl, rfl⟩ | (simp; omega) | (simp; done)))
      · have hi' : i < xs.length := by omega
        have hs := hsnoc i hi'
        rw [List.getElem_map] at hs
        simp only [labEx_eq] at hs
        have hl : (lE ((xs.map (decE true)).take i) q).length ≤ i := by rw [lE_length]; exact List.length_take_le _ _
        (repeat (with_reducible refine And.intro ?_ ?_; focus first | omega | rfl | assumption | exact ⟨_, rfl, rfl⟩ | (simp; omega) | (simp; done)))
        refine call_w (ih xs[i] (by have := List.sizeOf_lt_of_mem (List.getElem_mem hi'); omega) (q + cntEs ((xs.map (decE true)).take i)) (form_mem hfo (List.getElem_mem hi')) (hsz _ (List.getElem_mem hi'))) ?_
        simp -implicitDefEqProofs (disch := omega) only [go_sem]
        (repeat (with_reducible refine And.intro ?_ ?_; focus first | omega | rfl | assumption | exact ⟨_, rfl, rfl⟩ | (simp; omega) | (simp; done)))
        rw [hs]
        exact inv_drop 2 (by decide) (i + 1) (by omega) rfl rfl rfl rfl (by omega)
      · have hi' : i = (xs.map (decE true)).length := by rw [List.length_map]; omega
        rw [hi', List.take_length]
    · have lArgs := MSExpr.lt_List x
      have h1 := sz_fList x
      have hall : ∀ t ∈ x.fList, t.sz ≤ 4194304 := fun t ht => by have := szX_mem ht; omega
      have hr := enc_rows (l := x.fList)
      refine acall_cw (rs := [.cell 2 223]) Tryz.checked.mixed Tryz.func209 Tryz.ntmps209 rfl rfl rfl rfl rfl ?_
      simp -implicitDefEqProofs (disch := omega) only [go_sem]
      with_reducible refine split2 (fun hb => ?_) (fun hb => ?_) <;> have h := hb <;> (try simp only [wf_preprocess] at h) <;> simp -implicitDefEqProofs (disch := omega) only [go_sem, hb] <;> (repeat (with_reducible refine And.intro ?_ ?_; focus first | omega | rfl | assumption | exact ⟨_, rfl, rfl⟩ | (simp; omega) | (simp; done)))
      · exact ma0 (decM_no true x (by omega))
      have hl2 : 2 ≤ x.fList.length := by omega
      have a0 := atA_get (l := x.fList) (i := 0) (by omega)
      have hm := List.getElem_mem (l := x.fList) (n := x.fList.length - 1) (by omega)
      have hfs := form_last hfo (fun e => by rw [e] at hl2; simp at hl2)
      rw [decM_eq true x hl2, a0]
      refine ⟨⟨by omega, by omega, hr⟩, ?_⟩
      rw [enc_inner _ hl2]
      refine call_w (implNamesOf_lab ((x.fList.drop 1).dropLast) (by rw [List.length_dropLast, List.length_drop]; omega) n) ?_
      simp -implicitDefEqProofs (disch := omega) only [go_sem]
      (repeat (with_reducible refine And.intro ?_ ?_; focus first | omega | rfl | assumption | exact ⟨_, rfl, rfl⟩ | (simp; omega) | (simp; done)))
      have el : ((x.fList.length : Int) - 1).toNat = x.fList.length - 1 := by omega
      simp only [el]
      refine call_w (ih (x.fList[x.fList.length - 1]) (by have := List.sizeOf_lt_of_mem hm; omega) (n + 1) (form_mem hfs hm) (hall _ hm)) ?_
      simp -implicitDefEqProofs (disch := omega) only [go_sem]
      exact less_refl _
theorem implDecE_lab (x : MSExpr) (n : Nat) (hf : formX x = true) (hsz : x.sz ≤ 4194304) : PCall Tryz.prog 110 [x.v] ((decE true x).vl n) := (implDecE_all _).1 x (Nat.lt_succ_self _) n hf hsz
end Go.Proofs.YtlmhknhlmicmeaaGreatDoor

namespace Go.Ab
theorem run_app_make {P : Program} {w : World} {t u ty e : TypeId} {base : Option Addr} {n : Nat} {i : TypeInfo} {z : Value} (ht : P.underlying t = some (.slice e)) (hu : P.underlying u = some (.int .i64)) (hi : P.info? e = some i)
    (hz : i.zero = some z) (h1 : 1 ≤ n) (hn : n ≤ 1073741824) (hb : i.bytes ≤ 4096) (hs : i.size = z.cells.size) :
    ∃ (cap : Nat) (row : Array Value), n ≤ cap ∧ row.size = cap * z.cells.size ∧ (Builtin.append_ #[t, u] ty #[.slice base 0 0, .int .i64 n]).run P w =
      .ok (.slice (some ⟨w.heap.size, 0, none⟩) n cap) { w.drew with heap := w.heap.push (.cells row e) } := by
  have hn1 := nextcap_le n 0 (by omega)
  have h48 : ¬ (281474976710656 < Builtin.nextslicecap n 0 * i.bytes) := by
    have : Builtin.nextslicecap n 0 * i.bytes ≤ (2 * n + 512) * 4096 := Nat.mul_le_mul hn1 hb
    omega
  have h49 : ¬ (281474976710656 < (n : Int) * (i.bytes : Int)) := by
    have h2 : n * i.bytes ≤ 1073741824 * 4096 := Nat.mul_le_mul hn hb
    have : (n : Int) * (i.bytes : Int) = ((n * i.bytes : Nat) : Int) := by simp
    rw [this]; omega
  have h63' : ¬ (9223372036854775807 < (n : Int)) := by omega
  have hroom' : ¬ (n ≤ 0) := by omega
  have hneg : ¬ ((n : Int) < 0) := by omega
  have hn0 : ¬ n = 0 := by omega
  have hw : IntKind.i64.wrap (n : Int) = n := wrap_in _ (by omega)
  have hmax : IntKind.i64.max = 9223372036854775807 := by decide
  have ha : ∀ w : World, (asInt (.int .i64 (n : Int))).run P w = .ok (n : Int) w := fun w => by simp [asInt, asIntOf]
  let cap := (Question.appendCap n 0 e).cut (w.tape w.drawn (Question.appendCap n 0 e))
  have hcap : n ≤ cap := by simp [cap, Question.cut]
  refine ⟨cap, #[] ++ (if n * i.size = 0 then #[] else Builtin.zeroCells z.cells n) ++ Builtin.zeroCells z.cells (cap - n), hcap, ?_, ?_⟩
  · by_cases h0 : n * i.size = 0
    · rw [if_pos h0]
      have hsz : z.cells.size = 0 := by
        rcases Nat.mul_eq_zero.1 h0 with h | h
        · omega
        · omega
      simp [Builtin.zeroCells, hsz]
    · rw [if_neg h0]
      simp only [Builtin.zeroCells, Array.size_append, Array.size_map, Array.size_range, Array.size_empty, Nat.zero_add]
      rw [← Nat.add_mul]
      congr 1
      omega
  · by_cases h0 : n * i.size = 0
    · rw [if_pos h0]
      cases base <;> simp [Builtin.append_, run_underlying ht, run_underlying hu, sizeOf, typeInfo, zeroValue, hi, hz, hroom', h48, h49, h63', hneg, hw, hmax, Question.forced, newRow, ha, hn0, loadCellsFrom, h0, Builtin.firstCells, loadCells] <;> exact ⟨rfl, rfl⟩
    · rw [if_neg h0]
      cases base <;> simp [Builtin.append_, run_underlying ht, run_underlying hu, sizeOf, typeInfo, zeroValue, hi, hz, hroom', h48, h49, h63', hneg, hw, hmax, Question.forced, newRow, ha, hn0, loadCellsFrom, h0, Builtin.firstCells, loadCells] <;> exact ⟨rfl, rfl⟩
end Go.Ab
namespace Go.Proofs.YtlmhknhlmicmeaaGreatDoor
open Go Go.Ab
theorem flat_sum {α : Type} (xss : List (List α)) {i : Nat} (hi : i < xss.length) : (xss.take (i + 1)).flatten.length = (xss.take i).flatten.length + xss[i].length := by
  rw [List.take_succ_eq_append_getElem hi, List.flatten_append, List.length_append]
  simp only [List.flatten_cons, List.flatten_nil, List.append_nil]
theorem flat_le {α : Type} (xss : List (List α)) (i : Nat) : (xss.take i).flatten.length ≤ xss.flatten.length := by
  conv => rhs; rw [← List.take_append_drop i xss]
  rw [List.flatten_append, List.length_append]
  omega
end Go.Proofs.YtlmhknhlmicmeaaGreatDoor

namespace Go.Ab
theorem ACall.args {P : Program} {f : FuncId} {args args' : List V} {S : Store} {post : V → Store → Prop} (h : ACall P f args' S post) (hl : Lesses args args') : ACall P f args S post := h.weaken hl.length fun j x y hx hy w σ β v hr => hl.at j x y hx hy w σ S β v hr
theorem less_lfls (n : Nat) (es : List (List D)) : Less (.c (.lfl n es)) (.c (.d (.sl es))) := fun w σ S β v h => ⟨rep_ol h.1.1, h.2⟩
end Go.Ab
namespace Go.Proofs.YtlmhknhlmicmeaaGreatDoor
open Go Go.Ab
theorem implAtoms_esc (xs : List (List UInt8)) (hx : xs.length ≤ 1073741824) (n q : Nat) (own0 : List Ab.Obj) (Ω : Store) : ACall Tryz.prog 173 [.c (.d (.sl (xs.map encS)))] (own0 :: Ω)
    (fun r S' => r = .c (.tsl (0, own0.length + 1) (lx (wordsX xs) q)) ∧ S' = (own0 ++ [.seed n, .ltok n 2 (lx (wordsX xs) q)]) :: Ω) := by
  refine acall_cwLe (n) (rs := [.tmp 2]) Tryz.checked.mixed Tryz.func173 Tryz.ntmps173 rfl rfl rfl rfl rfl ?_
  simp -implicitDefEqProofs (disch := omega) only [go_sem]
  (repeat (with_reducible refine And.intro ?_ ?_; focus first | omega | rfl | assumption | exact ⟨_, rfl, rfl⟩ | (simp; omega) | (simp; done)))
  refine aw_ltok n 3 2 [] (.inl rfl) (by simp) ?_
  refine loop_at (ι := Nat) Tryz.checked.mixed rfl [3, 7, 8, 9] (fun i => [.c (.tsl (0, 1) (lx ((wordsX xs).take i) q)), .c (.d (.sl (xs.map encS))), .c (.d (.i .i64 xs.length)), .c (.d (.i .i64 i))]) (fun i => [.seed n, .ltok n 2 (lx ((wordsX xs).take i) q)] :: own0 :: Ω)
    (fun i => i ≤ xs.length) (fun i => xs.length - i) 0 rfl rfl (Nat.zero_le _) ?_
  intro i hi
  simp -implicitDefEqProofs (disch := omega) only [go_sem]
  with_reducible refine split2 (fun hb => ?_) (fun hb => ?_) <;> have h := hb <;> (try simp only [wf_preprocess] at h) <;> simp -implicitDefEqProofs (disch := omega) only [go_sem, hb] <;> (repeat (with_reducible refine And.intro ?_ ?_; focus first | omega | rfl | assumption | exact ⟨_, rfl, rfl⟩ | (simp; omega) | (simp; done)))
  · have hi' : i < xs.length := by omega
    have hw : i < (wordsX xs).length := by rw [words_len]; exact hi'
    have hg : (wordsX xs)[i] = atomX xs[i] := by simp [wordsX]
    have hl : (lx ((wordsX xs).take i) q).length ≤ i := by rw [lx_length]; exact List.length_take_le _ _
    (repeat (with_reducible refine And.intro ?_ ?_; focus first | omega | rfl | assumption | exact ⟨_, rfl, rfl⟩ | (simp; omega) | (simp; done)))
    refine call_w (implAtom_lab xs[i] (q + cntXs ((wordsX xs).take i))) ?_
    simp -implicitDefEqProofs (disch := omega) only [go_sem]
    (repeat (with_reducible refine And.intro ?_ ?_; focus first | omega | rfl | assumption | exact ⟨_, rfl, rfl⟩ | (simp; omega) | (simp; done)))
    have hs := lx_snoc hw q
    rw [hg, labX_atom] at hs
    rw [hs]
    exact inv_at (i + 1) (by omega) rfl rfl (by omega)
  · have hi' : i = (wordsX xs).length := by rw [words_len]; omega
    rw [hi', List.take_length]
    exact ⟨rfl, rfl⟩
theorem growX_run (base : Option Addr) (n : Nat) (h1 : 1 ≤ n) (hn : n ≤ 1073741824) (w : World) : Calls Tryz.prog 288 #[.slice base 0 0, .int .i64 n] w fun e w' =>
    ∃ cap row, n ≤ cap ∧ row.size = cap * 2 ∧ e = .returned (.slice (some ⟨w.heap.size, 0, none⟩) 0 cap) ∧ w' = { w.drew with heap := w.heap.push (.cells row 32) } := by
  obtain ⟨cap, row, hc, hr, hm⟩ := run_app_make (P := Tryz.prog) (w := w) (t := 30) (u := 3) (ty := 30) (e := 32) (base := base) (n := n) Tryz.underlying30 Tryz.underlying3 rfl rfl h1 hn (by decide +kernel) rfl
  have h0 : ¬ ((n : Int) < 0) := by omega
  have h2 : (0 : Int) < n := by omega
  go_enter Tryz.func288, Tryz.ntmps288
  go_wp2_with (at_builtin; refine Lib.wpList_append_run _ rfl _ _ _ _ rfl _ _ rfl rfl _ _ hm ?_)
  all_goals go_ret
  exact ⟨cap, hc, row, hr, rfl, rfl⟩
theorem growX_run0 (base : Option Addr) (w : World) : Calls Tryz.prog 288 #[.slice base 0 0, .int .i64 0] w fun e w' => e = .returned (.slice base 0 0) ∧ w' = w := by
  go_enter Tryz.func288, Tryz.ntmps288
  go_wp2
  all_goals go_ret
  exact ⟨rfl, rfl⟩
theorem growX_lab (m n : Nat) (hn : n ≤ 1073741824) (own0 : List Ab.Obj) (Ω : Store) : ACall Tryz.prog 288 [.c (.fsl []), .c (.d (.i .i64 n))] (own0 :: Ω)
    (fun r S' => r = .c (.tsl (0, own0.length) []) ∧ S' = (own0 ++ [.ltok m 2 []]) :: Ω) := by
  refine ⟨⟨_, Tryz.func288, by kernel_rfl, by kernel_rfl⟩, fun w σ β vs hS hv => ?_⟩
  obtain ⟨hl, h⟩ := hv
  obtain ⟨v0, e0, ⟨h0, a, m', h00⟩, _⟩ := h 0 _ rfl
  obtain ⟨v1, e1, h1, _⟩ := h 1 _ rfl
  have h1' : v1 = .int .i64 n := by cases h1; rfl
  subst h1'
  have hm : m' = 0 := by rw [h00] at h0; cases h0 <;> rfl
  subst hm
  subst h00
  have hvs : vs = [.slice a 0 0, .int .i64 n] := by
    match vs, hl, e0, e1 with
    | [x, y], _, e0, e1 => simp at e0 e1; rw [e0, e1]
  subst hvs
  cases β with
  | nil => have := hS.shape.1; simp at this
  | cons bo bΩ =>
  have hlen : bo.length = own0.length := by
    obtain ⟨gr, g1, g2⟩ := hS.shape.2 0 own0 rfl
    simp at g1; rw [g1]; exact g2
  by_cases hz : n = 0
  · subst hz
    refine (growX_run0 a w).mono fun e w' ⟨he, hw⟩ => ?_
    subst hw
    obtain ⟨hS', hk, hst⟩ := hS.push (o := .ltok m 2 []) (h := .slice a 0 0) (Grow.refl hS.live) hlen ⟨h0, by simp, a, 0, rfl, by simp, .inl ⟨rfl, .onil _ _ _⟩⟩ (fun b hb => by cases a <;> simp [owns, blk] at hb)
    refine ⟨_, .c (.tsl (0, own0.length) []), _, _, _, he, hS', hk, hst, ⟨⟨h0, .ltok m 2 [], ?_, fun esz es e => ?_⟩, rfl⟩, rfl, rfl⟩
    · rw [getO_push_new]
    · obtain ⟨_, rfl⟩ := istok_of (lab := some m) e; exact ⟨Nat.le_refl _, fun _ => by rw [← hlen, getO_push_new]⟩
  · refine (growX_run a n (by omega) hn w).mono fun e w' ⟨cap, row, hc, hr, he, hw⟩ => ?_
    subst hw
    have hσ : σ w.heap.size = 0 := (hS.live w.heap.size).resolve_left (by omega)
    have hg : Grow w σ { w.drew with heap := w.heap.push (.cells row 32) } σ := by
      refine ⟨by simp, rfl, rfl, fun b hb => ⟨?_, rfl⟩, fun b => ?_⟩
      · simp only [Array.getElem?_push]
        rw [if_neg (by omega)]
      · rcases hS.live b with hb | hb
        · left; simp; omega
        · exact .inr hb
    obtain ⟨hS', hk, hst⟩ := hS.push (o := .ltok m 2 []) (h := .slice (some ⟨w.heap.size, 0, none⟩) 0 cap) hg hlen ⟨.nil _ _, by simp, _, cap, rfl, by simp, .inr ⟨by simp; omega, w.heap.size, 0, row, 32, rfl, by simp, by simp [hσ], by omega⟩⟩ (fun b hb => by
      simp only [owns, blk] at hb
      split at hb
      · cases hb
      · cases hb; exact Nat.le_refl _)
    refine ⟨_, .c (.tsl (0, own0.length) []), _, _, _, he, hS', hk, hst, ⟨⟨.nil _ _, .ltok m 2 [], ?_, fun esz es e => ?_⟩, rfl⟩, rfl, rfl⟩
    · rw [getO_push_new]
    · obtain ⟨_, rfl⟩ := istok_of (lab := some m) e; exact ⟨Nat.le_refl _, fun _ => by rw [← hlen, getO_push_new]⟩
theorem concatX_lab (m l : Nat) (xss : List (Nat × List (List D))) (hl : xss.length ≤ 1073741824) (hr : ∀ p ∈ xss, ∀ r ∈ p.2, r.length = 2) (hf : (xss.map (·.2)).flatten.length ≤ 1073741824) : PCall Tryz.prog 213 [.c (.lfl l (xss.map fun p => [.ol p.1 p.2]))] (.c (.d (.ol m (xss.map (·.2)).flatten))) := fun S => by
  obtain ⟨ys, hys⟩ : ∃ ys : List (List (List D)), ys = xss.map (·.2) := ⟨_, rfl⟩
  rw [← hys] at hf ⊢
  have hyl : ys.length = xss.length := by rw [hys, List.length_map]
  have hyi : ∀ i (hi : i < xss.length), ys[i]'(by omega) = xss[i].2 := fun i hi => by simp [hys]
  have hyr : ∀ i (hi : i < xss.length), ∀ r ∈ xss[i].2, r.length = 2 := fun i hi => hr _ (List.getElem_mem hi)
  refine acall_cwL (m) (rs := [.tmp 2]) Tryz.checked.mixed Tryz.func213 Tryz.ntmps213 rfl rfl rfl rfl rfl ?_
  simp -implicitDefEqProofs (disch := omega) only [go_sem]
  refine loop_at (ι := Nat) Tryz.checked.mixed rfl [0, 3, 9, 10, 11] (fun i => [.c (.lfl l (xss.map fun p => [.ol p.1 p.2])), .c (.d (.i .i64 (ys.take i).flatten.length)), .c (.lfl l (xss.map fun p => [.ol p.1 p.2])), .c (.d (.i .i64 xss.length)), .c (.d (.i .i64 i))]) (fun _ => [.seed m] :: S)
    (fun i => i ≤ xss.length) (fun i => xss.length - i) 0 rfl rfl (Nat.zero_le _) ?_
  rintro i p1
  have hfi := flat_le ys i
  by_cases hi : i < xss.length
  · have hs := flat_sum ys (i := i) (by omega)
    rw [hyi i hi] at hs
    have hfi' := flat_le ys (i + 1)
    simp -implicitDefEqProofs (disch := omega) only [go_sem]
    with_reducible refine split2 (fun hb => ?_) (fun hb => ?_) <;> have h := hb <;> (try simp only [wf_preprocess] at h) <;> simp -implicitDefEqProofs (disch := omega) only [go_sem, hb] <;> (repeat (with_reducible refine And.intro ?_ ?_; focus first | omega | rfl | assumption | exact ⟨_, rfl, rfl⟩ | (simp; omega) | (simp; done)))
    · (repeat (with_reducible refine And.intro ?_ ?_; focus first | omega | rfl | assumption | exact ⟨_, rfl, rfl⟩ | (simp; omega) | (simp; done)))
      with_reducible refine split2 (fun hb => ?_) (fun hb => ?_) <;> have h := hb <;> (try simp only [wf_preprocess] at h) <;> simp -implicitDefEqProofs (disch := omega) only [go_sem, hb] <;> (repeat (with_reducible refine And.intro ?_ ?_; focus first | omega | rfl | assumption | exact ⟨_, rfl, rfl⟩ | (simp; omega) | (simp; done)))
      · omega
      · refine inv_at (i + 1) (by omega) ?_ rfl (by omega)
        rw [hs]; rfl
    · omega
  have hi : i = xss.length := by omega
  subst hi
  simp -implicitDefEqProofs (disch := omega) only [go_sem]
  with_reducible refine split2 (fun hb => ?_) (fun hb => ?_) <;> have h := hb <;> (try simp only [wf_preprocess] at h) <;> simp -implicitDefEqProofs (disch := omega) only [go_sem, hb] <;> (repeat (with_reducible refine And.intro ?_ ?_; focus first | omega | rfl | assumption | exact ⟨_, rfl, rfl⟩ | (simp; omega) | (simp; done)))
  · omega
  rw [← hyl, List.take_length]
  clear hfi
  refine call_d rfl (growX_lab m ys.flatten.length hf [.seed m] S) ?_
  simp -implicitDefEqProofs (disch := omega) only [go_sem]
  refine loop_at (ι := Nat) Tryz.checked.mixed rfl [6, 25, 26, 27] (fun i => [.c (.tsl (0, 1) (ys.take i).flatten), .c (.lfl l (xss.map fun p => [.ol p.1 p.2])), .c (.d (.i .i64 xss.length)), .c (.d (.i .i64 i))]) (fun i => [.seed m, .ltok m 2 (ys.take i).flatten] :: S)
    (fun i => i ≤ xss.length) (fun i => xss.length - i) 0 (by rw [← hyl]; rfl) rfl (Nat.zero_le _) ?_
  rintro i p1
  have hfi := flat_le ys i
  by_cases hi : i < xss.length
  · have hs := flat_sum ys (i := i) (by omega)
    rw [hyi i hi] at hs
    have hfi' := flat_le ys (i + 1)
    have e : (ys.take (i + 1)).flatten = (ys.take i).flatten ++ xss[i].2 := by
      rw [List.take_succ_eq_append_getElem (by omega), List.flatten_append, hyi i hi]
      simp only [List.flatten_cons, List.flatten_nil, List.append_nil]
    have hri := hyr i hi
    simp -implicitDefEqProofs (disch := omega) only [go_sem]
    with_reducible refine split2 (fun hb => ?_) (fun hb => ?_) <;> have h := hb <;> (try simp only [wf_preprocess] at h) <;> simp -implicitDefEqProofs (disch := omega) only [go_sem, hb] <;> (repeat (with_reducible refine And.intro ?_ ?_; focus first | omega | rfl | assumption | exact ⟨_, rfl, rfl⟩ | (simp; omega) | (simp; done)))
    · (repeat (with_reducible refine And.intro ?_ ?_; focus first | omega | rfl | assumption | exact ⟨_, rfl, rfl⟩ | (simp; omega) | (simp; done)))
      exact inv_at (i + 1) (by omega) (by rw [e]; rfl) (by rw [e]) (by omega)
    · omega
  · have hi : i = ys.length := by omega
    simp -implicitDefEqProofs (disch := omega) only [go_sem]
    with_reducible refine split2 (fun hb => ?_) (fun hb => ?_) <;> have h := hb <;> (try simp only [wf_preprocess] at h) <;> simp -implicitDefEqProofs (disch := omega) only [go_sem, hb] <;> (repeat (with_reducible refine And.intro ?_ ?_; focus first | omega | rfl | assumption | exact ⟨_, rfl, rfl⟩ | (simp; omega) | (simp; done)))
    · omega
    rw [hi, List.take_length]
end Go.Proofs.YtlmhknhlmicmeaaGreatDoor

namespace Go.Ab
theorem headE_at {x : MExpr} {k : Int} (h : x.fKind = k) : headE x.fKind x.fTrait x.fName x.fType = headE k x.fTrait x.fName x.fType := by rw [h]
theorem ex_mem_sz {l : List MExpr} {t : MExpr} (h : t ∈ l) : t.sz ≤ szE l := by
  rw [← szE_rows]; exact szRows_mem (List.mem_map_of_mem h)
theorem arm_mem_sz {l : List MArm} {t : MArm} (h : t ∈ l) : t.sz ≤ szM l := by
  rw [← szM_rows]; exact szRows_mem (List.mem_map_of_mem h)
theorem exprsOk_iff : ∀ {xs : List MExpr}, exprsOk xs = true ↔ ∀ t ∈ xs, exprOk t = true
  | [] => by simp [exprsOk]
  | t :: ts => by simp [exprsOk, exprsOk_iff (xs := ts)]
theorem armsOk_iff : ∀ {xs : List MArm}, armsOk xs = true ↔ ∀ t ∈ xs, armOk t = true
  | [] => by simp [armsOk]
  | t :: ts => by simp [armsOk, armsOk_iff (xs := ts)]
theorem sxE_head {x : MExpr} (h1 : x.fKind ≠ 1) (h2 : x.fKind ≠ 2) (h3 : x.fKind ≠ 3) (h : x.fKind = 4 ∨ x.fKind = 5 ∨ x.fKind = 6 ∨ x.fKind = 8 ∨ x.fKind = 9 ∨ x.fKind = 10 ∨ x.fKind = 11 ∨ x.fKind = 12) :
    sxE x = listX (headE x.fKind x.fTrait x.fName x.fType ++ x.fArgs.map sxE) := by rw [sxE_eq, if_neg h1, if_neg h2, if_neg h3, if_pos h, List.append_nil]
end Go.Ab
namespace Go.Proofs.YtlmhknhlmicmeaaGreatDoor
open Go Go.Ab
theorem implEx_all : ∀ N : Nat, ∀ x : MExpr, SizeOf.sizeOf x < N → ∀ n : Nat, exprOk x = true → x.sz ≤ 4194304 → PCall Tryz.prog 112 [x.v] (.agg [.d (.s (sxE x).fAtom), .d (.ol n (lx (sxE x).fList (n + 1)))])
  | 0 => fun x h => by omega
  | N + 1 => by
    have ih := implEx_all N
    intro x hn n hok hsz S
    have lArgs := MExpr.lt_Args x
    have lArms := MExpr.lt_Arms x
    have hzz := ex_sz_eq x
    rw [exprOk_eq, Bool.and_eq_true, Bool.and_eq_true] at hok
    obtain ⟨hfi, hoa, hom⟩ := hok
    have hfi := of_dec hfi
    have hoa := exprsOk_iff.1 hoa
    have hom := armsOk_iff.1 hom
    obtain ⟨qa, hqa⟩ : ∃ qa, qa = n + 1 + cntXs (headE x.fKind x.fTrait x.fName x.fType) := ⟨_, rfl⟩
    obtain ⟨T, hT⟩ : ∃ T : Nat → List (List D), T = fun i => lx ((x.fArgs.map sxE).take i) qa := ⟨_, rfl⟩
    have hT0 : T 0 = [] := by rw [hT]; rfl
    have hTl : ∀ i, (T i).length ≤ i := fun i => by rw [hT]; simp only [lx_length]; exact List.length_take_le _ _
    have hTr : ∀ i, ∀ r ∈ T i, r.length = 2 := fun i => by rw [hT]; exact lx_rows
    have hTs : ∀ i (hi : i < x.fArgs.length), T i ++ [[.s (sxE x.fArgs[i]).fAtom, .ol (qa + cntXs ((x.fArgs.map sxE).take i)) (lx (sxE x.fArgs[i]).fList (qa + cntXs ((x.fArgs.map sxE).take i) + 1))]] = T (i + 1) := fun i hi => by
      have := lx_snoc' (l := x.fArgs.map sxE) (i := i) (by rw [List.length_map]; exact hi) qa
      rw [List.getElem_map] at this
      rw [hT]; exact this
    have hTe : T x.fArgs.length = lx (x.fArgs.map sxE) qa := by rw [hT]; simp only; rw [List.take_of_length_le (by simp)]
    clear hT
    refine acall_cwL (n) (rs := [.cell 2 32]) Tryz.checked.mixed Tryz.func112 Tryz.ntmps112 rfl rfl rfl rfl rfl ?_
    simp -implicitDefEqProofs (disch := omega) only [go_sem]
    (repeat (with_reducible refine And.intro ?_ ?_; focus first | omega | rfl | assumption | exact ⟨_, rfl, rfl⟩ | (simp; omega) | (simp; done)))
    refine aw_ltok n 3 2 [] (.inl rfl) (by simp) ?_
    refine loop_at (ι := Nat) Tryz.checked.mixed rfl [1, 2, 3, 11, 12, 13] (fun i => [.c (.ptr (0, 1) 0), .c (.ptr (0, 2) 0), .c (.tsl (0, 3) (T i)), .c (.d (.sl (x.fArgs.map MExpr.enc))), .c (.d (.i .i64 x.fArgs.length)), .c (.d (.i .i64 i))])
      (fun i => [.seed n, .box [.d (.i .i64 x.fKind), .d (.s x.fTrait), .d (.s x.fName), .d (.i .i64 x.fN), .d (.i .i64 x.fType.fKind), .d (.s x.fType.fName), .d (.sl (x.fType.fArgs.map MType.enc)), .d (.sl (x.fArgs.map MExpr.enc)), .d (.sl (x.fArms.map MArm.enc))], .box [.d (.s []), .fsl []], .ltok n 2 (T i)] :: S)
      (fun i => i ≤ x.fArgs.length) (fun i => x.fArgs.length - i) 0 (by rw [hT0]; rfl) (by rw [hT0]; rfl) (Nat.zero_le _) ?_
    intro i hi
    have hl := hTl i
    simp -implicitDefEqProofs (disch := omega) only [go_sem]
    with_reducible refine split2 (fun hb => ?_) (fun hb => ?_) <;> have h := hb <;> (try simp only [wf_preprocess] at h) <;> simp -implicitDefEqProofs (disch := omega) only [go_sem, hb] <;> (repeat (with_reducible refine And.intro ?_ ?_; focus first | omega | rfl | assumption | exact ⟨_, rfl, rfl⟩ | (simp; omega) | (simp; done)))
    · have hi' : i < x.fArgs.length := by omega
      have hm := List.getElem_mem hi'
      have hez := ex_mem_sz hm
      have hs := hTs i hi'
      (repeat (with_reducible refine And.intro ?_ ?_; focus first | omega | rfl | assumption | exact ⟨_, rfl, rfl⟩ | (simp; omega) | (simp; done)))
      refine call_w (ih x.fArgs[i] (by have := List.sizeOf_lt_of_mem hm; omega) (qa + cntXs ((x.fArgs.map sxE).take i)) (hoa _ hm) (by omega)) ?_
      simp -implicitDefEqProofs (disch := omega) only [go_sem]
      (repeat (with_reducible refine And.intro ?_ ?_; focus first | omega | rfl | assumption | exact ⟨_, rfl, rfl⟩ | (simp; omega) | (simp; done)))
      rw [hs]
      exact inv_drop 4 (by decide) (i + 1) (by omega) rfl rfl rfl rfl (by omega)
    have hi' : i = x.fArgs.length := by omega
    subst hi'
    clear hTs hi h hb
    have hTT := hTr x.fArgs.length
    have hxe := sxE_eq x
    with_reducible refine split2 (fun hb => ?_) (fun hb => ?_) <;> have h := hb <;> (try simp only [wf_preprocess] at h) <;> simp -implicitDefEqProofs (disch := omega) only [go_sem, hb] <;> (repeat (with_reducible refine And.intro ?_ ?_; focus first | omega | rfl | assumption | exact ⟨_, rfl, rfl⟩ | (simp; omega) | (simp; done)))
    · rw [if_pos h] at hxe
      rw [hxe]
      have hb := hfi.2.2.2.1
      rw [if_pos h] at hb
      refine call_w (implFormatInt_ok x.fN (by omega) (by omega)) ?_
      simp -implicitDefEqProofs (disch := omega) only [go_sem]
      refine call_w (implAtom_lab _ n) ?_
      simp -implicitDefEqProofs (disch := omega) only [go_sem]
      rfl
    have k1 := h
    rw [if_neg h] at hxe
    with_reducible refine split2 (fun hb => ?_) (fun hb => ?_) <;> have h := hb <;> (try simp only [wf_preprocess] at h) <;> simp -implicitDefEqProofs (disch := omega) only [go_sem, hb] <;> (repeat (with_reducible refine And.intro ?_ ?_; focus first | omega | rfl | assumption | exact ⟨_, rfl, rfl⟩ | (simp; omega) | (simp; done)))
    · rw [if_pos h] at hxe
      rw [hxe]
      with_reducible refine split2 (fun hb => ?_) (fun hb => ?_) <;> have h := hb <;> (try simp only [wf_preprocess] at h) <;> simp -implicitDefEqProofs (disch := omega) only [go_sem, hb] <;> (repeat (with_reducible refine And.intro ?_ ?_; focus first | omega | rfl | assumption | exact ⟨_, rfl, rfl⟩ | (simp; omega) | (simp; done)))
      · rw [if_pos h]
        refine call_w (implAtom_lab _ n) ?_
        simp -implicitDefEqProofs (disch := omega) only [go_sem]
        rfl
      · rw [if_neg h]
        refine call_w (implAtom_lab _ n) ?_
        simp -implicitDefEqProofs (disch := omega) only [go_sem]
        rfl
    have k2 := h
    rw [if_neg h] at hxe
    with_reducible refine split2 (fun hb => ?_) (fun hb => ?_) <;> have h := hb <;> (try simp only [wf_preprocess] at h) <;> simp -implicitDefEqProofs (disch := omega) only [go_sem, hb] <;> (repeat (with_reducible refine And.intro ?_ ?_; focus first | omega | rfl | assumption | exact ⟨_, rfl, rfl⟩ | (simp; omega) | (simp; done)))
    · rw [if_pos h] at hxe
      rw [hxe]
      refine call_w (implAtom_lab _ n) ?_
      simp -implicitDefEqProofs (disch := omega) only [go_sem]
      rfl
    have k3 := h
    clear hxe
    with_reducible refine split2 (fun hb => ?_) (fun hb => ?_) <;> have h := hb <;> (try simp only [wf_preprocess] at h) <;> simp -implicitDefEqProofs (disch := omega) only [go_sem, hb] <;> (repeat (with_reducible refine And.intro ?_ ?_; focus first | omega | rfl | assumption | exact ⟨_, rfl, rfl⟩ | (simp; omega) | (simp; done)))
    · have hx := sxE_head k1 k2 k3 (by omega)
      have hh : headE x.fKind x.fTrait x.fName x.fType = wordsX [wCall, x.fName] := by rw [headE_at h]; rfl
      rw [hh] at hx hqa
      (repeat (with_reducible refine And.intro ?_ ?_; focus first | omega | rfl | assumption | exact ⟨_, rfl, rfl⟩ | (simp; omega) | (simp; done)))
      refine call_d rfl (ACall.args (implAtoms_esc [wCall, x.fName] (by simp) n (n + 1) _ _) (.cons (less_lfls n _) .nil)) ?_
      have hhl : (lx (wordsX [wCall, x.fName]) (n + 1)).length = 2 := by rw [lx_length]; rfl
      have hhr := lx_rows (l := wordsX [wCall, x.fName]) (n := n + 1)
      simp -implicitDefEqProofs (disch := omega) only [go_sem]
      (repeat (with_reducible refine And.intro ?_ ?_; focus first | omega | rfl | assumption | exact ⟨_, rfl, rfl⟩ | (simp; omega) | (simp; done)))
      refine call_d rfl (implList_t 0 5 _ _) ?_
      simp -implicitDefEqProofs (disch := omega) only [go_sem]
      rw [hx, hTe, hqa, fAtom_list, fList_list, lx_append]
    have k4 := h
    with_reducible refine split2 (fun hb => ?_) (fun hb => ?_) <;> have h := hb <;> (try simp only [wf_preprocess] at h) <;> simp -implicitDefEqProofs (disch := omega) only [go_sem, hb] <;> (repeat (with_reducible refine And.intro ?_ ?_; focus first | omega | rfl | assumption | exact ⟨_, rfl, rfl⟩ | (simp; omega) | (simp; done)))
    · have hx := sxE_head k1 k2 k3 (by omega)
      have hh : headE x.fKind x.fTrait x.fName x.fType = wordsX [wMethod, x.fTrait, x.fName] := by rw [headE_at h]; rfl
      rw [hh] at hx hqa
      (repeat (with_reducible refine And.intro ?_ ?_; focus first | omega | rfl | assumption | exact ⟨_, rfl, rfl⟩ | (simp; omega) | (simp; done)))
      refine call_d rfl (ACall.args (implAtoms_esc [wMethod, x.fTrait, x.fName] (by simp) n (n + 1) _ _) (.cons (less_lfls n _) .nil)) ?_
      have hhl : (lx (wordsX [wMethod, x.fTrait, x.fName]) (n + 1)).length = 3 := by rw [lx_length]; rfl
      have hhr := lx_rows (l := wordsX [wMethod, x.fTrait, x.fName]) (n := n + 1)
      simp -implicitDefEqProofs (disch := omega) only [go_sem]
      (repeat (with_reducible refine And.intro ?_ ?_; focus first | omega | rfl | assumption | exact ⟨_, rfl, rfl⟩ | (simp; omega) | (simp; done)))
      refine call_d rfl (implList_t 0 5 _ _) ?_
      simp -implicitDefEqProofs (disch := omega) only [go_sem]
      rw [hx, hTe, hqa, fAtom_list, fList_list, lx_append]
    have k5 := h
    with_reducible refine split2 (fun hb => ?_) (fun hb => ?_) <;> have h := hb <;> (try simp only [wf_preprocess] at h) <;> simp -implicitDefEqProofs (disch := omega) only [go_sem, hb] <;> (repeat (with_reducible refine And.intro ?_ ?_; focus first | omega | rfl | assumption | exact ⟨_, rfl, rfl⟩ | (simp; omega) | (simp; done)))
    · have hx := sxE_head k1 k2 k3 (by omega)
      have hh : headE x.fKind x.fTrait x.fName x.fType = wordsX [wNew, x.fName] := by rw [headE_at h]; rfl
      rw [hh] at hx hqa
      (repeat (with_reducible refine And.intro ?_ ?_; focus first | omega | rfl | assumption | exact ⟨_, rfl, rfl⟩ | (simp; omega) | (simp; done)))
      refine call_d rfl (ACall.args (implAtoms_esc [wNew, x.fName] (by simp) n (n + 1) _ _) (.cons (less_lfls n _) .nil)) ?_
      have hhl : (lx (wordsX [wNew, x.fName]) (n + 1)).length = 2 := by rw [lx_length]; rfl
      have hhr := lx_rows (l := wordsX [wNew, x.fName]) (n := n + 1)
      simp -implicitDefEqProofs (disch := omega) only [go_sem]
      (repeat (with_reducible refine And.intro ?_ ?_; focus first | omega | rfl | assumption | exact ⟨_, rfl, rfl⟩ | (simp; omega) | (simp; done)))
      refine call_d rfl (implList_t 0 5 _ _) ?_
      simp -implicitDefEqProofs (disch := omega) only [go_sem]
      rw [hx, hTe, hqa, fAtom_list, fList_list, lx_append]
    have k6 := h
    with_reducible refine split2 (fun hb => ?_) (fun hb => ?_) <;> have h := hb <;> (try simp only [wf_preprocess] at h) <;> simp -implicitDefEqProofs (disch := omega) only [go_sem, hb] <;> (repeat (with_reducible refine And.intro ?_ ?_; focus first | omega | rfl | assumption | exact ⟨_, rfl, rfl⟩ | (simp; omega) | (simp; done)))
    · have hx := sxE_eq x
      rw [if_neg k1, if_neg k2, if_neg k3, if_neg (by omega)] at hx
      have hh : headE x.fKind x.fTrait x.fName x.fType = wordsX [wCase] := by rw [headE_at h]; rfl
      rw [hh] at hx hqa
      obtain ⟨B, hB⟩ : ∃ B : Nat → List (List D), B = fun i => lx (x.fArgs.map sxE ++ (x.fArms.map sxM).take i) qa := ⟨_, rfl⟩
      obtain ⟨L, hL⟩ : ∃ L : Nat → Nat, L = fun i => qa + cntXs (x.fArgs.map sxE ++ (x.fArms.map sxM).take i) := ⟨_, rfl⟩
      have hB0 : T x.fArgs.length = B 0 := by rw [hTe, hB]; simp only [List.take_zero, List.append_nil]
      have hBl : ∀ i, (B i).length ≤ i + x.fArgs.length := fun i => by
        rw [hB]; simp only [lx_length, List.length_append, List.length_map]
        have := List.length_take_le i (x.fArms.map sxM)
        omega
      have hBr : ∀ i, ∀ r ∈ B i, r.length = 2 := fun i => by rw [hB]; exact lx_rows
      have hBs : ∀ i (hi : i < x.fArms.length), B i ++ [[.s [], .ol (L i) (lx ([atomX x.fArms[i].fConstructor] ++ wordsX x.fArms[i].fVars ++ [sxE x.fArms[i].fBody]) (L i + 1))]] = B (i + 1) := fun i hi => by
        have := lx_snocB (base := x.fArgs.map sxE) (l := x.fArms.map sxM) (i := i) (by rw [List.length_map]; exact hi) qa
        rw [List.getElem_map, sxM_eq, fAtom_list, fList_list] at this
        rw [hB, hL]; exact this
      have hBe : B x.fArms.length = lx (x.fArgs.map sxE ++ x.fArms.map sxM) qa := by rw [hB]; simp only; rw [List.take_of_length_le (by simp)]
      clear hB hL hTT
      (repeat (with_reducible refine And.intro ?_ ?_; focus first | omega | rfl | assumption | exact ⟨_, rfl, rfl⟩ | (simp; omega) | (simp; done)))
      refine call_d rfl (ACall.args (implAtoms_esc [wCase] (by simp) n (n + 1) _ _) (.cons (less_lfls n _) .nil)) ?_
      have hhl : (lx (wordsX [wCase]) (n + 1)).length = 1 := by rw [lx_length]; rfl
      have hhr := lx_rows (l := wordsX [wCase]) (n := n + 1)
      simp -implicitDefEqProofs (disch := omega) only [go_sem]
      rw [hB0]
      obtain ⟨HD, hHD⟩ : ∃ HD, HD = lx (wordsX [wCase]) (n + 1) := ⟨_, rfl⟩
      rw [← hHD] at hhl hhr ⊢
      refine loop_at (ι := Nat) Tryz.checked.mixed rfl [2, 3, 6, 69, 70, 71] (fun i => [.c (.ptr (0, 2) 0), .c (.tsl (0, 3) (B i)), .c (.tsl (0, 5) HD), .c (.d (.sl (x.fArms.map MArm.enc))), .c (.d (.i .i64 x.fArms.length)), .c (.d (.i .i64 i))])
        (fun i => [.seed n, .box [.d (.i .i64 x.fKind), .d (.s x.fTrait), .d (.s x.fName), .d (.i .i64 x.fN), .d (.i .i64 x.fType.fKind), .d (.s x.fType.fName), .d (.sl (x.fType.fArgs.map MType.enc)), .d (.sl (x.fArgs.map MExpr.enc)), .d (.sl (x.fArms.map MArm.enc))], .box [.d (.s []), .fsl []], .ltok n 2 (B i), .seed n, .ltok n 2 HD] :: S)
        (fun i => i ≤ x.fArms.length) (fun i => x.fArms.length - i) 0 rfl rfl (Nat.zero_le _) ?_
      intro i hi
      have hl := hBl i
      have hr := hBr i
      simp -implicitDefEqProofs (disch := omega) only [go_sem]
      with_reducible refine split2 (fun hb => ?_) (fun hb => ?_) <;> have h := hb <;> (try simp only [wf_preprocess] at h) <;> simp -implicitDefEqProofs (disch := omega) only [go_sem, hb] <;> (repeat (with_reducible refine And.intro ?_ ?_; focus first | omega | rfl | assumption | exact ⟨_, rfl, rfl⟩ | (simp; omega) | (simp; done)))
      · have hi' : i < x.fArms.length := by omega
        have hm := List.getElem_mem hi'
        have hez := arm_mem_sz hm
        have hea := arm_sz_eq x.fArms[i]
        have hs := hBs i hi'
        have hak := hom _ hm
        rw [armOk_eq, Bool.and_eq_true, Bool.and_eq_true] at hak
        have hls := List.sizeOf_lt_of_mem hm
        have hlb := MArm.lt_Body x.fArms[i]
        (repeat (with_reducible refine And.intro ?_ ?_; focus first | omega | rfl | assumption | exact ⟨_, rfl, rfl⟩ | (simp; omega) | (simp; done)))
        refine call_l (implAtoms_lab [x.fArms[i].fConstructor] (by simp) 0 (L i + 1)) (.cons (less_lfls n _) .nil) ?_
        simp -implicitDefEqProofs (disch := omega) only [go_sem]
        refine call_w (implAtoms_lab x.fArms[i].fVars (by omega) 0 (L i + 1 + cntXs (wordsX [x.fArms[i].fConstructor]))) ?_
        simp -implicitDefEqProofs (disch := omega) only [go_sem]
        refine call_w (ih x.fArms[i].fBody (by omega) (L i + 1 + cntXs (wordsX [x.fArms[i].fConstructor] ++ wordsX x.fArms[i].fVars)) hak.2.2 (by omega)) ?_
        simp -implicitDefEqProofs (disch := omega) only [go_sem]
        (repeat (with_reducible refine And.intro ?_ ?_; focus first | omega | rfl | assumption | exact ⟨_, rfl, rfl⟩ | (simp; omega) | (simp; done)))
        refine call_w (concatX_lab (L i) n [(0, lx (wordsX [x.fArms[i].fConstructor]) (L i + 1)), (0, lx (wordsX x.fArms[i].fVars) (L i + 1 + cntXs (wordsX [x.fArms[i].fConstructor]))), (n, [[.s (sxE x.fArms[i].fBody).fAtom, .ol (L i + 1 + cntXs (wordsX [x.fArms[i].fConstructor] ++ wordsX x.fArms[i].fVars)) (lx (sxE x.fArms[i].fBody).fList (L i + 1 + cntXs (wordsX [x.fArms[i].fConstructor] ++ wordsX x.fArms[i].fVars) + 1))]])] (by simp) ?_ ?_) ?_
        · intro p hp
          simp only [List.mem_cons, List.not_mem_nil, or_false] at hp
          rcases hp with rfl | rfl | rfl
          · exact lx_rows
          · exact lx_rows
          · simp
        · simp only [List.map_cons, List.map_nil, List.flatten_cons, List.flatten_nil, List.length_append, lx_length, words_len, List.length_cons, List.length_nil]; omega
        simp -implicitDefEqProofs (disch := omega) only [go_sem]
        refine call_w (implList_d _) ?_
        simp -implicitDefEqProofs (disch := omega) only [go_sem]
        (repeat (with_reducible refine And.intro ?_ ?_; focus first | omega | rfl | assumption | exact ⟨_, rfl, rfl⟩ | (simp; omega) | (simp; done)))
        have hrow : [lx (wordsX [x.fArms[i].fConstructor]) (L i + 1), lx (wordsX x.fArms[i].fVars) (L i + 1 + cntXs (wordsX [x.fArms[i].fConstructor])), [[.s (sxE x.fArms[i].fBody).fAtom, .ol (L i + 1 + cntXs (wordsX [x.fArms[i].fConstructor] ++ wordsX x.fArms[i].fVars)) (lx (sxE x.fArms[i].fBody).fList (L i + 1 + cntXs (wordsX [x.fArms[i].fConstructor] ++ wordsX x.fArms[i].fVars) + 1))]]].flatten = lx ([atomX x.fArms[i].fConstructor] ++ wordsX x.fArms[i].fVars ++ [sxE x.fArms[i].fBody]) (L i + 1) := by
          have e1 : [atomX x.fArms[i].fConstructor] = wordsX [x.fArms[i].fConstructor] := rfl
          rw [e1, lx_append, lx_append, lx_cons (sxE x.fArms[i].fBody) [], lx_nil, labX_eq (sxE x.fArms[i].fBody)]
          simp only [List.flatten_cons, List.flatten_nil, List.append_nil, List.append_assoc]
        rw [hrow, hs]
        exact inv_drop 6 (by decide) (i + 1) (by omega) rfl rfl rfl rfl (by omega)
      · have hi' : i = x.fArms.length := by omega
        subst hi'
        have hr2 := hBr x.fArms.length
        (repeat (with_reducible refine And.intro ?_ ?_; focus first | omega | rfl | assumption | exact ⟨_, rfl, rfl⟩ | (simp; omega) | (simp; done)))
        refine call_d rfl (implList_t 0 5 _ _) ?_
        simp -implicitDefEqProofs (disch := omega) only [go_sem]
        rw [hx, hBe, hqa, hHD, fAtom_list, fList_list, List.append_assoc, lx_append (wordsX [wCase])]
    have k7 := h
    with_reducible refine split2 (fun hb => ?_) (fun hb => ?_) <;> have h := hb <;> (try simp only [wf_preprocess] at h) <;> simp -implicitDefEqProofs (disch := omega) only [go_sem, hb] <;> (repeat (with_reducible refine And.intro ?_ ?_; focus first | omega | rfl | assumption | exact ⟨_, rfl, rfl⟩ | (simp; omega) | (simp; done)))
    · have hx := sxE_head k1 k2 k3 (by omega)
      have hh : headE x.fKind x.fTrait x.fName x.fType = wordsX [wLet, x.fName] := by rw [headE_at h]; rfl
      rw [hh] at hx hqa
      (repeat (with_reducible refine And.intro ?_ ?_; focus first | omega | rfl | assumption | exact ⟨_, rfl, rfl⟩ | (simp; omega) | (simp; done)))
      refine call_d rfl (ACall.args (implAtoms_esc [wLet, x.fName] (by simp) n (n + 1) _ _) (.cons (less_lfls n _) .nil)) ?_
      have hhl : (lx (wordsX [wLet, x.fName]) (n + 1)).length = 2 := by rw [lx_length]; rfl
      have hhr := lx_rows (l := wordsX [wLet, x.fName]) (n := n + 1)
      simp -implicitDefEqProofs (disch := omega) only [go_sem]
      (repeat (with_reducible refine And.intro ?_ ?_; focus first | omega | rfl | assumption | exact ⟨_, rfl, rfl⟩ | (simp; omega) | (simp; done)))
      refine call_d rfl (implList_t 0 5 _ _) ?_
      simp -implicitDefEqProofs (disch := omega) only [go_sem]
      rw [hx, hTe, hqa, fAtom_list, fList_list, lx_append]
    have k8 := h
    with_reducible refine split2 (fun hb => ?_) (fun hb => ?_) <;> have h := hb <;> (try simp only [wf_preprocess] at h) <;> simp -implicitDefEqProofs (disch := omega) only [go_sem, hb] <;> (repeat (with_reducible refine And.intro ?_ ?_; focus first | omega | rfl | assumption | exact ⟨_, rfl, rfl⟩ | (simp; omega) | (simp; done)))
    · have hx := sxE_head k1 k2 k3 (by omega)
      have hh : headE x.fKind x.fTrait x.fName x.fType = wordsX [wIf] := by rw [headE_at h]; rfl
      rw [hh] at hx hqa
      (repeat (with_reducible refine And.intro ?_ ?_; focus first | omega | rfl | assumption | exact ⟨_, rfl, rfl⟩ | (simp; omega) | (simp; done)))
      refine call_d rfl (ACall.args (implAtoms_esc [wIf] (by simp) n (n + 1) _ _) (.cons (less_lfls n _) .nil)) ?_
      have hhl : (lx (wordsX [wIf]) (n + 1)).length = 1 := by rw [lx_length]; rfl
      have hhr := lx_rows (l := wordsX [wIf]) (n := n + 1)
      simp -implicitDefEqProofs (disch := omega) only [go_sem]
      (repeat (with_reducible refine And.intro ?_ ?_; focus first | omega | rfl | assumption | exact ⟨_, rfl, rfl⟩ | (simp; omega) | (simp; done)))
      refine call_d rfl (implList_t 0 5 _ _) ?_
      simp -implicitDefEqProofs (disch := omega) only [go_sem]
      rw [hx, hTe, hqa, fAtom_list, fList_list, lx_append]
    have k9 := h
    with_reducible refine split2 (fun hb => ?_) (fun hb => ?_) <;> have h := hb <;> (try simp only [wf_preprocess] at h) <;> simp -implicitDefEqProofs (disch := omega) only [go_sem, hb] <;> (repeat (with_reducible refine And.intro ?_ ?_; focus first | omega | rfl | assumption | exact ⟨_, rfl, rfl⟩ | (simp; omega) | (simp; done)))
    · have hx := sxE_head k1 k2 k3 (by omega)
      have hh : headE x.fKind x.fTrait x.fName x.fType = wordsX [x.fName] := by rw [headE_at h]; rfl
      rw [hh] at hx hqa
      (repeat (with_reducible refine And.intro ?_ ?_; focus first | omega | rfl | assumption | exact ⟨_, rfl, rfl⟩ | (simp; omega) | (simp; done)))
      refine call_d rfl (ACall.args (implAtoms_esc [x.fName] (by simp) n (n + 1) _ _) (.cons (less_lfls n _) .nil)) ?_
      have hhl : (lx (wordsX [x.fName]) (n + 1)).length = 1 := by rw [lx_length]; rfl
      have hhr := lx_rows (l := wordsX [x.fName]) (n := n + 1)
      simp -implicitDefEqProofs (disch := omega) only [go_sem]
      (repeat (with_reducible refine And.intro ?_ ?_; focus first | omega | rfl | assumption | exact ⟨_, rfl, rfl⟩ | (simp; omega) | (simp; done)))
      refine call_d rfl (implList_t 0 5 _ _) ?_
      simp -implicitDefEqProofs (disch := omega) only [go_sem]
      rw [hx, hTe, hqa, fAtom_list, fList_list, lx_append]
    have k10 := h
    with_reducible refine split2 (fun hb => ?_) (fun hb => ?_) <;> have h := hb <;> (try simp only [wf_preprocess] at h) <;> simp -implicitDefEqProofs (disch := omega) only [go_sem, hb] <;> (repeat (with_reducible refine And.intro ?_ ?_; focus first | omega | rfl | assumption | exact ⟨_, rfl, rfl⟩ | (simp; omega) | (simp; done)))
    · have hx := sxE_head k1 k2 k3 (by omega)
      have hh : headE x.fKind x.fTrait x.fName x.fType = wordsX [wPack, x.fTrait] := by rw [headE_at h]; rfl
      rw [hh] at hx hqa
      (repeat (with_reducible refine And.intro ?_ ?_; focus first | omega | rfl | assumption | exact ⟨_, rfl, rfl⟩ | (simp; omega) | (simp; done)))
      refine call_d rfl (ACall.args (implAtoms_esc [wPack, x.fTrait] (by simp) n (n + 1) _ _) (.cons (less_lfls n _) .nil)) ?_
      have hhl : (lx (wordsX [wPack, x.fTrait]) (n + 1)).length = 2 := by rw [lx_length]; rfl
      have hhr := lx_rows (l := wordsX [wPack, x.fTrait]) (n := n + 1)
      simp -implicitDefEqProofs (disch := omega) only [go_sem]
      (repeat (with_reducible refine And.intro ?_ ?_; focus first | omega | rfl | assumption | exact ⟨_, rfl, rfl⟩ | (simp; omega) | (simp; done)))
      refine call_d rfl (implList_t 0 5 _ _) ?_
      simp -implicitDefEqProofs (disch := omega) only [go_sem]
      rw [hx, hTe, hqa, fAtom_list, fList_list, lx_append]
    have k11 := h
    with_reducible refine split2 (fun hb => ?_) (fun hb => ?_) <;> have h := hb <;> (try simp only [wf_preprocess] at h) <;> simp -implicitDefEqProofs (disch := omega) only [go_sem, hb] <;> (repeat (with_reducible refine And.intro ?_ ?_; focus first | omega | rfl | assumption | exact ⟨_, rfl, rfl⟩ | (simp; omega) | (simp; done)))
    · have hx := sxE_head k1 k2 k3 (by omega)
      have hh : headE x.fKind x.fTrait x.fName x.fType = [atomX wThe, sxT x.fType] := by rw [headE_at h]; rfl
      rw [hh] at hx hqa
      have hty := hfi.2.2.2.2.1
      rw [if_pos h] at hty
      refine call_w (implAtom_lab _ (n + 1)) ?_
      simp -implicitDefEqProofs (disch := omega) only [go_sem]
      refine call_w (implTy_lab x.fType (n + 1 + 1) (valid_formed hty) (by omega)) ?_
      simp -implicitDefEqProofs (disch := omega) only [go_sem]
      (repeat (with_reducible refine And.intro ?_ ?_; focus first | omega | rfl | assumption | exact ⟨_, rfl, rfl⟩ | (simp; omega) | (simp; done)))
      refine call_d rfl (implList_t 0 4 _ _) ?_
      simp -implicitDefEqProofs (disch := omega) only [go_sem]
      rw [hx, hTe, hqa, fAtom_list, fList_list, lx_append]
      simp only [lx_cons, lx_nil, labX_eq, fAtom_atom, fList_atom, cntX_atom, cntXs_cons, cntXs_nil, wThe, List.cons_append, List.nil_append]
    · have := hfi.1
      omega
theorem implEx_lab (x : MExpr) (n : Nat) (hok : exprOk x = true) (hsz : x.sz ≤ 4194304) : PCall Tryz.prog 112 [x.v] (.agg [.d (.s (sxE x).fAtom), .d (.ol n (lx (sxE x).fList (n + 1)))]) := implEx_all _ x (Nat.lt_succ_self _) n hok hsz
end Go.Proofs.YtlmhknhlmicmeaaGreatDoor

namespace Go.Proofs.YtlmhknhlmicmeaaGreatDoor
open Go Go.Ab
theorem specArgs_of (hd : List MSExpr) (xs : List MExpr) (S : Store) (hA : ∀ t ∈ xs, PCall Tryz.prog 108 [t.v] (sxE t).v) (hl : xs.length ≤ 4194304) (hh : hd.length ≤ 4) : ACall Tryz.prog 206 [.c (.fsl (hd.map MSExpr.enc)), .c (.d (.sl (xs.map MExpr.enc)))] S
    (fun r S' => r = .agg [.d (.s []), .d (.sl ((hd ++ xs.map sxE).map MSExpr.enc))] ∧ S' = S) := by
  obtain ⟨T, hT⟩ : ∃ T : Nat → List (List D), T = fun i => (hd ++ (xs.map sxE).take i).map MSExpr.enc := ⟨_, rfl⟩
  have hT0 : T 0 = hd.map MSExpr.enc := by rw [hT]; simp only [List.take_zero, List.append_nil]
  have hTl : ∀ i, (T i).length ≤ i + hd.length := fun i => by
    rw [hT]; simp only [List.length_map, List.length_append]
    have := List.length_take_le i (xs.map sxE)
    omega
  have hTs : ∀ i (hi : i < xs.length), T i ++ [[.s (sxE xs[i]).fAtom, .sl ((sxE xs[i]).fList.map MSExpr.enc)]] = T (i + 1) := fun i hi => by
    have := encX_snoc (base := hd) (l := xs.map sxE) (i := i) (by rw [List.length_map]; exact hi)
    rw [List.getElem_map] at this
    rw [hT]; exact this
  have hTe : T xs.length = (hd ++ xs.map sxE).map MSExpr.enc := by rw [hT]; simp only; rw [List.take_of_length_le (by simp)]
  clear hT
  rw [← hT0]
  rw [← hTe]
  refine acall_cw (rs := [.cell 4 32]) Tryz.checked.mixed Tryz.func206 Tryz.ntmps206 rfl rfl rfl rfl rfl ?_
  simp -implicitDefEqProofs (disch := omega) only [go_sem]
  refine aw_tokbox 1 1 2 (T 0) [.d (.s []), .fsl (T 0)] rfl rfl (by rw [hT0]; exact enc_rows) ?_
  refine loop_at (ι := Nat) Tryz.checked.mixed rfl [1, 4, 5, 6] (fun i => [.c (.d (.sl (xs.map MExpr.enc))), .c (.ptr (0, 0) 0), .c (.ptr (0, 1) 0), .c (.d (.i .i64 i))])
    (fun i => [.box [.d (.s []), .fsl []], .box [.d (.s []), .tsl (0, 2) (T i)], .tok 2 (T i)] :: S)
    (fun i => i ≤ xs.length) (fun i => xs.length - i) 0 rfl rfl (Nat.zero_le _) ?_
  intro i hi
  have hl := hTl i
  simp -implicitDefEqProofs (disch := omega) only [go_sem]
  with_reducible refine split2 (fun hb => ?_) (fun hb => ?_) <;> have h := hb <;> (try simp only [wf_preprocess] at h) <;> simp -implicitDefEqProofs (disch := omega) only [go_sem, hb] <;> (repeat (with_reducible refine And.intro ?_ ?_; focus first | omega | rfl | assumption | exact ⟨_, rfl, rfl⟩ | (simp; omega) | (simp; done)))
  · have hi' : i < xs.length := by omega
    have hs := hTs i hi'
    (repeat (with_reducible refine And.intro ?_ ?_; focus first | omega | rfl | assumption | exact ⟨_, rfl, rfl⟩ | (simp; omega) | (simp; done)))
    refine call_w (hA xs[i] (List.getElem_mem hi')) ?_
    simp -implicitDefEqProofs (disch := omega) only [go_sem]
    (repeat (with_reducible refine And.intro ?_ ?_; focus first | omega | rfl | assumption | exact ⟨_, rfl, rfl⟩ | (simp; omega) | (simp; done)))
    rw [hs]
    exact inv_at (i + 1) (by omega) rfl rfl (by omega)
  · have hi' : i = xs.length := by omega
    subst hi'
    rfl
theorem specArgs_esc (hd : List MSExpr) (xs : List MExpr) (own0 : List Ab.Obj) (Ω : Store) (hA : ∀ t ∈ xs, PCall Tryz.prog 108 [t.v] (sxE t).v) (hl : xs.length ≤ 4194304) (hh : hd.length ≤ 4) : ACall Tryz.prog 206 [.c (.fsl (hd.map MSExpr.enc)), .c (.d (.sl (xs.map MExpr.enc)))] (own0 :: Ω)
    (fun r S' => r = .agg [.d (.s []), .tsl (0, own0.length + 2) ((hd ++ xs.map sxE).map MSExpr.enc)] ∧ S' = (own0 ++ [.box [.d (.s []), .tsl (0, own0.length + 2) ((hd ++ xs.map sxE).map MSExpr.enc)], .box [.d (.s []), .tsl (0, own0.length + 2) ((hd ++ xs.map sxE).map MSExpr.enc)], .tok 2 ((hd ++ xs.map sxE).map MSExpr.enc)]) :: Ω) := by
  obtain ⟨T, hT⟩ : ∃ T : Nat → List (List D), T = fun i => (hd ++ (xs.map sxE).take i).map MSExpr.enc := ⟨_, rfl⟩
  have hT0 : T 0 = hd.map MSExpr.enc := by rw [hT]; simp only [List.take_zero, List.append_nil]
  have hTl : ∀ i, (T i).length ≤ i + hd.length := fun i => by
    rw [hT]; simp only [List.length_map, List.length_append]
    have := List.length_take_le i (xs.map sxE)
    omega
  have hTs : ∀ i (hi : i < xs.length), T i ++ [[.s (sxE xs[i]).fAtom, .sl ((sxE xs[i]).fList.map MSExpr.enc)]] = T (i + 1) := fun i hi => by
    have := encX_snoc (base := hd) (l := xs.map sxE) (i := i) (by rw [List.length_map]; exact hi)
    rw [List.getElem_map] at this
    rw [hT]; exact this
  have hTe : T xs.length = (hd ++ xs.map sxE).map MSExpr.enc := by rw [hT]; simp only; rw [List.take_of_length_le (by simp)]
  clear hT
  rw [← hT0]
  rw [← hTe]
  refine acall_cwe (rs := [.cell 4 32]) Tryz.checked.mixed Tryz.func206 Tryz.ntmps206 rfl rfl rfl rfl rfl ?_
  simp -implicitDefEqProofs (disch := omega) only [go_sem]
  refine aw_tokbox 1 1 2 (T 0) [.d (.s []), .fsl (T 0)] rfl rfl (by rw [hT0]; exact enc_rows) ?_
  refine loop_at (ι := Nat) Tryz.checked.mixed rfl [1, 4, 5, 6] (fun i => [.c (.d (.sl (xs.map MExpr.enc))), .c (.ptr (0, 0) 0), .c (.ptr (0, 1) 0), .c (.d (.i .i64 i))])
    (fun i => [.box [.d (.s []), .fsl []], .box [.d (.s []), .tsl (0, 2) (T i)], .tok 2 (T i)] :: own0 :: Ω)
    (fun i => i ≤ xs.length) (fun i => xs.length - i) 0 rfl rfl (Nat.zero_le _) ?_
  intro i hi
  have hl := hTl i
  simp -implicitDefEqProofs (disch := omega) only [go_sem]
  with_reducible refine split2 (fun hb => ?_) (fun hb => ?_) <;> have h := hb <;> (try simp only [wf_preprocess] at h) <;> simp -implicitDefEqProofs (disch := omega) only [go_sem, hb] <;> (repeat (with_reducible refine And.intro ?_ ?_; focus first | omega | rfl | assumption | exact ⟨_, rfl, rfl⟩ | (simp; omega) | (simp; done)))
  · have hi' : i < xs.length := by omega
    have hs := hTs i hi'
    (repeat (with_reducible refine And.intro ?_ ?_; focus first | omega | rfl | assumption | exact ⟨_, rfl, rfl⟩ | (simp; omega) | (simp; done)))
    refine call_w (hA xs[i] (List.getElem_mem hi')) ?_
    simp -implicitDefEqProofs (disch := omega) only [go_sem]
    (repeat (with_reducible refine And.intro ?_ ?_; focus first | omega | rfl | assumption | exact ⟨_, rfl, rfl⟩ | (simp; omega) | (simp; done)))
    rw [hs]
    exact inv_at (i + 1) (by omega) rfl rfl (by omega)
  · have hi' : i = xs.length := by omega
    subst hi'
    exact ⟨rfl, rfl⟩
theorem specEx_all : ∀ N : Nat, ∀ x : MExpr, SizeOf.sizeOf x < N → exprOk x = true → x.sz ≤ 4194304 → PCall Tryz.prog 108 [x.v] (sxE x).v
  | 0 => fun x h => by omega
  | N + 1 => by
    have ih := specEx_all N
    intro x hn hok hsz S
    have lArgs := MExpr.lt_Args x
    have lArms := MExpr.lt_Arms x
    have hzz := ex_sz_eq x
    rw [exprOk_eq, Bool.and_eq_true, Bool.and_eq_true] at hok
    obtain ⟨hfi, hoa, hom⟩ := hok
    have hfi := of_dec hfi
    have hoa := exprsOk_iff.1 hoa
    have hom := armsOk_iff.1 hom
    have hA : ∀ t ∈ x.fArgs, PCall Tryz.prog 108 [t.v] (sxE t).v := fun t ht => ih t (by have := List.sizeOf_lt_of_mem ht; omega) (hoa t ht) (by have := ex_mem_sz ht; omega)
    have hxe := sxE_eq x
    refine acall_cw (rs := [.cell 2 32]) Tryz.checked.mixed Tryz.func108 Tryz.ntmps108 rfl rfl rfl rfl rfl ?_
    simp -implicitDefEqProofs (disch := omega) only [go_sem]
    with_reducible refine split2 (fun hb => ?_) (fun hb => ?_) <;> have h := hb <;> (try simp only [wf_preprocess] at h) <;> simp -implicitDefEqProofs (disch := omega) only [go_sem, hb] <;> (repeat (with_reducible refine And.intro ?_ ?_; focus first | omega | rfl | assumption | exact ⟨_, rfl, rfl⟩ | (simp; omega) | (simp; done)))
    · rw [if_pos h] at hxe
      rw [hxe]
      have hb := hfi.2.2.2.1
      rw [if_pos h] at hb
      refine call_w (specFormatInt_ok x.fN (by omega) (by omega)) ?_
      simp -implicitDefEqProofs (disch := omega) only [go_sem]
      refine call_w (specAtom_ok _) ?_
      simp -implicitDefEqProofs (disch := omega) only [go_sem]
      rfl
    have k1 := h
    rw [if_neg h] at hxe
    with_reducible refine split2 (fun hb => ?_) (fun hb => ?_) <;> have h := hb <;> (try simp only [wf_preprocess] at h) <;> simp -implicitDefEqProofs (disch := omega) only [go_sem, hb] <;> (repeat (with_reducible refine And.intro ?_ ?_; focus first | omega | rfl | assumption | exact ⟨_, rfl, rfl⟩ | (simp; omega) | (simp; done)))
    · rw [if_pos h] at hxe
      rw [hxe]
      have hb := hfi.2.2.2.1
      rw [if_neg k1, if_pos h] at hb
      rcases hb with e | e
      · rw [e]
        simp -implicitDefEqProofs (disch := omega) only [go_sem, List.getD_cons_zero]
        (repeat (with_reducible refine And.intro ?_ ?_; focus first | omega | rfl | assumption | exact ⟨_, rfl, rfl⟩ | (simp; omega) | (simp; done)))
        refine call_w (specAtom_ok _) ?_
        simp -implicitDefEqProofs (disch := omega) only [go_sem]
        rfl
      · rw [e]
        simp -implicitDefEqProofs (disch := omega) only [go_sem, List.getD_cons_zero, List.getD_cons_succ]
        (repeat (with_reducible refine And.intro ?_ ?_; focus first | omega | rfl | assumption | exact ⟨_, rfl, rfl⟩ | (simp; omega) | (simp; done)))
        refine call_w (specAtom_ok _) ?_
        simp -implicitDefEqProofs (disch := omega) only [go_sem]
        rfl
    have k2 := h
    rw [if_neg h] at hxe
    with_reducible refine split2 (fun hb => ?_) (fun hb => ?_) <;> have h := hb <;> (try simp only [wf_preprocess] at h) <;> simp -implicitDefEqProofs (disch := omega) only [go_sem, hb] <;> (repeat (with_reducible refine And.intro ?_ ?_; focus first | omega | rfl | assumption | exact ⟨_, rfl, rfl⟩ | (simp; omega) | (simp; done)))
    · rw [if_pos h] at hxe
      rw [hxe]
      refine call_w (specAtom_ok _) ?_
      simp -implicitDefEqProofs (disch := omega) only [go_sem]
      rfl
    have k3 := h
    clear hxe
    with_reducible refine split2 (fun hb => ?_) (fun hb => ?_) <;> have h := hb <;> (try simp only [wf_preprocess] at h) <;> simp -implicitDefEqProofs (disch := omega) only [go_sem, hb] <;> (repeat (with_reducible refine And.intro ?_ ?_; focus first | omega | rfl | assumption | exact ⟨_, rfl, rfl⟩ | (simp; omega) | (simp; done)))
    · have hx := sxE_head k1 k2 k3 (by omega)
      have hh : headE x.fKind x.fTrait x.fName x.fType = [atomX wCall, atomX x.fName] := by rw [headE_at h]; rfl
      rw [hh] at hx
      refine call_w (specAtom_ok _) ?_
      simp -implicitDefEqProofs (disch := omega) only [go_sem]
      refine call_w (specAtom_ok _) ?_
      simp -implicitDefEqProofs (disch := omega) only [go_sem]
      have hE := fun S => specArgs_of [atomX wCall, atomX x.fName] x.fArgs S hA (by omega) (by simp)
      simp only [List.map_cons, List.map_nil, enc_atom] at hE
      refine call_d rfl (hE _) ?_
      simp -implicitDefEqProofs (disch := omega) only [go_sem]
      rw [hx]
      rfl
    have k4 := h
    with_reducible refine split2 (fun hb => ?_) (fun hb => ?_) <;> have h := hb <;> (try simp only [wf_preprocess] at h) <;> simp -implicitDefEqProofs (disch := omega) only [go_sem, hb] <;> (repeat (with_reducible refine And.intro ?_ ?_; focus first | omega | rfl | assumption | exact ⟨_, rfl, rfl⟩ | (simp; omega) | (simp; done)))
    · have hx := sxE_head k1 k2 k3 (by omega)
      have hh : headE x.fKind x.fTrait x.fName x.fType = [atomX wMethod, atomX x.fTrait, atomX x.fName] := by rw [headE_at h]; rfl
      rw [hh] at hx
      refine call_w (specAtom_ok _) ?_
      simp -implicitDefEqProofs (disch := omega) only [go_sem]
      refine call_w (specAtom_ok _) ?_
      simp -implicitDefEqProofs (disch := omega) only [go_sem]
      refine call_w (specAtom_ok _) ?_
      simp -implicitDefEqProofs (disch := omega) only [go_sem]
      have hE := fun S => specArgs_of [atomX wMethod, atomX x.fTrait, atomX x.fName] x.fArgs S hA (by omega) (by simp)
      simp only [List.map_cons, List.map_nil, enc_atom] at hE
      refine call_d rfl (hE _) ?_
      simp -implicitDefEqProofs (disch := omega) only [go_sem]
      rw [hx]
      rfl
    have k5 := h
    with_reducible refine split2 (fun hb => ?_) (fun hb => ?_) <;> have h := hb <;> (try simp only [wf_preprocess] at h) <;> simp -implicitDefEqProofs (disch := omega) only [go_sem, hb] <;> (repeat (with_reducible refine And.intro ?_ ?_; focus first | omega | rfl | assumption | exact ⟨_, rfl, rfl⟩ | (simp; omega) | (simp; done)))
    · have hx := sxE_head k1 k2 k3 (by omega)
      have hh : headE x.fKind x.fTrait x.fName x.fType = [atomX wNew, atomX x.fName] := by rw [headE_at h]; rfl
      rw [hh] at hx
      refine call_w (specAtom_ok _) ?_
      simp -implicitDefEqProofs (disch := omega) only [go_sem]
      refine call_w (specAtom_ok _) ?_
      simp -implicitDefEqProofs (disch := omega) only [go_sem]
      have hE := fun S => specArgs_of [atomX wNew, atomX x.fName] x.fArgs S hA (by omega) (by simp)
      simp only [List.map_cons, List.map_nil, enc_atom] at hE
      refine call_d rfl (hE _) ?_
      simp -implicitDefEqProofs (disch := omega) only [go_sem]
      rw [hx]
      rfl
    have k6 := h
    with_reducible refine split2 (fun hb => ?_) (fun hb => ?_) <;> have h := hb <;> (try simp only [wf_preprocess] at h) <;> simp -implicitDefEqProofs (disch := omega) only [go_sem, hb] <;> (repeat (with_reducible refine And.intro ?_ ?_; focus first | omega | rfl | assumption | exact ⟨_, rfl, rfl⟩ | (simp; omega) | (simp; done)))
    · have hx := sxE_head k1 k2 k3 (by omega)
      have hh : headE x.fKind x.fTrait x.fName x.fType = [atomX wLet, atomX x.fName] := by rw [headE_at h]; rfl
      rw [hh] at hx
      refine call_w (specAtom_ok _) ?_
      simp -implicitDefEqProofs (disch := omega) only [go_sem]
      refine call_w (specAtom_ok _) ?_
      simp -implicitDefEqProofs (disch := omega) only [go_sem]
      have hE := fun S => specArgs_of [atomX wLet, atomX x.fName] x.fArgs S hA (by omega) (by simp)
      simp only [List.map_cons, List.map_nil, enc_atom] at hE
      refine call_d rfl (hE _) ?_
      simp -implicitDefEqProofs (disch := omega) only [go_sem]
      rw [hx]
      rfl
    have k8 := h
    with_reducible refine split2 (fun hb => ?_) (fun hb => ?_) <;> have h := hb <;> (try simp only [wf_preprocess] at h) <;> simp -implicitDefEqProofs (disch := omega) only [go_sem, hb] <;> (repeat (with_reducible refine And.intro ?_ ?_; focus first | omega | rfl | assumption | exact ⟨_, rfl, rfl⟩ | (simp; omega) | (simp; done)))
    · have hx := sxE_head k1 k2 k3 (by omega)
      have hh : headE x.fKind x.fTrait x.fName x.fType = [atomX wIf] := by rw [headE_at h]; rfl
      rw [hh] at hx
      refine call_w (specAtom_ok _) ?_
      simp -implicitDefEqProofs (disch := omega) only [go_sem]
      have hE := fun S => specArgs_of [atomX wIf] x.fArgs S hA (by omega) (by simp)
      simp only [List.map_cons, List.map_nil, enc_atom] at hE
      refine call_d rfl (hE _) ?_
      simp -implicitDefEqProofs (disch := omega) only [go_sem]
      rw [hx]
      rfl
    have k9 := h
    with_reducible refine split2 (fun hb => ?_) (fun hb => ?_) <;> have h := hb <;> (try simp only [wf_preprocess] at h) <;> simp -implicitDefEqProofs (disch := omega) only [go_sem, hb] <;> (repeat (with_reducible refine And.intro ?_ ?_; focus first | omega | rfl | assumption | exact ⟨_, rfl, rfl⟩ | (simp; omega) | (simp; done)))
    · have hx := sxE_head k1 k2 k3 (by omega)
      have hh : headE x.fKind x.fTrait x.fName x.fType = [atomX x.fName] := by rw [headE_at h]; rfl
      rw [hh] at hx
      refine call_w (specAtom_ok _) ?_
      simp -implicitDefEqProofs (disch := omega) only [go_sem]
      have hE := fun S => specArgs_of [atomX x.fName] x.fArgs S hA (by omega) (by simp)
      simp only [List.map_cons, List.map_nil, enc_atom] at hE
      refine call_d rfl (hE _) ?_
      simp -implicitDefEqProofs (disch := omega) only [go_sem]
      rw [hx]
      rfl
    have k10 := h
    with_reducible refine split2 (fun hb => ?_) (fun hb => ?_) <;> have h := hb <;> (try simp only [wf_preprocess] at h) <;> simp -implicitDefEqProofs (disch := omega) only [go_sem, hb] <;> (repeat (with_reducible refine And.intro ?_ ?_; focus first | omega | rfl | assumption | exact ⟨_, rfl, rfl⟩ | (simp; omega) | (simp; done)))
    · have hx := sxE_head k1 k2 k3 (by omega)
      have hh : headE x.fKind x.fTrait x.fName x.fType = [atomX wPack, atomX x.fTrait] := by rw [headE_at h]; rfl
      rw [hh] at hx
      refine call_w (specAtom_ok _) ?_
      simp -implicitDefEqProofs (disch := omega) only [go_sem]
      refine call_w (specAtom_ok _) ?_
      simp -implicitDefEqProofs (disch := omega) only [go_sem]
      have hE := fun S => specArgs_of [atomX wPack, atomX x.fTrait] x.fArgs S hA (by omega) (by simp)
      simp only [List.map_cons, List.map_nil, enc_atom] at hE
      refine call_d rfl (hE _) ?_
      simp -implicitDefEqProofs (disch := omega) only [go_sem]
      rw [hx]
      rfl
    have k11 := h
    with_reducible refine split2 (fun hb => ?_) (fun hb => ?_) <;> have h := hb <;> (try simp only [wf_preprocess] at h) <;> simp -implicitDefEqProofs (disch := omega) only [go_sem, hb] <;> (repeat (with_reducible refine And.intro ?_ ?_; focus first | omega | rfl | assumption | exact ⟨_, rfl, rfl⟩ | (simp; omega) | (simp; done)))
    · have hx := sxE_head k1 k2 k3 (by omega)
      have hh : headE x.fKind x.fTrait x.fName x.fType = [atomX wThe, sxT x.fType] := by rw [headE_at h]; rfl
      rw [hh] at hx
      refine call_w (specAtom_ok _) ?_
      simp -implicitDefEqProofs (disch := omega) only [go_sem]
      refine call_w (specTy_ok x.fType (by omega)) ?_
      simp -implicitDefEqProofs (disch := omega) only [go_sem]
      have hE := fun S => specArgs_of [atomX wThe, sxT x.fType] x.fArgs S hA (by omega) (by simp)
      simp only [List.map_cons, List.map_nil, enc_atom, MSExpr.enc_eq (sxT x.fType)] at hE
      refine call_d rfl (hE _) ?_
      simp -implicitDefEqProofs (disch := omega) only [go_sem]
      rw [hx]
      show _ = V.agg [.d (.s []), .d (.sl (List.map MSExpr.enc (atomX wThe :: sxT x.fType :: x.fArgs.map sxE)))]
      simp only [List.cons_append, List.nil_append, List.map_cons, enc_atom, MSExpr.enc_eq (sxT x.fType)]
      rfl
    have k12 := h
    have hk7 : x.fKind = 7 := by have := hfi.1; omega
    have hx := sxE_eq x
    rw [if_neg k1, if_neg k2, if_neg k3, if_neg (by omega)] at hx
    have hh : headE x.fKind x.fTrait x.fName x.fType = [atomX wCase] := by rw [headE_at hk7]; rfl
    rw [hh] at hx
    refine call_w (specAtom_ok _) ?_
    simp -implicitDefEqProofs (disch := omega) only [go_sem]
    have hE := fun own0 Ω => specArgs_esc [atomX wCase] x.fArgs own0 Ω hA (by omega) (by simp)
    obtain ⟨B, hB⟩ : ∃ B : Nat → List (List D), B = fun i => (([atomX wCase] ++ x.fArgs.map sxE) ++ (x.fArms.map sxM).take i).map MSExpr.enc := ⟨_, rfl⟩
    have hB0 : ([atomX wCase] ++ x.fArgs.map sxE).map MSExpr.enc = B 0 := by rw [hB]; simp only [List.take_zero, List.append_nil]
    have hBl : ∀ i, (B i).length ≤ i + x.fArgs.length + 1 := fun i => by
      rw [hB]; simp only [List.length_append, List.length_map, List.length_cons, List.length_nil]
      have := List.length_take_le i (x.fArms.map sxM)
      omega
    have hBr : ∀ i, ∀ r ∈ B i, r.length = 2 := fun i => by rw [hB]; exact enc_rows
    have hBs : ∀ i (hi : i < x.fArms.length), B i ++ [[.s [], .sl (([atomX x.fArms[i].fConstructor] ++ wordsX x.fArms[i].fVars ++ [sxE x.fArms[i].fBody]).map MSExpr.enc)]] = B (i + 1) := fun i hi => by
      have := encX_snoc (base := [atomX wCase] ++ x.fArgs.map sxE) (l := x.fArms.map sxM) (i := i) (by rw [List.length_map]; exact hi)
      rw [List.getElem_map, sxM_eq, fAtom_list, fList_list] at this
      rw [hB]; exact this
    have hBe : B x.fArms.length = ([atomX wCase] ++ x.fArgs.map sxE ++ x.fArms.map sxM).map MSExpr.enc := by rw [hB]; simp only; rw [List.take_of_length_le (by simp)]
    clear hB
    simp only [hB0] at hE
    simp only [List.map_cons, List.map_nil, enc_atom] at hE
    refine call_d rfl (hE _ _) ?_
    simp -implicitDefEqProofs (disch := omega) only [go_sem]
    refine loop_at (ι := Nat) Tryz.checked.mixed rfl [1, 2, 3, 4] (fun i => [.c (.ptr (0, 0) 0), .c (.ptr (0, 1) 0), .c (.ptr (0, 5) 0), .c (.d (.i .i64 i))])
      (fun i => [.box [.d (.i .i64 x.fKind), .d (.s x.fTrait), .d (.s x.fName), .d (.i .i64 x.fN), .d (.i .i64 x.fType.fKind), .d (.s x.fType.fName), .d (.sl (x.fType.fArgs.map MType.enc)), .d (.sl (x.fArgs.map MExpr.enc)), .d (.sl (x.fArms.map MArm.enc))], .box [.d (.s []), .fsl []], .box [.d (.s []), .tsl (0, 4) (B 0)], .box [.d (.s []), .tsl (0, 4) (B 0)], .tok 2 (B i), .box [.d (.s []), .tsl (0, 4) (B i)]] :: S)
      (fun i => i ≤ x.fArms.length) (fun i => x.fArms.length - i) 0 rfl rfl (Nat.zero_le _) ?_
    intro i hi
    have hl := hBl i
    have hr := hBr i
    simp -implicitDefEqProofs (disch := omega) only [go_sem]
    with_reducible refine split2 (fun hb => ?_) (fun hb => ?_) <;> have h := hb <;> (try simp only [wf_preprocess] at h) <;> simp -implicitDefEqProofs (disch := omega) only [go_sem, hb] <;> (repeat (with_reducible refine And.intro ?_ ?_; focus first | omega | rfl | assumption | exact ⟨_, rfl, rfl⟩ | (simp; omega) | (simp; done)))
    · have hi' : i < x.fArms.length := by omega
      have hm := List.getElem_mem hi'
      have hez := arm_mem_sz hm
      have hea := arm_sz_eq x.fArms[i]
      have hs := hBs i hi'
      have hak := hom _ hm
      rw [armOk_eq, Bool.and_eq_true, Bool.and_eq_true] at hak
      have hls := List.sizeOf_lt_of_mem hm
      have hlb := MArm.lt_Body x.fArms[i]
      (repeat (with_reducible refine And.intro ?_ ?_; focus first | omega | rfl | assumption | exact ⟨_, rfl, rfl⟩ | (simp; omega) | (simp; done)))
      refine call_w (specAtom_ok _) ?_
      simp -implicitDefEqProofs (disch := omega) only [go_sem]
      (repeat (with_reducible refine And.intro ?_ ?_; focus first | omega | rfl | assumption | exact ⟨_, rfl, rfl⟩ | (simp; omega) | (simp; done)))
      refine call_w (specWords_ok x.fArms[i].fVars (by omega)) ?_
      have hwr := enc_rows (l := wordsX x.fArms[i].fVars)
      have hwl : (wordsX x.fArms[i].fVars).length = x.fArms[i].fVars.length := by rw [words_len]
      simp -implicitDefEqProofs (disch := omega) only [go_sem]
      (repeat (with_reducible refine And.intro ?_ ?_; focus first | omega | rfl | assumption | exact ⟨_, rfl, rfl⟩ | (simp; omega) | (simp; done)))
      refine call_w (ih x.fArms[i].fBody (by omega) hak.2.2 (by omega)) ?_
      simp -implicitDefEqProofs (disch := omega) only [go_sem]
      (repeat (with_reducible refine And.intro ?_ ?_; focus first | omega | rfl | assumption | exact ⟨_, rfl, rfl⟩ | (simp; omega) | (simp; done)))
      simp only [List.cons_append, List.nil_append, List.map_cons, List.map_nil, List.map_append, enc_atom, MSExpr.enc_eq (sxE x.fArms[i].fBody)] at hs
      rw [hs]
      exact inv_drop 6 (by decide) (i + 1) (by omega) rfl rfl rfl rfl (by omega)
    · have hi' : i = x.fArms.length := by omega
      subst hi'
      rw [hx, hBe]
      rfl
theorem specEx_ok (x : MExpr) (hok : exprOk x = true) (hsz : x.sz ≤ 4194304) : PCall Tryz.prog 108 [x.v] (sxE x).v := specEx_all _ x (Nat.lt_succ_self _) hok hsz
end Go.Proofs.YtlmhknhlmicmeaaGreatDoor

namespace Go.Ab
theorem MExpr.bounds {x : MExpr} (h : x.sz ≤ 4194304) : x.fTrait.length ≤ 4194304 ∧ x.fName.length ≤ 4194304 ∧ x.fArgs.length ≤ 4194304 ∧ x.fArms.length ≤ 4194304 ∧ x.fType.sz ≤ 4194304 := by
  simp only [MExpr.sz, MExpr.enc_eq, szRow, szRow_append, D.sz, List.length_map, MType.sz_def] at h
  omega
theorem MExpr.arg_b {x : MExpr} {i : Nat} (hi : i < x.fArgs.length) (h : x.sz ≤ 4194304) : x.fArgs[i].sz ≤ 4194304 := by
  have hx : x.fArgs[i].sz ≤ szRows (x.fArgs.map MExpr.enc) := szRows_mem (List.mem_map_of_mem (List.getElem_mem hi))
  simp only [MExpr.sz, MExpr.enc_eq, szRow, szRow_append, D.sz, List.length_map] at h
  omega
theorem MExpr.arm_b {x : MExpr} {i : Nat} (hi : i < x.fArms.length) (h : x.sz ≤ 4194304) : x.fArms[i].sz ≤ 4194304 := by
  have hx : x.fArms[i].sz ≤ szRows (x.fArms.map MArm.enc) := szRows_mem (List.mem_map_of_mem (List.getElem_mem hi))
  simp only [MExpr.sz, MExpr.enc_eq, szRow, szRow_append, D.sz, List.length_map] at h
  omega
theorem MArm.bounds {x : MArm} (h : x.sz ≤ 4194304) : x.fConstructor.length ≤ 4194304 ∧ x.fVars.length ≤ 4194304 ∧ (∀ s ∈ x.fVars, s.length ≤ 4194304) ∧ x.fBody.sz ≤ 4194304 := by
  have hb := MArm.sz_body x
  simp only [MArm.sz, MArm.enc_eq, szRow, szRow_append, D.sz, List.length_map] at h hb
  refine ⟨by omega, by omega, fun s hs => ?_, by omega⟩
  have := strs_b hs
  omega
theorem kind_cases (k : Int) : (k < 1 ∨ 12 < k) ∨ k = 1 ∨ k = 2 ∨ k = 3 ∨ k = 4 ∨ k = 5 ∨ k = 6 ∨ k = 7 ∨ k = 8 ∨ k = 9 ∨ k = 10 ∨ k = 11 ∨ k = 12 := by omega
end Go.Ab
namespace Go.Proofs.YtlmhknhlmicmeaaGreatDoor
open Go Go.Ab
set_option maxHeartbeats 8000000 in
theorem hasFields_ok (x : MExpr) (hsz : x.sz ≤ 4194304) (hc : x.fArgs.length ≤ 300) : PCall Tryz.prog 282 [x.v] (.c (.d (.b (dec (fieldsP x))))) := fun S => by
  have hb0 := MExpr.bounds hsz
  have hz : zeroT x.fType → validType x.fType = false := zeroT_not_valid
  rcases kind_cases x.fKind with hk | hk | hk | hk | hk | hk | hk | hk | hk | hk | hk | hk | hk
  · have h1 : ¬ fieldsP x := fun h => by have := h.1; omega
    refine acall_cw (rs := [.tmp 2]) Tryz.checked.mixed Tryz.func282 Tryz.ntmps282 rfl rfl rfl rfl rfl ?_
    simp -implicitDefEqProofs (disch := omega) only [go_sem]
    refine call_w (argCount_ok x.fKind) ?_
    simp -implicitDefEqProofs (disch := omega) only [go_sem] <;> (repeat (with_reducible refine And.intro ?_ ?_; focus first | omega | rfl | assumption | exact ⟨_, rfl, rfl⟩ | (simp; omega) | (simp; done)))
    with_reducible refine split2 (fun hb => ?_) (fun hb => ?_) <;> have h := hb <;> (try simp only [wf_preprocess] at h) <;> simp -implicitDefEqProofs (disch := omega) only [go_sem, hb] <;> (repeat (with_reducible refine And.intro ?_ ?_; focus first | omega | rfl | assumption | exact ⟨_, rfl, rfl⟩ | (simp; omega) | (simp; done)))
    · exact bool_eq (dec_false h1).symm
    with_reducible refine split2 (fun hb => ?_) (fun hb => ?_) <;> have h := hb <;> (try simp only [wf_preprocess] at h) <;> simp -implicitDefEqProofs (disch := omega) only [go_sem, hb] <;> (repeat (with_reducible refine And.intro ?_ ?_; focus first | omega | rfl | assumption | exact ⟨_, rfl, rfl⟩ | (simp; omega) | (simp; done)))
    · exact bool_eq (dec_false h1).symm
    · omega
  all_goals
    refine acall_cw (rs := [.tmp 2]) Tryz.checked.mixed Tryz.func282 Tryz.ntmps282 rfl rfl rfl rfl rfl ?_
    simp -implicitDefEqProofs (disch := omega) only [go_sem, hk]
    refine call_w (argCount_ok _) ?_
    simp -implicitDefEqProofs (disch := omega) only [go_sem, hk, argLo, argHi]
    repeat' (first
      | with_reducible refine split2 (fun hb => ?_) (fun hb => ?_) <;> have h := hb <;> (try simp only [wf_preprocess] at h) <;> simp -implicitDefEqProofs (disch := omega) only [go_sem, hb, hk] <;> (repeat (with_reducible refine And.intro ?_ ?_; focus first | omega | rfl | assumption | exact ⟨_, rfl, rfl⟩ | (simp; omega) | (simp; done)))
      | ((with_reducible show CallG _ _ 168 _ _ _ _); refine call_w (implValidName_ok x.fName (by omega)) ?_; simp -implicitDefEqProofs (disch := omega) only [go_sem, hk])
      | ((with_reducible show CallG _ _ 168 _ _ _ _); refine call_w (implValidName_ok x.fTrait (by omega)) ?_; simp -implicitDefEqProofs (disch := omega) only [go_sem, hk])
      | ((with_reducible show CallG _ _ 328 _ _ _ _); refine call_w (isOperator_ok x.fName) ?_; simp -implicitDefEqProofs (disch := omega) only [go_sem, hk])
      | ((with_reducible show CallG _ _ 238 _ _ _ _); refine call_w (isZeroType_ok x.fType) ?_; simp -implicitDefEqProofs (disch := omega) only [go_sem, hk])
      | ((with_reducible show CallG _ _ 295 _ _ _ _); refine call_w (implValidType_ok x.fType (by omega)) ?_; simp -implicitDefEqProofs (disch := omega) only [go_sem, hk])
      | (refine bool_eq (Bool.eq_iff_iff.2 ?_); simp only [dec_eq_true, fieldsP, hk]; grind [of_dec, of_dec_false, dec_true, dec_false]))
end Go.Proofs.YtlmhknhlmicmeaaGreatDoor

namespace Go.Ab
theorem MExpr.cnt_arg {x : MExpr} {y : MExpr} (h : y ∈ x.fArgs) : y.cnt + 1 ≤ x.cnt := by
  rw [MExpr.cnt_eq x]
  have : ∀ xs : List MExpr, y ∈ xs → y.cnt ≤ MExpr.cnts xs := by
    intro xs
    induction xs with
    | nil => intro h; cases h
    | cons z zs ih =>
      intro h
      rw [MExpr.cnts]
      rcases List.mem_cons.1 h with e | e
      · subst e; omega
      · have := ih e; omega
  have := this _ h
  omega
theorem MExpr.cnt_arm {x : MExpr} {y : MArm} (h : y ∈ x.fArms) : y.fBody.cnt + 1 ≤ x.cnt := by
  rw [MExpr.cnt_eq x]
  have : ∀ xs : List MArm, y ∈ xs → y.fBody.cnt ≤ MArm.cnts xs := by
    intro xs
    induction xs with
    | nil => intro h; cases h
    | cons z zs ih =>
      intro h
      rw [MArm.cnts]
      rcases List.mem_cons.1 h with e | e
      · subst e; rw [MArm.cnt_eq]; omega
      · have := ih e; omega
  have := this _ h
  omega
theorem MExpr.len_cnt (x : MExpr) : x.fArgs.length + 1 ≤ x.cnt := by
  rw [MExpr.cnt_eq x]
  have : ∀ xs : List MExpr, xs.length ≤ MExpr.cnts xs := by
    intro xs
    induction xs with
    | nil => simp
    | cons z zs ih => rw [MExpr.cnts, List.length_cons]; have := MExpr.cnt_eq z; omega
  have := this x.fArgs
  omega
def hasTr (k : Int) : Bool := if k = 5 ∨ k = 11 then true else false
def hasNm (k : Int) : Bool := if k = 3 ∨ k = 4 ∨ k = 6 ∨ k = 5 ∨ k = 8 ∨ k = 10 then true else false
def hasNu (k : Int) : Bool := if k = 1 ∨ k = 2 then true else false
def hasTy (k : Int) : Bool := if k = 1 ∨ k = 2 ∨ k = 3 ∨ k = 4 ∨ k = 6 ∨ k = 5 ∨ k = 7 ∨ k = 8 ∨ k = 10 ∨ k = 9 ∨ k = 11 then false else true
def hasAr (k : Int) : Int := if k = 1 ∨ k = 2 ∨ k = 3 then 0 else if k = 4 ∨ k = 6 ∨ k = 5 then -1 else if k = 8 ∨ k = 10 then 2 else if k = 9 then 3 else 1
def hasAm (k : Int) : Bool := if k = 7 then true else false
end Go.Ab
namespace Go.Proofs.YtlmhknhlmicmeaaGreatDoor
open Go Go.Ab
theorem isExpr_all : ∀ n : Nat, ∀ x : MExpr, SizeOf.sizeOf x < n → x.sz ≤ 4194304 → x.cnt ≤ 300 → PCall Tryz.prog 211 [x.v] (.c (.d (.b (exprOk x))))
  | 0 => fun x h => by omega
  | n + 1 => by
    have ih := isExpr_all n
    intro x hn hsz hc S
    have hb0 := MExpr.bounds hsz
    have lArgs := MExpr.lt_Args x
    have lArms := MExpr.lt_Arms x
    have hl := MExpr.len_cnt x
    have h1 : ∀ y ∈ x.fArgs, PCall Tryz.prog 284 [y.v] (.c (.d (.b (!exprOk y)))) := fun y hy S => by
      have hys := List.sizeOf_lt_of_mem hy
      have hyc := MExpr.cnt_arg hy
      have hyz : y.sz ≤ 4194304 := by obtain ⟨i, hi, e⟩ := List.getElem_of_mem hy; rw [← e]; exact MExpr.arg_b hi hsz
      refine acall_cw (rs := [.tmp 2]) Tryz.checked.mixed Tryz.func284 Tryz.ntmps284 rfl rfl rfl rfl rfl ?_
      simp -implicitDefEqProofs (disch := omega) only [go_sem]
      refine call_w (ih y (by omega) hyz (by omega)) ?_
      simp -implicitDefEqProofs (disch := omega) only [go_sem] <;> (repeat (with_reducible refine And.intro ?_ ?_; focus first | omega | rfl | assumption | exact ⟨_, rfl, rfl⟩ | (simp; omega) | (simp; done)))
    have h2 : ∀ y ∈ x.fArms, PCall Tryz.prog 286 [y.v] (.c (.d (.b (!armOk y)))) := fun y hy S => by
      have hys := List.sizeOf_lt_of_mem hy
      have hyb := MArm.lt_Body y
      have hyc := MExpr.cnt_arm hy
      have hyz : y.sz ≤ 4194304 := by obtain ⟨i, hi, e⟩ := List.getElem_of_mem hy; rw [← e]; exact MExpr.arm_b hi hsz
      have hyy := MArm.bounds hyz
      refine acall_cw (rs := [.tmp 2]) Tryz.checked.mixed Tryz.func286 Tryz.ntmps286 rfl rfl rfl rfl rfl ?_
      simp -implicitDefEqProofs (disch := omega) only [go_sem]
      refine call_w (implValidName_ok y.fConstructor (by omega)) ?_
      simp -implicitDefEqProofs (disch := omega) only [go_sem] <;> (repeat (with_reducible refine And.intro ?_ ?_; focus first | omega | rfl | assumption | exact ⟨_, rfl, rfl⟩ | (simp; omega) | (simp; done)))
      with_reducible refine split2 (fun hb => ?_) (fun hb => ?_) <;> have h := hb <;> (try simp only [wf_preprocess] at h) <;> simp -implicitDefEqProofs (disch := omega) only [go_sem, hb] <;> (repeat (with_reducible refine And.intro ?_ ?_; focus first | omega | rfl | assumption | exact ⟨_, rfl, rfl⟩ | (simp; omega) | (simp; done)))
      · exact bool_eq (by rw [armOk_eq, h]; rfl)
      have k1 := h
      refine call_w (areNames_ok y.fVars (by omega) hyy.2.2.1) ?_
      simp -implicitDefEqProofs (disch := omega) only [go_sem] <;> (repeat (with_reducible refine And.intro ?_ ?_; focus first | omega | rfl | assumption | exact ⟨_, rfl, rfl⟩ | (simp; omega) | (simp; done)))
      with_reducible refine split2 (fun hb => ?_) (fun hb => ?_) <;> have h := hb <;> (try simp only [wf_preprocess] at h) <;> simp -implicitDefEqProofs (disch := omega) only [go_sem, hb] <;> (repeat (with_reducible refine And.intro ?_ ?_; focus first | omega | rfl | assumption | exact ⟨_, rfl, rfl⟩ | (simp; omega) | (simp; done)))
      · exact bool_eq (by rw [armOk_eq, h]; simp)
      have k2 := h
      refine call_w (ih y.fBody (by omega) hyy.2.2.2 (by omega)) ?_
      simp -implicitDefEqProofs (disch := omega) only [go_sem] <;> (repeat (with_reducible refine And.intro ?_ ?_; focus first | omega | rfl | assumption | exact ⟨_, rfl, rfl⟩ | (simp; omega) | (simp; done)))
      exact bool_eq (by rw [armOk_eq, k1, k2]; simp)
    refine acall_cw (rs := [.tmp 2]) Tryz.checked.mixed Tryz.func211 Tryz.ntmps211 rfl rfl rfl rfl rfl ?_
    simp -implicitDefEqProofs (disch := omega) only [go_sem]
    refine call_w (hasFields_ok x hsz (by omega)) ?_
    simp -implicitDefEqProofs (disch := omega) only [go_sem] <;> (repeat (with_reducible refine And.intro ?_ ?_; focus first | omega | rfl | assumption | exact ⟨_, rfl, rfl⟩ | (simp; omega) | (simp; done)))
    with_reducible refine split2 (fun hb => ?_) (fun hb => ?_) <;> have h := hb <;> (try simp only [wf_preprocess] at h) <;> simp -implicitDefEqProofs (disch := omega) only [go_sem, hb] <;> (repeat (with_reducible refine And.intro ?_ ?_; focus first | omega | rfl | assumption | exact ⟨_, rfl, rfl⟩ | (simp; omega) | (simp; done)))
    · exact bool_eq (by rw [exprOk_eq, dec_false h]; rfl)
    have k1 := h
    (repeat (with_reducible refine And.intro ?_ ?_; focus first | omega | rfl | assumption | exact ⟨_, rfl, rfl⟩ | (simp; omega) | (simp; done)))
    refine call_d rfl (containsFuncExpr_ok 284 [] _ x.fArgs (fun y => !exprOk y) (by omega) fun y hy => FPure.of_pure (h1 y hy)) ?_
    simp -implicitDefEqProofs (disch := omega) only [go_sem]
    rw [exprsOk_any]
    with_reducible refine split2 (fun hb => ?_) (fun hb => ?_) <;> have h := hb <;> (try simp only [wf_preprocess] at h) <;> simp -implicitDefEqProofs (disch := omega) only [go_sem, hb] <;> (repeat (with_reducible refine And.intro ?_ ?_; focus first | omega | rfl | assumption | exact ⟨_, rfl, rfl⟩ | (simp; omega) | (simp; done)))
    · exact bool_eq (by rw [exprOk_eq, h]; simp)
    have k2 := h
    (repeat (with_reducible refine And.intro ?_ ?_; focus first | omega | rfl | assumption | exact ⟨_, rfl, rfl⟩ | (simp; omega) | (simp; done)))
    refine call_d rfl (containsFuncArm_ok 286 [] _ x.fArms (fun y => !armOk y) (by omega) fun y hy => FPure.of_pure (h2 y hy)) ?_
    simp -implicitDefEqProofs (disch := omega) only [go_sem]
    rw [armsOk_any]
    exact bool_eq (by rw [exprOk_eq, dec_true k1, k2]; simp)
theorem implValidExpr_ok (x : MExpr) (hsz : x.sz ≤ 4194304) : PCall Tryz.prog 111 [x.v] (.c (.d (.b (validExpr x)))) := fun S => by
  refine acall_cw (rs := [.tmp 2]) Tryz.checked.mixed Tryz.func111 Tryz.ntmps111 rfl rfl rfl rfl rfl ?_
  simp -implicitDefEqProofs (disch := omega) only [go_sem]
  refine call_w (implExprSize_ok x hsz) ?_
  simp -implicitDefEqProofs (disch := omega) only [go_sem] <;> (repeat (with_reducible refine And.intro ?_ ?_; focus first | omega | rfl | assumption | exact ⟨_, rfl, rfl⟩ | (simp; omega) | (simp; done)))
  with_reducible refine split2 (fun hb => ?_) (fun hb => ?_) <;> have h := hb <;> (try simp only [wf_preprocess] at h) <;> simp -implicitDefEqProofs (disch := omega) only [go_sem, hb] <;> (repeat (with_reducible refine And.intro ?_ ?_; focus first | omega | rfl | assumption | exact ⟨_, rfl, rfl⟩ | (simp; omega) | (simp; done)))
  · refine call_w (isExpr_all _ x (Nat.lt_succ_self _) hsz (by omega)) ?_
    simp -implicitDefEqProofs (disch := omega) only [go_sem] <;> (repeat (with_reducible refine And.intro ?_ ?_; focus first | omega | rfl | assumption | exact ⟨_, rfl, rfl⟩ | (simp; omega) | (simp; done)))
    exact bool_eq (by unfold validExpr; rw [dec_true (by omega)]; rfl)
  · exact bool_eq (by unfold validExpr; rw [dec_false (by omega)]; rfl)
theorem l11Has_ok (k : Int) : PCall Tryz.prog 278 [.c (.d (.i .i64 k))] (.tup [(false, [.d (.b (hasTr k))]), (false, [.d (.b (hasNm k))]), (false, [.d (.b (hasNu k))]), (false, [.d (.b (hasTy k))]), (false, [.d (.i .i64 (hasAr k))]), (false, [.d (.b (hasAm k))])]) := fun S => by
  refine acall_cw (rs := [.tmp 2, .tmp 3, .tmp 4, .tmp 5, .tmp 6, .tmp 7]) Tryz.checked.mixed Tryz.func278 Tryz.ntmps278 rfl rfl rfl rfl rfl ?_
  simp -implicitDefEqProofs (disch := omega) only [go_sem]
  repeat' (first
    | with_reducible refine split2 (fun hb => ?_) (fun hb => ?_) <;> have h := hb <;> (try simp only [wf_preprocess] at h) <;> simp -implicitDefEqProofs (disch := omega) only [go_sem, hb] <;> (repeat (with_reducible refine And.intro ?_ ?_; focus first | omega | rfl | assumption | exact ⟨_, rfl, rfl⟩ | (simp; omega) | (simp; done)))
    | (unfold hasTr hasNm hasNu hasTy hasAr hasAm; grind))
theorem l11Zero_ok (t : MType) : PCall Tryz.prog 254 [t.v] (.c (.d (.b (dec (zeroT t))))) := fun S => by
  refine acall_cw (rs := [.tmp 2]) Tryz.checked.mixed Tryz.func254 Tryz.ntmps254 rfl rfl rfl rfl rfl ?_
  simp -implicitDefEqProofs (disch := omega) only [go_sem]
  repeat' (first
    | with_reducible refine split2 (fun hb => ?_) (fun hb => ?_) <;> have h := hb <;> (try simp only [wf_preprocess] at h) <;> simp -implicitDefEqProofs (disch := omega) only [go_sem, hb] <;> (repeat (with_reducible refine And.intro ?_ ?_; focus first | omega | rfl | assumption | exact ⟨_, rfl, rfl⟩ | (simp; omega) | (simp; done)))
    | (refine bool_eq ?_; unfold zeroT; grind [dec_true, dec_false, of_dec, of_dec_false]))
theorem l11Prim_ok (s : List UInt8) : PCall Tryz.prog 279 [.c (.d (.s s))] (.c (.d (.b (dec (s ∈ ops))))) := fun S => by
  refine acall_cw (rs := [.tmp 2]) Tryz.checked.mixed Tryz.func279 Tryz.ntmps279 rfl rfl rfl rfl rfl ?_
  simp -implicitDefEqProofs (disch := omega) only [go_sem]
  (repeat (with_reducible refine And.intro ?_ ?_; focus first | omega | rfl | assumption | exact ⟨_, rfl, rfl⟩ | (simp; omega) | (simp; done)))
  refine call_w (l1Has_ok ops s (by decide)) ?_
  simp -implicitDefEqProofs (disch := omega) only [go_sem] <;> (repeat (with_reducible refine And.intro ?_ ?_; focus first | omega | rfl | assumption | exact ⟨_, rfl, rfl⟩ | (simp; omega) | (simp; done)))
theorem l11Left_all : ∀ n : Nat, ∀ x : MExpr, SizeOf.sizeOf x < n → x.sz ≤ 4194304 → ∀ l : Int, 0 ≤ l → l ≤ 1048576 → PCall Tryz.prog 203 [x.v, .c (.d (.i .i64 l))] (.c (.d (.i .i64 (subE l x.cnt))))
  | 0 => fun x h => by omega
  | n + 1 => by
    have ih := l11Left_all n
    intro x hn hsz l hl hl2 S
    have hb0 := MExpr.bounds hsz
    have lArgs := MExpr.lt_Args x
    have lArms := MExpr.lt_Arms x
    have he := MExpr.cnt_eq x
    refine acall_cw (rs := [.tmp 4]) Tryz.checked.mixed Tryz.func203 Tryz.ntmps203 rfl rfl rfl rfl rfl ?_
    simp -implicitDefEqProofs (disch := omega) only [go_sem]
    refine loop_at (ι := Nat × Int) Tryz.checked.mixed rfl [1, 2, 5] (fun y => [.c (.d (.i .i64 y.2)), .c (.ptr (0, 0) 0), .c (.d (.i .i64 y.1))]) (fun y => [.box (x.enc.map .d)] :: S)
      (fun y => y.1 ≤ x.fArgs.length ∧ (-1 ≤ y.2 ∧ y.2 ≤ 1048576) ∧ subE y.2 (MExpr.cnts (x.fArgs.drop y.1)) = subE (l - 1) (MExpr.cnts x.fArgs)) (fun y => x.fArgs.length - y.1) (0, l - 1) rfl ?_ ⟨Nat.zero_le _, by simp only; omega, rfl⟩ ?_
    · simp -implicitDefEqProofs (disch := omega) only [go_sem]
    rintro ⟨i, c⟩ ⟨p1, p2, p3⟩
    simp only at p1 p2 p3
    have out : (i = x.fArgs.length ∨ c < 0) → c = subE (l - 1) (MExpr.cnts x.fArgs) := fun h => by
      rcases h with h | h
      · rw [h, List.drop_length, MExpr.cnts, subE_zero p2.1] at p3
        exact p3
      · rw [← p3, subE_neg h]; omega
    have second : (i = x.fArgs.length ∨ c < 0) → subE c (MArm.cnts x.fArms) = subE l x.cnt := fun h => by
      rw [out h, subE_add, he]
      unfold subE
      split <;> split <;> (try split) <;> omega
    simp -implicitDefEqProofs (disch := omega) only [go_sem]
    with_reducible refine split2 (fun hb => ?_) (fun hb => ?_) <;> have h := hb <;> (try simp only [wf_preprocess] at h) <;> simp -implicitDefEqProofs (disch := omega) only [go_sem, hb] <;> (repeat (with_reducible refine And.intro ?_ ?_; focus first | omega | rfl | assumption | exact ⟨_, rfl, rfl⟩ | (simp; omega) | (simp; done)))
    · have hi : i < x.fArgs.length := by omega
      with_reducible refine split2 (fun hb => ?_) (fun hb => ?_) <;> have h := hb <;> (try simp only [wf_preprocess] at h) <;> simp -implicitDefEqProofs (disch := omega) only [go_sem, hb] <;> (repeat (with_reducible refine And.intro ?_ ?_; focus first | omega | rfl | assumption | exact ⟨_, rfl, rfl⟩ | (simp; omega) | (simp; done)))
      · have hs := List.sizeOf_lt_of_mem (List.getElem_mem hi)
        have hr := subE_le (l := c) (c := x.fArgs[i].cnt) (by omega)
        rw [MExpr.cnts_drop hi, ← subE_add] at p3
        (repeat (with_reducible refine And.intro ?_ ?_; focus first | omega | rfl | assumption | exact ⟨_, rfl, rfl⟩ | (simp; omega) | (simp; done)))
        refine call_w (ih x.fArgs[i] (by omega) (MExpr.arg_b hi hsz) c (by omega) (by omega)) ?_
        simp -implicitDefEqProofs (disch := omega) only [go_sem] <;> (repeat (with_reducible refine And.intro ?_ ?_; focus first | omega | rfl | assumption | exact ⟨_, rfl, rfl⟩ | (simp; omega) | (simp; done)))
        exact inv_at (i + 1, subE c x.fArgs[i].cnt) (by simp only; omega) rfl rfl ⟨by simp only; omega, by simp only; omega, p3⟩
      · have p4 := second (.inr (by omega))
        clear second out p3
        refine loop_at (ι := Nat × Int) Tryz.checked.mixed rfl [1, 2, 6] (fun y => [.c (.d (.i .i64 y.2)), .c (.ptr (0, 0) 0), .c (.d (.i .i64 y.1))]) (fun y => [.box (x.enc.map .d)] :: S)
          (fun y => y.1 ≤ x.fArms.length ∧ (-1 ≤ y.2 ∧ y.2 ≤ 1048576) ∧ subE y.2 (MArm.cnts (x.fArms.drop y.1)) = subE l x.cnt) (fun y => x.fArms.length - y.1) (0, c) rfl ?_ ⟨Nat.zero_le _, by simp only; omega, p4⟩ ?_
        · simp -implicitDefEqProofs (disch := omega) only [go_sem]
        clear p1 p2 p4
        rintro ⟨i, d⟩ ⟨p1, p2, p3⟩
        simp only at p1 p2 p3
        simp -implicitDefEqProofs (disch := omega) only [go_sem]
        with_reducible refine split2 (fun hb => ?_) (fun hb => ?_) <;> have h := hb <;> (try simp only [wf_preprocess] at h) <;> simp -implicitDefEqProofs (disch := omega) only [go_sem, hb] <;> (repeat (with_reducible refine And.intro ?_ ?_; focus first | omega | rfl | assumption | exact ⟨_, rfl, rfl⟩ | (simp; omega) | (simp; done)))
        · have hi : i < x.fArms.length := by omega
          with_reducible refine split2 (fun hb => ?_) (fun hb => ?_) <;> have h := hb <;> (try simp only [wf_preprocess] at h) <;> simp -implicitDefEqProofs (disch := omega) only [go_sem, hb] <;> (repeat (with_reducible refine And.intro ?_ ?_; focus first | omega | rfl | assumption | exact ⟨_, rfl, rfl⟩ | (simp; omega) | (simp; done)))
          · have hs := List.sizeOf_lt_of_mem (List.getElem_mem hi)
            have hs' := MArm.lt_Body x.fArms[i]
            have hr := subE_le (l := d) (c := x.fArms[i].fBody.cnt) (by omega)
            rw [MArm.cnts_drop hi, ← subE_add] at p3
            (repeat (with_reducible refine And.intro ?_ ?_; focus first | omega | rfl | assumption | exact ⟨_, rfl, rfl⟩ | (simp; omega) | (simp; done)))
            refine call_w (ih x.fArms[i].fBody (by omega) (MArm.bounds (MExpr.arm_b hi hsz)).2.2.2 d (by omega) (by omega)) ?_
            simp -implicitDefEqProofs (disch := omega) only [go_sem] <;> (repeat (with_reducible refine And.intro ?_ ?_; focus first | omega | rfl | assumption | exact ⟨_, rfl, rfl⟩ | (simp; omega) | (simp; done)))
            exact inv_at (i + 1, subE d x.fArms[i].fBody.cnt) (by simp only; omega) rfl rfl ⟨by simp only; omega, by simp only; omega, p3⟩
          · rw [subE_neg (by omega)] at p3
            exact int_eq (by omega)
        · have hi : i = x.fArms.length := by omega
          rw [hi, List.drop_length, MArm.cnts, subE_zero p2.1] at p3
          exact int_eq (by omega)
    · have p4 := second (.inl (by omega))
      clear second out p3
      refine loop_at (ι := Nat × Int) Tryz.checked.mixed rfl [1, 2, 6] (fun y => [.c (.d (.i .i64 y.2)), .c (.ptr (0, 0) 0), .c (.d (.i .i64 y.1))]) (fun y => [.box (x.enc.map .d)] :: S)
        (fun y => y.1 ≤ x.fArms.length ∧ (-1 ≤ y.2 ∧ y.2 ≤ 1048576) ∧ subE y.2 (MArm.cnts (x.fArms.drop y.1)) = subE l x.cnt) (fun y => x.fArms.length - y.1) (0, c) rfl ?_ ⟨Nat.zero_le _, by simp only; omega, p4⟩ ?_
      · simp -implicitDefEqProofs (disch := omega) only [go_sem]
      clear p1 p2 p4
      rintro ⟨i, d⟩ ⟨p1, p2, p3⟩
      simp only at p1 p2 p3
      simp -implicitDefEqProofs (disch := omega) only [go_sem]
      with_reducible refine split2 (fun hb => ?_) (fun hb => ?_) <;> have h := hb <;> (try simp only [wf_preprocess] at h) <;> simp -implicitDefEqProofs (disch := omega) only [go_sem, hb] <;> (repeat (with_reducible refine And.intro ?_ ?_; focus first | omega | rfl | assumption | exact ⟨_, rfl, rfl⟩ | (simp; omega) | (simp; done)))
      · have hi : i < x.fArms.length := by omega
        with_reducible refine split2 (fun hb => ?_) (fun hb => ?_) <;> have h := hb <;> (try simp only [wf_preprocess] at h) <;> simp -implicitDefEqProofs (disch := omega) only [go_sem, hb] <;> (repeat (with_reducible refine And.intro ?_ ?_; focus first | omega | rfl | assumption | exact ⟨_, rfl, rfl⟩ | (simp; omega) | (simp; done)))
        · have hs := List.sizeOf_lt_of_mem (List.getElem_mem hi)
          have hs' := MArm.lt_Body x.fArms[i]
          have hr := subE_le (l := d) (c := x.fArms[i].fBody.cnt) (by omega)
          rw [MArm.cnts_drop hi, ← subE_add] at p3
          (repeat (with_reducible refine And.intro ?_ ?_; focus first | omega | rfl | assumption | exact ⟨_, rfl, rfl⟩ | (simp; omega) | (simp; done)))
          refine call_w (ih x.fArms[i].fBody (by omega) (MArm.bounds (MExpr.arm_b hi hsz)).2.2.2 d (by omega) (by omega)) ?_
          simp -implicitDefEqProofs (disch := omega) only [go_sem] <;> (repeat (with_reducible refine And.intro ?_ ?_; focus first | omega | rfl | assumption | exact ⟨_, rfl, rfl⟩ | (simp; omega) | (simp; done)))
          exact inv_at (i + 1, subE d x.fArms[i].fBody.cnt) (by simp only; omega) rfl rfl ⟨by simp only; omega, by simp only; omega, p3⟩
        · rw [subE_neg (by omega)] at p3
          exact int_eq (by omega)
      · have hi : i = x.fArms.length := by omega
        rw [hi, List.drop_length, MArm.cnts, subE_zero p2.1] at p3
        exact int_eq (by omega)
end Go.Proofs.YtlmhknhlmicmeaaGreatDoor

namespace Go.Proofs.YtlmhknhlmicmeaaGreatDoor
open Go Go.Ab
set_option maxHeartbeats 8000000 in
theorem l11Form_all : ∀ n : Nat, ∀ x : MExpr, SizeOf.sizeOf x < n → x.sz ≤ 4194304 → PCall Tryz.prog 204 [x.v] (.c (.d (.b (exprOk x)))) := by
  intro n
  induction n with
  | zero => intro x h; omega
  | succ n ih =>
    intro x hn hsz S
    have hb0 := MExpr.bounds hsz
    have lArgs := MExpr.lt_Args x
    have lArms := MExpr.lt_Arms x
    have he := exprOk_eq x
    have hv0 := not_valid_nil
    have hop : x.fName ∈ ops → validName x.fName = false := op_not_valid
    refine (show (fieldsP x → ?T) → _ from fun tail => ?main) ?tp
    case' main =>
      rcases kind_cases x.fKind with hk | hk | hk | hk | hk | hk | hk | hk | hk | hk | hk | hk | hk
      · have h1 : exprOk x = false := by rw [he, dec_false (fun h => by have := h.1; omega)]; rfl
        refine acall_cw (rs := [.tmp 2]) Tryz.checked.mixed Tryz.func204 Tryz.ntmps204 rfl rfl rfl rfl rfl ?_
        simp -implicitDefEqProofs (disch := omega) only [go_sem]
        refine call_w (l11Has_ok _) ?_
        simp -implicitDefEqProofs (disch := omega) only [go_sem]
        refine call_w (l1In_ok _ _ _) ?_
        simp -implicitDefEqProofs (disch := omega) only [go_sem]
        with_reducible refine split2 (fun hb => ?_) (fun hb => ?_) <;> have h := hb <;> (try simp only [wf_preprocess] at h) <;> simp -implicitDefEqProofs (disch := omega) only [go_sem, hb] <;> (repeat (with_reducible refine And.intro ?_ ?_; focus first | omega | rfl | assumption | exact ⟨_, rfl, rfl⟩ | (simp; omega) | (simp; done)))
        · rw [h1]
        · omega
      all_goals
        have hf0 : ¬ fieldsP x → V.c (.d (.b false)) = V.c (.d (.b (exprOk x))) := fun h => bool_eq (by rw [he, dec_false h]; rfl)
        refine acall_cw (rs := [.tmp 2]) Tryz.checked.mixed Tryz.func204 Tryz.ntmps204 rfl rfl rfl rfl rfl ?_
        simp -implicitDefEqProofs (disch := omega) only [go_sem, hk]
        refine call_w (l11Has_ok _) ?_
        simp -implicitDefEqProofs (disch := omega) only [go_sem, hk, hasTr, hasNm, hasNu, hasTy, hasAr, hasAm, or_false, or_true, true_or, false_or]
        refine call_w (l1In_ok _ _ _) ?_
        simp -implicitDefEqProofs (disch := omega) only [go_sem, hk]
        repeat' (first
          | with_reducible refine split2 (fun hb => ?_) (fun hb => ?_) <;> have h := hb <;> (try simp only [wf_preprocess] at h) <;> simp -implicitDefEqProofs (disch := omega) only [go_sem, hb, hk] <;> (repeat (with_reducible refine And.intro ?_ ?_; focus first | omega | rfl | assumption | exact ⟨_, rfl, rfl⟩ | (simp; omega) | (simp; done)))
          | ((with_reducible show CallG _ _ 152 _ _ _ _); refine call_w (specValidName_ok x.fName (by omega)) ?_; simp -implicitDefEqProofs (disch := omega) only [go_sem, hk])
          | ((with_reducible show CallG _ _ 152 _ _ _ _); refine call_w (specValidName_ok x.fTrait (by omega)) ?_; simp -implicitDefEqProofs (disch := omega) only [go_sem, hk])
          | ((with_reducible show CallG _ _ 279 _ _ _ _); refine call_w (l11Prim_ok x.fName) ?_; simp -implicitDefEqProofs (disch := omega) only [go_sem, hk])
          | ((with_reducible show CallG _ _ 254 _ _ _ _); refine call_w (l11Zero_ok x.fType) ?_; simp -implicitDefEqProofs (disch := omega) only [go_sem, hk])
          | ((with_reducible show CallG _ _ 280 _ _ _ _); refine call_w (specValidType_ok x.fType (by omega)) ?_; simp -implicitDefEqProofs (disch := omega) only [go_sem, hk])
          | ((with_reducible show CallG _ _ 245 _ _ _ _); refine call_w (l1In_ok x.fN _ _) ?_; simp -implicitDefEqProofs (disch := omega) only [go_sem, hk])
          | (refine hf0 fun hF => ?_; simp only [fieldsP, hk, or_false, or_true, true_or, false_or, and_true, true_and, if_true, if_false, ↓reduceIte, Int.reduceEq, Int.reduceLT, Int.reduceLE] at hF; grind [of_dec, of_dec_false, dec_true, dec_false]))
      all_goals
        have hF : fieldsP x := by simp only [fieldsP, hk, or_false, or_true, true_or, false_or, and_true, true_and, if_true, if_false, ↓reduceIte, Int.reduceEq, Int.reduceLT, Int.reduceLE]; grind [of_dec, of_dec_false, dec_true, dec_false]
        refine aw_canon (st' := [.box (x.enc.map .d)] :: S) [1, 9] [.c (.ptr (0, 0) 0), .c (.d (.i .i64 0))] rfl (by simp -implicitDefEqProofs (disch := omega) only [go_sem, hk]) ?_
        exact tail hF
    intro hF
    rw [dec_true hF, Bool.true_and] at he
    clear hF hop hv0
    refine loop_at (ι := Nat) Tryz.checked.mixed rfl [1, 9] (fun i => [.c (.ptr (0, 0) 0), .c (.d (.i .i64 i))]) (fun _ => [.box (x.enc.map .d)] :: S)
      (fun i => i ≤ x.fArgs.length ∧ exprsOk (x.fArgs.drop i) = exprsOk x.fArgs) (fun i => x.fArgs.length - i) 0 rfl ?_ ⟨Nat.zero_le _, rfl⟩ ?_
    · simp -implicitDefEqProofs (disch := omega) only [go_sem]
    rintro i ⟨p1, p2⟩
    simp -implicitDefEqProofs (disch := omega) only [go_sem]
    with_reducible refine split2 (fun hb => ?_) (fun hb => ?_) <;> have h := hb <;> (try simp only [wf_preprocess] at h) <;> simp -implicitDefEqProofs (disch := omega) only [go_sem, hb] <;> (repeat (with_reducible refine And.intro ?_ ?_; focus first | omega | rfl | assumption | exact ⟨_, rfl, rfl⟩ | (simp; omega) | (simp; done)))
    · have hi : i < x.fArgs.length := by omega
      have hs := List.sizeOf_lt_of_mem (List.getElem_mem hi)
      rw [exprsOk_drop hi] at p2
      (repeat (with_reducible refine And.intro ?_ ?_; focus first | omega | rfl | assumption | exact ⟨_, rfl, rfl⟩ | (simp; omega) | (simp; done)))
      refine call_w (ih x.fArgs[i] (by omega) (MExpr.arg_b hi hsz)) ?_
      simp -implicitDefEqProofs (disch := omega) only [go_sem] <;> (repeat (with_reducible refine And.intro ?_ ?_; focus first | omega | rfl | assumption | exact ⟨_, rfl, rfl⟩ | (simp; omega) | (simp; done)))
      with_reducible refine split2 (fun hb => ?_) (fun hb => ?_) <;> have h := hb <;> (try simp only [wf_preprocess] at h) <;> simp -implicitDefEqProofs (disch := omega) only [go_sem, hb] <;> (repeat (with_reducible refine And.intro ?_ ?_; focus first | omega | rfl | assumption | exact ⟨_, rfl, rfl⟩ | (simp; omega) | (simp; done)))
      · exact bool_eq (by rw [he, ← p2, h]; rfl)
      · exact inv_at (i + 1) (by omega) rfl rfl ⟨by omega, by rw [← p2, h]; rfl⟩
    rw [List.drop_of_length_le (by omega)] at p2
    have q : exprsOk x.fArgs = true := p2.symm
    clear p2 p1
    refine loop_at (ι := Nat) Tryz.checked.mixed rfl [1, 10] (fun i => [.c (.ptr (0, 0) 0), .c (.d (.i .i64 i))]) (fun _ => [.box (x.enc.map .d)] :: S)
      (fun i => i ≤ x.fArms.length ∧ armsOk (x.fArms.drop i) = armsOk x.fArms) (fun i => x.fArms.length - i) 0 rfl ?_ ⟨Nat.zero_le _, rfl⟩ ?_
    · simp -implicitDefEqProofs (disch := omega) only [go_sem]
    rintro i ⟨p1, p2⟩
    simp -implicitDefEqProofs (disch := omega) only [go_sem]
    with_reducible refine split2 (fun hb => ?_) (fun hb => ?_) <;> have h := hb <;> (try simp only [wf_preprocess] at h) <;> simp -implicitDefEqProofs (disch := omega) only [go_sem, hb] <;> (repeat (with_reducible refine And.intro ?_ ?_; focus first | omega | rfl | assumption | exact ⟨_, rfl, rfl⟩ | (simp; omega) | (simp; done)))
    · have hi : i < x.fArms.length := by omega
      have hs := List.sizeOf_lt_of_mem (List.getElem_mem hi)
      have hs' := MArm.lt_Body x.fArms[i]
      have hab := MArm.bounds (MExpr.arm_b hi hsz)
      rw [armsOk_drop hi] at p2
      have no : armOk x.fArms[i] = false → V.c (.d (.b false)) = V.c (.d (.b (exprOk x))) := fun h => bool_eq (by rw [he, ← p2, h]; simp)
      (repeat (with_reducible refine And.intro ?_ ?_; focus first | omega | rfl | assumption | exact ⟨_, rfl, rfl⟩ | (simp; omega) | (simp; done)))
      refine call_w (specValidName_ok x.fArms[i].fConstructor (by omega)) ?_
      simp -implicitDefEqProofs (disch := omega) only [go_sem] <;> (repeat (with_reducible refine And.intro ?_ ?_; focus first | omega | rfl | assumption | exact ⟨_, rfl, rfl⟩ | (simp; omega) | (simp; done)))
      with_reducible refine split2 (fun hb => ?_) (fun hb => ?_) <;> have h := hb <;> (try simp only [wf_preprocess] at h) <;> simp -implicitDefEqProofs (disch := omega) only [go_sem, hb] <;> (repeat (with_reducible refine And.intro ?_ ?_; focus first | omega | rfl | assumption | exact ⟨_, rfl, rfl⟩ | (simp; omega) | (simp; done)))
      · exact no (by rw [armOk_eq, h]; rfl)
      have k1 := h
      (repeat (with_reducible refine And.intro ?_ ?_; focus first | omega | rfl | assumption | exact ⟨_, rfl, rfl⟩ | (simp; omega) | (simp; done)))
      refine call_w (l3Names_ok x.fArms[i].fVars (by omega) hab.2.2.1) ?_
      simp -implicitDefEqProofs (disch := omega) only [go_sem] <;> (repeat (with_reducible refine And.intro ?_ ?_; focus first | omega | rfl | assumption | exact ⟨_, rfl, rfl⟩ | (simp; omega) | (simp; done)))
      with_reducible refine split2 (fun hb => ?_) (fun hb => ?_) <;> have h := hb <;> (try simp only [wf_preprocess] at h) <;> simp -implicitDefEqProofs (disch := omega) only [go_sem, hb] <;> (repeat (with_reducible refine And.intro ?_ ?_; focus first | omega | rfl | assumption | exact ⟨_, rfl, rfl⟩ | (simp; omega) | (simp; done)))
      · exact no (by rw [armOk_eq]; unfold namesOk; rw [h]; simp)
      have k2 := h
      (repeat (with_reducible refine And.intro ?_ ?_; focus first | omega | rfl | assumption | exact ⟨_, rfl, rfl⟩ | (simp; omega) | (simp; done)))
      refine call_w (specDistinct_ok x.fArms[i].fVars (by omega)) ?_
      simp -implicitDefEqProofs (disch := omega) only [go_sem] <;> (repeat (with_reducible refine And.intro ?_ ?_; focus first | omega | rfl | assumption | exact ⟨_, rfl, rfl⟩ | (simp; omega) | (simp; done)))
      with_reducible refine split2 (fun hb => ?_) (fun hb => ?_) <;> have h := hb <;> (try simp only [wf_preprocess] at h) <;> simp -implicitDefEqProofs (disch := omega) only [go_sem, hb] <;> (repeat (with_reducible refine And.intro ?_ ?_; focus first | omega | rfl | assumption | exact ⟨_, rfl, rfl⟩ | (simp; omega) | (simp; done)))
      · exact no (by rw [armOk_eq]; unfold namesOk; rw [dec_false h]; simp)
      have k3 := h
      (repeat (with_reducible refine And.intro ?_ ?_; focus first | omega | rfl | assumption | exact ⟨_, rfl, rfl⟩ | (simp; omega) | (simp; done)))
      refine call_w (ih x.fArms[i].fBody (by omega) hab.2.2.2) ?_
      simp -implicitDefEqProofs (disch := omega) only [go_sem] <;> (repeat (with_reducible refine And.intro ?_ ?_; focus first | omega | rfl | assumption | exact ⟨_, rfl, rfl⟩ | (simp; omega) | (simp; done)))
      with_reducible refine split2 (fun hb => ?_) (fun hb => ?_) <;> have h := hb <;> (try simp only [wf_preprocess] at h) <;> simp -implicitDefEqProofs (disch := omega) only [go_sem, hb] <;> (repeat (with_reducible refine And.intro ?_ ?_; focus first | omega | rfl | assumption | exact ⟨_, rfl, rfl⟩ | (simp; omega) | (simp; done)))
      · exact no (by rw [armOk_eq, h]; simp)
      · exact inv_drop 1 (by decide) (i + 1) (by omega) rfl rfl rfl rfl ⟨by omega, by rw [← p2, armOk_eq, k1, h]; unfold namesOk; rw [k2, dec_true k3]; rfl⟩
    · rw [List.drop_of_length_le (by omega)] at p2
      exact bool_eq (by rw [he, q, ← p2]; rfl)
theorem specValidExpr_ok (x : MExpr) (hsz : x.sz ≤ 4194304) : PCall Tryz.prog 106 [x.v] (.c (.d (.b (validExpr x)))) := fun S => by
  have hs := subE_pos (l := 300) (c := x.cnt) (by omega)
  refine acall_cw (rs := [.tmp 2]) Tryz.checked.mixed Tryz.func106 Tryz.ntmps106 rfl rfl rfl rfl rfl ?_
  simp -implicitDefEqProofs (disch := omega) only [go_sem]
  refine call_w (l11Left_all _ x (Nat.lt_succ_self _) hsz 300 (by omega) (by omega)) ?_
  simp -implicitDefEqProofs (disch := omega) only [go_sem] <;> (repeat (with_reducible refine And.intro ?_ ?_; focus first | omega | rfl | assumption | exact ⟨_, rfl, rfl⟩ | (simp; omega) | (simp; done)))
  rw [hs]
  with_reducible refine split2 (fun hb => ?_) (fun hb => ?_) <;> have h := hb <;> (try simp only [wf_preprocess] at h) <;> simp -implicitDefEqProofs (disch := omega) only [go_sem, hb] <;> (repeat (with_reducible refine And.intro ?_ ?_; focus first | omega | rfl | assumption | exact ⟨_, rfl, rfl⟩ | (simp; omega) | (simp; done)))
  · refine call_w (l11Form_all _ x (Nat.lt_succ_self _) hsz) ?_
    simp -implicitDefEqProofs (disch := omega) only [go_sem] <;> (repeat (with_reducible refine And.intro ?_ ?_; focus first | omega | rfl | assumption | exact ⟨_, rfl, rfl⟩ | (simp; omega) | (simp; done)))
    exact bool_eq (by unfold validExpr; rw [dec_true (by omega)]; rfl)
  · exact bool_eq (by unfold validExpr; rw [dec_false (by omega)]; rfl)
end Go.Proofs.YtlmhknhlmicmeaaGreatDoor

namespace Go.Ab
theorem validExpr_ok {x : MExpr} (h : validExpr x = true) : exprOk x = true := by rw [validExpr, Bool.and_eq_true] at h; exact h.2
end Go.Ab
namespace Go.Proofs.YtlmhknhlmicmeaaGreatDoor
open Go Go.Ab
end Go.Proofs.YtlmhknhlmicmeaaGreatDoor

namespace Go.Ab
theorem vl_less (x : MExpr) (n : Nat) : Less (x.vl n) x.v := by
  have := less_lab (r := x.enc) (n := n)
  rw [labEx_eq, MExpr.v_eq] at this
  exact this
theorem rdE_no {x : MSExpr} (h : okE x = false) : rdE x = zeroEx := if_neg (by rw [h]; decide)
theorem rdE_yes {x : MSExpr} (h : okE x = true) : rdE x = decE true x := if_pos h
abbrev MExpr.cv (x : MExpr) : List C := [.d (.i .i64 x.fKind), .d (.s x.fTrait), .d (.s x.fName), .d (.i .i64 x.fN), .d (.i .i64 x.fType.fKind), .d (.s x.fType.fName), .d (.sl (x.fType.fArgs.map MType.enc)), .d (.sl (x.fArgs.map MExpr.enc)), .d (.sl (x.fArms.map MArm.enc))]
abbrev MExpr.cl (x : MExpr) (n : Nat) : List C := [.d (.i .i64 x.fKind), .d (.s x.fTrait), .d (.s x.fName), .d (.i .i64 x.fN), .d (.i .i64 x.fType.fKind), .d (.s x.fType.fName), .d (.ol n (lt x.fType.fArgs (n + 1))),
    .d (.ol (n + (cntTs x.fType.fArgs + 1)) (lE x.fArgs (n + (cntTs x.fType.fArgs + 1) + 1))), .d (.ol (n + (cntTs x.fType.fArgs + 1) + (cntEs x.fArgs + 1)) (lM x.fArms (n + (cntTs x.fType.fArgs + 1) + (cntEs x.fArgs + 1) + 1)))]
abbrev zeroEc : List C := [.d (.i .i64 0), .d (.s []), .d (.s []), .d (.i .i64 0), .d (.i .i64 0), .d (.s []), .fsl [], .fsl [], .fsl []]
theorem tupE (e : MExpr) (h : e = zeroEx) (ok : Bool) : Less (.tup [(true, zeroEc), (false, [.d (.b ok)])]) (.tup [(true, e.cv), (false, [.d (.b ok)])]) := by
  rw [h]
  exact (CompsLe.cons (.cons (.refl _) (.cons (.refl _) (.cons (.refl _) (.cons (.refl _) (.cons (.refl _) (.cons (.refl _) (.cons (cell_fsl _) (.cons (cell_fsl _) (.cons (cell_fsl _) .nil))))))))) (.refl _)).less
theorem tupE_l (e : MExpr) (h : e = zeroEx) (n : Nat) (ok : Bool) : Less (.tup [(true, zeroEc), (false, [.d (.b ok)])]) (.tup [(true, e.cl n), (false, [.d (.b ok)])]) := by
  rw [h]
  exact (CompsLe.cons (.cons (.refl _) (.cons (.refl _) (.cons (.refl _) (.cons (.refl _) (.cons (.refl _) (.cons (.refl _) (.cons (cell_nil_ol _) (.cons (cell_nil_ol _) (.cons (cell_nil_ol _) .nil))))))))) (.refl _)).less
end Go.Ab
namespace Go.Proofs.YtlmhknhlmicmeaaGreatDoor
open Go Go.Ab
theorem specDecExpr_ok (x : MSExpr) (hsz : x.sz ≤ 1048576) : PCall Tryz.prog 27 [x.v] (.tup [(true, (rdE x).cv), (false, [.d (.b (okE x))])]) := PCall.of_le fun S => by
  have hds := decE_sz false x
  have hok := okE_spec x
  have leafN : okE x = false → Less (.tup [(true, zeroEc), (false, [.d (.b false)])]) (.tup [(true, (rdE x).cv), (false, [.d (.b (okE x))])]) := fun e => by
    rw [e]; exact tupE _ (rdE_no e) false
  refine acall_cw (rs := [.cell 2 61, .tmp 3]) Tryz.checked.mixed Tryz.func27 Tryz.ntmps27 rfl rfl rfl rfl rfl ?_
  simp -implicitDefEqProofs (disch := omega) only [go_sem]
  refine call_w (specValidX_ok x (by omega)) ?_
  simp -implicitDefEqProofs (disch := omega) only [go_sem]
  with_reducible refine split2 (fun hb => ?_) (fun hb => ?_) <;> have h := hb <;> (try simp only [wf_preprocess] at h) <;> simp -implicitDefEqProofs (disch := omega) only [go_sem, hb] <;> (repeat (with_reducible refine And.intro ?_ ?_; focus first | omega | rfl | assumption | exact ⟨_, rfl, rfl⟩ | (simp; omega) | (simp; done)))
  · exact leafN (dec_false fun e => by rw [e.1] at h; cases h)
  have hv := h
  have hvx := validX_sz hv
  refine call_w (specDecE_ok x (by omega)) ?_
  simp -implicitDefEqProofs (disch := omega) only [go_sem]
  refine call_w (specValidExpr_ok (decE false x) (by omega)) ?_
  simp -implicitDefEqProofs (disch := omega) only [go_sem]
  with_reducible refine split2 (fun hb => ?_) (fun hb => ?_) <;> have h := hb <;> (try simp only [wf_preprocess] at h) <;> simp -implicitDefEqProofs (disch := omega) only [go_sem, hb] <;> (repeat (with_reducible refine And.intro ?_ ?_; focus first | omega | rfl | assumption | exact ⟨_, rfl, rfl⟩ | (simp; omega) | (simp; done)))
  · exact leafN (hok.trans (dec_false fun e => by rw [e.2.1] at h; cases h))
  have he := h
  have hz := sxE_le (decE false x) (validExpr_ok he)
  (repeat (with_reducible refine And.intro ?_ ?_; focus first | omega | rfl | assumption | exact ⟨_, rfl, rfl⟩ | (simp; omega) | (simp; done)))
  refine call_w (specEx_ok (decE false x) (validExpr_ok he) (by omega)) ?_
  simp -implicitDefEqProofs (disch := omega) only [go_sem]
  refine call_w (specEqualSExpr_ok (sxE (decE false x)) x (by omega)) ?_
  simp -implicitDefEqProofs (disch := omega) only [go_sem]
  with_reducible refine split2 (fun hb => ?_) (fun hb => ?_) <;> have h := hb <;> (try simp only [wf_preprocess] at h) <;> simp -implicitDefEqProofs (disch := omega) only [go_sem, hb] <;> (repeat (with_reducible refine And.intro ?_ ?_; focus first | omega | rfl | assumption | exact ⟨_, rfl, rfl⟩ | (simp; omega) | (simp; done)))
  · exact leafN (hok.trans (dec_false fun e => h e.2.2))
  · have hy : okE x = true := hok.trans (dec_true ⟨hv, he, h⟩)
    rw [rdE_yes hy, hy, ← okE_same hy]
    exact less_refl _
theorem implDecExpr_lab (x : MSExpr) (n : Nat) (hsz : x.sz ≤ 1048576) : PCall Tryz.prog 29 [x.v] (.tup [(true, (rdE x).cl n), (false, [.d (.b (okE x))])]) := PCall.of_le fun S => by
  have hds := decE_sz true x
  have leafN : okE x = false → Less (.tup [(true, zeroEc), (false, [.d (.b false)])]) (.tup [(true, (rdE x).cl n), (false, [.d (.b (okE x))])]) := fun e => by
    rw [e]; exact tupE_l _ (rdE_no e) n false
  refine acall_cw (rs := [.cell 2 61, .tmp 3]) Tryz.checked.mixed Tryz.func29 Tryz.ntmps29 rfl rfl rfl rfl rfl ?_
  simp -implicitDefEqProofs (disch := omega) only [go_sem]
  refine call_w (implValidX_ok x (by omega)) ?_
  simp -implicitDefEqProofs (disch := omega) only [go_sem]
  with_reducible refine split2 (fun hb => ?_) (fun hb => ?_) <;> have h := hb <;> (try simp only [wf_preprocess] at h) <;> simp -implicitDefEqProofs (disch := omega) only [go_sem, hb] <;> (repeat (with_reducible refine And.intro ?_ ?_; focus first | omega | rfl | assumption | exact ⟨_, rfl, rfl⟩ | (simp; omega) | (simp; done)))
  · exact leafN (dec_false fun e => by rw [e.1] at h; cases h)
  have hv := h
  have hvx := validX_sz hv
  have hfo : formX x = true := by unfold validX at hv; rw [Bool.and_eq_true] at hv; exact hv.1
  refine call_w (implDecE_lab x n hfo (by omega)) ?_
  simp -implicitDefEqProofs (disch := omega) only [go_sem]
  refine call_l (implValidExpr_ok (decE true x) (by omega)) (.cons (vl_less _ n) .nil) ?_
  simp -implicitDefEqProofs (disch := omega) only [go_sem]
  with_reducible refine split2 (fun hb => ?_) (fun hb => ?_) <;> have h := hb <;> (try simp only [wf_preprocess] at h) <;> simp -implicitDefEqProofs (disch := omega) only [go_sem, hb] <;> (repeat (with_reducible refine And.intro ?_ ?_; focus first | omega | rfl | assumption | exact ⟨_, rfl, rfl⟩ | (simp; omega) | (simp; done)))
  · exact leafN (dec_false fun e => by rw [e.2.1] at h; cases h)
  have he := h
  have hz := sxE_le (decE true x) (validExpr_ok he)
  (repeat (with_reducible refine And.intro ?_ ?_; focus first | omega | rfl | assumption | exact ⟨_, rfl, rfl⟩ | (simp; omega) | (simp; done)))
  refine call_l (PCall.less (implEx_lab (decE true x) 0 (validExpr_ok he) (by omega)) (less_lx (sxE (decE true x)) 0)) (.cons (vl_less _ n) .nil) ?_
  simp -implicitDefEqProofs (disch := omega) only [go_sem]
  refine call_w (implEqualSExpr_ok (sxE (decE true x)) x (by omega)) ?_
  simp -implicitDefEqProofs (disch := omega) only [go_sem]
  with_reducible refine split2 (fun hb => ?_) (fun hb => ?_) <;> have h := hb <;> (try simp only [wf_preprocess] at h) <;> simp -implicitDefEqProofs (disch := omega) only [go_sem, hb] <;> (repeat (with_reducible refine And.intro ?_ ?_; focus first | omega | rfl | assumption | exact ⟨_, rfl, rfl⟩ | (simp; omega) | (simp; done)))
  · exact leafN (dec_false fun e => h e.2.2)
  · have hy : okE x = true := dec_true ⟨hv, he, h⟩
    rw [rdE_yes hy, hy]
    exact less_refl _
theorem implDecExpr_labR (x : MSExpr) (n : Nat) (hsz : x.sz ≤ 1048576) : PCall Tryz.prog 29 [x.v] (.tup [(true, (labR (rdE x).enc n).map .d), (false, [.d (.b (okE x))])]) := by
  rw [labEx_eq]; exact implDecExpr_lab x n hsz
end Go.Proofs.YtlmhknhlmicmeaaGreatDoor

namespace Go.Proofs.YtlmhknhlmicmeaaGreatDoor
open Go Go.Ab
end Go.Proofs.YtlmhknhlmicmeaaGreatDoor

namespace Go.Proofs.YtlmhknhlmicmeaaGreatDoor
open Go Go.Ab
end Go.Proofs.YtlmhknhlmicmeaaGreatDoor

namespace Go.Proofs.YtlmhknhlmicmeaaGreatDoor
open Go Go.Ab
end Go.Proofs.YtlmhknhlmicmeaaGreatDoor

namespace Go.Proofs.YtlmhknhlmicmeaaGreatDoor
open Go Go.Ab
end Go.Proofs.YtlmhknhlmicmeaaGreatDoor

namespace Go.Proofs.YtlmhknhlmicmeaaGreatDoor
open Go Go.Ab
end Go.Proofs.YtlmhknhlmicmeaaGreatDoor

namespace Go.Proofs.YtlmhknhlmicmeaaGreatDoor
open Go Go.Ab
end Go.Proofs.YtlmhknhlmicmeaaGreatDoor

namespace Go.Proofs.YtlmhknhlmicmeaaGreatDoor
open Go Go.Ab
theorem toSExpr_labs : ∀ N : Nat, (∀ x : MSExpr, SizeOf.sizeOf x < N → ∀ n : Nat, x.sz ≤ 1048576 → PCall Tryz.prog 28 [x.v] (.agg ((labR x.enc n).map .d))) ∧
    (∀ xs : List MSExpr, SizeOf.sizeOf xs < N → ∀ n : Nat, xs.length + szRows (xs.map MSExpr.enc) ≤ 1048576 → PCall Tryz.prog 109 [.c (.d (.sl (xs.map MSExpr.enc)))] (.c (.d (labD (.sl (xs.map MSExpr.enc)) n))))
  | 0 => ⟨fun x h => by omega, fun x h => by omega⟩
  | N + 1 => by
    obtain ⟨ihSExpr, ihSSExpr⟩ := toSExpr_labs N
    refine ⟨fun x hn n hsz => ?_, fun xs hn n hsz => ?_⟩
    · intro S
      have lList := MSExpr.lt_List x
      simp only [MSExpr.sz, MSExpr.enc_eq, szRow, szRow_append, D.sz, List.length_map] at hsz
      refine acall_cw (rs := [.cell 2 32]) Tryz.checked.mixed Tryz.func28 Tryz.ntmps28 rfl rfl rfl rfl rfl ?_
      simp only [MSExpr.enc_eq, encS, encI, List.cons_append, List.nil_append, labR, labD, cntR, cntD, List.map_cons, List.map_nil, Nat.add_zero]
      simp -implicitDefEqProofs (disch := omega) only [go_sem]
      refine call_w (ihSSExpr x.fList (by omega) (n) (by omega)) ?_
      simp -implicitDefEqProofs (disch := omega) only [go_sem, labD]
      all_goals (first | rfl | (simp only [Nat.add_assoc]; done))
    · obtain ⟨T, hT⟩ : ∃ T, T = labRs (xs.map MSExpr.enc) (n + 1) := ⟨_, rfl⟩
      have hTl : T.length = xs.length := by rw [hT, labRs_length, List.length_map]
      show PCall Tryz.prog 109 [.c (.d (.sl (xs.map MSExpr.enc)))] (.c (.d (.ol n (labRs (xs.map MSExpr.enc) (n + 1))))) 
      rw [← hT]
      intro S
      refine acall_cwL (n) (rs := [.tmp 2]) Tryz.checked.mixed Tryz.func109 Tryz.ntmps109 rfl rfl rfl rfl rfl ?_
      simp -implicitDefEqProofs (disch := omega) only [go_sem]
      (repeat (with_reducible refine And.intro ?_ ?_; focus first | omega | rfl | assumption | exact ⟨_, rfl, rfl⟩ | (simp; omega) | (simp; done)))
      refine loop_at (ι := Nat × List (List D)) Tryz.checked.mixed rfl [0, 3, 4] (fun y => [.c (.d (.sl (xs.map MSExpr.enc))), .c (.msl (0, 1)), .c (.d (.i .i64 y.1))]) (fun y => [.seed n, .mrow 2 y.2] :: S)
        (fun y => y.1 ≤ xs.length ∧ Filled 2 y.1 y.2 T) (fun y => xs.length - y.1) (0, _) rfl rfl ⟨Nat.zero_le _, Filled.start (by simp [hTl]) rfl⟩ ?_
      rintro ⟨i, R⟩ ⟨p1, p2⟩
      simp only at p1 p2
      simp -implicitDefEqProofs (disch := omega) only [go_sem]
      with_reducible refine split2 (fun hb => ?_) (fun hb => ?_) <;> have h := hb <;> (try simp only [wf_preprocess] at h) <;> simp -implicitDefEqProofs (disch := omega) only [go_sem, hb] <;> (repeat (with_reducible refine And.intro ?_ ?_; focus first | omega | rfl | assumption | exact ⟨_, rfl, rfl⟩ | (simp; omega) | (simp; done)))
      · have hi : i < xs.length := by omega
        have hir : i < (xs.map MSExpr.enc).length := by rw [List.length_map]; exact hi
        have hR := p2.1
        rw [hTl] at hR
        have hTi : T[i]? = some (labR (MSExpr.enc xs[i]) (n + 1 + cntRs ((xs.map MSExpr.enc).take i))) := by
          rw [hT, labRs_at hir, List.getElem_map]
        have hx : xs[i].sz ≤ szRows (xs.map MSExpr.enc) := szRows_mem (List.mem_map_of_mem (List.getElem_mem hi))
        (repeat (with_reducible refine And.intro ?_ ?_; focus first | omega | rfl | assumption | exact ⟨_, rfl, rfl⟩ | (simp; omega) | (simp; done)))
        refine call_w (ihSExpr xs[i] (by have := List.sizeOf_lt_of_mem (List.getElem_mem hi); omega) (n + 1 + cntRs ((xs.map MSExpr.enc).take i)) (by omega)) ?_
        obtain ⟨row, hrow⟩ : ∃ row, row = labR (MSExpr.enc xs[i]) (n + 1 + cntRs ((xs.map MSExpr.enc).take i)) := ⟨_, rfl⟩
        have hrl : row.length = 2 := by rw [hrow, labR_length, MSExpr.enc_length]
        rw [← hrow] at hTi ⊢
        simp -implicitDefEqProofs (disch := omega) only [go_sem, hrl, mapM_toD]
        (repeat (with_reducible refine And.intro ?_ ?_; focus first | omega | rfl | assumption | exact ⟨_, rfl, rfl⟩ | (simp; omega) | (simp; done)))
        refine inv_at (i + 1, _) (by simp only; omega) rfl rfl ⟨by simp only; omega, p2.step hTi hrl⟩
      · have hi : i = xs.length := by omega
        rw [p2.done (by omega)]
theorem toSExpr_lab (x : MSExpr) : ∀ n : Nat, x.sz ≤ 1048576 → PCall Tryz.prog 28 [x.v] (.agg ((labR x.enc n).map .d)) := (toSExpr_labs _).1 x (Nat.lt_succ_self _)
end Go.Proofs.YtlmhknhlmicmeaaGreatDoor

namespace Go.Proofs.YtlmhknhlmicmeaaGreatDoor
open Go Go.Ab
theorem markStringS_ok (xs : List (List UInt8)) : ∀ (k : Int) (l j r : Nat) (p : List (Nat × Nat)) (S : Store) (rs : List (List (List D))), getO S (l, j) = some (.xf rs) → atR rs r p = some (xs.map encS) → 0 ≤ k ∧ k + mcRs (xs.map encS) ≤ 4611686018427387904 → ACall Tryz.prog 82 [.c (.xp (l, j) r p), .c (.d (.i .i64 k))] S (fun res S' => res = .c (.d (.i .i64 (k + mcRs (xs.map encS)))) ∧ S' = setO S (l, j) (.xf (updR rs r p (mkRs (xs.map encS) k)))) := by
  intro k l j r p S rs hS hp hk
  have hlen := len_mc (f := encS) (fun x => by simp only [encS, List.cons_append, List.nil_append, mcR, mcD]; omega) xs
  obtain ⟨rows, hr⟩ : ∃ rows, rows = xs.map encS := ⟨_, rfl⟩
  have hl : rows.length = xs.length := by rw [hr, List.length_map]
  rw [← hr] at hp hk hlen ⊢
  have ht : ∀ x : Ab.Obj, getO (setO S (l, j) x) (l, j) = some x := fun x => getO_setO_eq _ _ _ _ hS
  have hA : ∀ new, atR (updR rs r p new) r p = some new := fun new => atR_updR hp
  have hU : ∀ a b, updR (updR rs r p a) r p b = updR rs r p b := fun a b => updR_updR hp
  refine acall_cw (rs := [.tmp 4]) Tryz.checked.mixed Tryz.func82 Tryz.ntmps82 rfl rfl rfl rfl rfl ?_
  simp -implicitDefEqProofs (disch := omega) only [go_sem]
  refine loop_at (ι := Nat) Tryz.checked.mixed rfl [0, 1, 5] (fun i => [.c (.xp (1 + l, j) r p), .c (.d (.i .i64 (k + mcRs (rows.take i)))), .c (.d (.i .i64 i))])
    (fun i => [] :: setO S (l, j) (.xf (updR rs r p (mkTo rows k i)))) (fun i => i ≤ xs.length) (fun i => xs.length - i) 0 ?_ ?_ (Nat.zero_le _) ?_
  · have z0 : k + ((mcRs (rows.take 0) : Nat) : Int) = k := by simp [mcRs]
    rw [z0]
    rfl
  · rw [mkTo_zero, updR_same hp, setO_self _ _ hS]
  intro i hi
  simp -implicitDefEqProofs (disch := omega) only [go_sem, ht, hA, mkTo_length, hl]
  with_reducible refine split2 (fun hb => ?_) (fun hb => ?_) <;> have h := hb <;> try simp only [wf_preprocess] at h
  · have hi : i < xs.length := by omega
    have hir : i < rows.length := by omega
    obtain ⟨x, hx⟩ : ∃ x, x = xs[i] := ⟨_, rfl⟩
    have e1 : rows[i] = [.s x] := by
      simp only [hr, List.getElem_map, ← hx]
      simp only [encS, List.cons_append, List.nil_append]
    have hm := mcRs_take hir
    have hle := mcRs_le (rows := rows) (i := i + 1)
    rw [hm, e1] at hle
    rw [e1] at hm
    simp only [mcR, mcD] at hle hm
    have hK : k + ((mcRs (rows.take (i + 1)) : Nat) : Int) = k + ((mcRs (rows.take i) : Nat) : Int) + 1 := by rw [hm]; omega
    have e2 := mkTo_at (k := k) hir
    rw [e1] at e2
    have hC : ∀ row o, cellAt (mkAt rows k i row) i o = row[o]? := fun row o => mkAt_cell hir
    have hG : ∀ row, (mkAt rows k i row).getD i [] = row := fun row => mkAt_get hir
    simp -implicitDefEqProofs (disch := omega) only [go_sem, hb, ht, hA, hU, e2, hC, hG, mkAt_set, mkAt_length, hl, setO_twice, isSD]
    (repeat (with_reducible refine And.intro ?_ ?_; focus first | omega | rfl | assumption | exact ⟨_, rfl, rfl⟩ | (simp; omega) | (simp; done)))
    refine call_w (markText_ok (k + ((mcRs (rows.take i) : Nat) : Int)) (by omega)) ?_
    simp -implicitDefEqProofs (disch := omega) only [go_sem, hb, ht, hA, hU, e2, hC, hG, mkAt_set, mkAt_length, hl, setO_twice, isSD]
    (repeat (with_reducible refine And.intro ?_ ?_; focus first | omega | rfl | assumption | exact ⟨_, rfl, rfl⟩ | (simp; omega) | (simp; done)))
    refine inv_at (i + 1) (by omega) (by rw [hK]; rfl) ?_ (by omega)
    have h3 := mkAt_to (k := k) hir
    rw [e1] at h3
    simp only [mkR, mkD] at h3
    rw [← h3]
    all_goals rfl
  · simp -implicitDefEqProofs (disch := omega) only [go_sem, hb]
    have hi : i = xs.length := by omega
    rw [mkTo_all (by omega), List.take_of_length_le (by omega)]
    all_goals (first | rfl | exact ⟨rfl, rfl⟩)
theorem heldStringS_ok (xs : List (List UInt8)) : ∀ (k : Int) (l j r : Nat) (p : List (Nat × Nat)) (S : Store) (rs : List (List (List D))), getO S (l, j) = some (.xf rs) → atR rs r p = some (mkRs (xs.map encS) k) → 0 ≤ k ∧ k + mcRs (xs.map encS) ≤ 4611686018427387904 → ACall Tryz.prog 132 [.c (.xp (l, j) r p), .c (.d (.i .i64 k))] S (fun res S' => res = .c (.d (.i .i64 (k + mcRs (xs.map encS)))) ∧ S' = S) := by
  intro k l j r p S rs hS hp hk
  have hlen := len_mc (f := encS) (fun x => by simp only [encS, List.cons_append, List.nil_append, mcR, mcD]; omega) xs
  obtain ⟨rows, hr⟩ : ∃ rows, rows = xs.map encS := ⟨_, rfl⟩
  have hl : rows.length = xs.length := by rw [hr, List.length_map]
  rw [← hr] at hp hk hlen ⊢
  refine acall_cw (rs := [.tmp 4]) Tryz.checked.mixed Tryz.func132 Tryz.ntmps132 rfl rfl rfl rfl rfl ?_
  simp -implicitDefEqProofs (disch := omega) only [go_sem]
  refine loop_at (ι := Nat) Tryz.checked.mixed rfl [0, 1, 5] (fun i => [.c (.xp (1 + l, j) r p), .c (.d (.i .i64 (k + mcRs (rows.take i)))), .c (.d (.i .i64 i))])
    (fun i => [] :: S) (fun i => i ≤ xs.length) (fun i => xs.length - i) 0 ?_ rfl (Nat.zero_le _) ?_
  · have z0 : k + ((mcRs (rows.take 0) : Nat) : Int) = k := by simp [mcRs]
    rw [z0]
    rfl
  intro i hi
  simp -implicitDefEqProofs (disch := omega) only [go_sem, hS, hp, mkRs_length, hl]
  with_reducible refine split2 (fun hb => ?_) (fun hb => ?_) <;> have h := hb <;> try simp only [wf_preprocess] at h
  · have hi : i < xs.length := by omega
    have hir : i < rows.length := by omega
    obtain ⟨x, hx⟩ : ∃ x, x = xs[i] := ⟨_, rfl⟩
    have e1 : rows[i] = [.s x] := by
      simp only [hr, List.getElem_map, ← hx]
      simp only [encS, List.cons_append, List.nil_append]
    have hm := mcRs_take hir
    have hle := mcRs_le (rows := rows) (i := i + 1)
    rw [hm, e1] at hle
    rw [e1] at hm
    simp only [mcR, mcD] at hle hm
    have hK : k + ((mcRs (rows.take (i + 1)) : Nat) : Int) = k + ((mcRs (rows.take i) : Nat) : Int) + 1 := by rw [hm]; omega
    have e2 : mkR rows[i] (k + ((mcRs (rows.take i) : Nat) : Int)) = [.s (mtext (k + ((mcRs (rows.take i) : Nat) : Int)))] := by
      rw [e1]
      simp only [mkR, mkD]
      all_goals rfl
    have hC : ∀ o, cellAt (mkRs rows k) i o = ([.s (mtext (k + ((mcRs (rows.take i) : Nat) : Int)))] : List D)[o]? := fun o => by
      have h1 : (mkRs rows k)[i]? = some (mkR rows[i] (k + ((mcRs (rows.take i) : Nat) : Int))) := by
        have h2 := mkRs_get (k := k) hir
        have h3 : i < (mkRs rows k).length := by rw [mkRs_length]; exact hir
        rw [List.getD_eq_getElem?_getD, List.getElem?_eq_getElem h3, Option.getD_some] at h2
        rw [List.getElem?_eq_getElem h3, h2]
      unfold cellAt
      rw [h1, Option.bind_some, e2]
    have hG := mkRs_get (k := k) hir
    rw [e2] at hG
    simp -implicitDefEqProofs (disch := omega) only [go_sem, hb, hS, hp, hC, hG, mkRs_length, hl, isSD]
    (repeat (with_reducible refine And.intro ?_ ?_; focus first | omega | rfl | assumption | exact ⟨_, rfl, rfl⟩ | (simp; omega) | (simp; done)))
    refine call_w (markText_ok (k + ((mcRs (rows.take i) : Nat) : Int)) (by omega)) ?_
    simp -implicitDefEqProofs (disch := omega) only [go_sem, hb, hS, hp, hC, hG, mkRs_length, hl, isSD]
    (repeat (with_reducible refine And.intro ?_ ?_; focus first | omega | rfl | assumption | exact ⟨_, rfl, rfl⟩ | (simp; omega) | (simp; done)))
    refine inv_at (i + 1) (by omega) (by rw [hK]; rfl) rfl (by omega)
  · simp -implicitDefEqProofs (disch := omega) only [go_sem, hb]
    have hi : i = xs.length := by omega
    rw [List.take_of_length_le (by omega)]
    all_goals (first | rfl | exact ⟨rfl, rfl⟩)
end Go.Proofs.YtlmhknhlmicmeaaGreatDoor

namespace Go.Proofs.YtlmhknhlmicmeaaGreatDoor
open Go Go.Ab
end Go.Proofs.YtlmhknhlmicmeaaGreatDoor

namespace Go.Proofs.YtlmhknhlmicmeaaGreatDoor
open Go Go.Ab
theorem markType_all : ∀ n : Nat, (∀ xs : List MType, SizeOf.sizeOf xs < n → ∀ (k : Int) (l j r : Nat) (p : List (Nat × Nat)) (S : Store) (rs : List (List (List D))), getO S (l, j) = some (.xf rs) → atR rs r p = some (xs.map MType.enc) → 0 ≤ k ∧ k + mcRs (xs.map MType.enc) ≤ 4611686018427387904 → ACall Tryz.prog 183 [.c (.xp (l, j) r p), .c (.d (.i .i64 k))] S (fun res S' => res = .c (.d (.i .i64 (k + mcRs (xs.map MType.enc)))) ∧ S' = setO S (l, j) (.xf (updR rs r p (mkRs (xs.map MType.enc) k)))))
  | 0 => fun xs h => by omega
  | n + 1 => by
    have ihType := markType_all n
    refine fun xs hn k l j r p S rs hS hp hk => ?_
    · have hlen := len_mc (f := MType.enc) (fun x => by simp only [MType.enc_eq, encS, encI, List.cons_append, List.nil_append, mcR, mcD]; omega) xs
      obtain ⟨rows, hr⟩ : ∃ rows, rows = xs.map MType.enc := ⟨_, rfl⟩
      have hl : rows.length = xs.length := by rw [hr, List.length_map]
      rw [← hr] at hp hk hlen ⊢
      have ht : ∀ x : Ab.Obj, getO (setO S (l, j) x) (l, j) = some x := fun x => getO_setO_eq _ _ _ _ hS
      have hA : ∀ new, atR (updR rs r p new) r p = some new := fun new => atR_updR hp
      have hU : ∀ a b, updR (updR rs r p a) r p b = updR rs r p b := fun a b => updR_updR hp
      refine acall_cw (rs := [.tmp 4]) Tryz.checked.mixed Tryz.func183 Tryz.ntmps183 rfl rfl rfl rfl rfl ?_
      simp -implicitDefEqProofs (disch := omega) only [go_sem]
      refine loop_at (ι := Nat) Tryz.checked.mixed rfl [0, 1, 5] (fun i => [.c (.xp (1 + l, j) r p), .c (.d (.i .i64 (k + mcRs (rows.take i)))), .c (.d (.i .i64 i))])
        (fun i => [] :: setO S (l, j) (.xf (updR rs r p (mkTo rows k i)))) (fun i => i ≤ xs.length) (fun i => xs.length - i) 0 ?_ ?_ (Nat.zero_le _) ?_
      · have z0 : k + ((mcRs (rows.take 0) : Nat) : Int) = k := by simp [mcRs]
        rw [z0]
        rfl
      · rw [mkTo_zero, updR_same hp, setO_self _ _ hS]
      intro i hi
      simp -implicitDefEqProofs (disch := omega) only [go_sem, ht, hA, mkTo_length, hl]
      with_reducible refine split2 (fun hb => ?_) (fun hb => ?_) <;> have h := hb <;> try simp only [wf_preprocess] at h
      · have hi : i < xs.length := by omega
        have hir : i < rows.length := by omega
        obtain ⟨x, hx⟩ : ∃ x, x = xs[i] := ⟨_, rfl⟩
        have e1 : rows[i] = [.i .i64 x.fKind, .s x.fName, .sl (x.fArgs.map MType.enc)] := by
          simp only [hr, List.getElem_map, ← hx]
          simp only [MType.enc_eq, encS, encI, List.cons_append, List.nil_append]
        have hm := mcRs_take hir
        have hle := mcRs_le (rows := rows) (i := i + 1)
        rw [hm, e1] at hle
        rw [e1] at hm
        simp only [mcR, mcD] at hle hm
        have hK : k + ((mcRs (rows.take (i + 1)) : Nat) : Int) = k + ((mcRs (rows.take i) : Nat) : Int) + 1 + 1 + ((mcRs (x.fArgs.map MType.enc) : Nat) : Int) := by rw [hm]; omega
        have e2 := mkTo_at (k := k) hir
        rw [e1] at e2
        have hC : ∀ row o, cellAt (mkAt rows k i row) i o = row[o]? := fun row o => mkAt_cell hir
        have hG : ∀ row, (mkAt rows k i row).getD i [] = row := fun row => mkAt_get hir
        simp -implicitDefEqProofs (disch := omega) only [go_sem, hb, ht, hA, hU, e2, hC, hG, mkAt_set, mkAt_length, hl, setO_twice, isSD]
        (repeat (with_reducible refine And.intro ?_ ?_; focus first | omega | rfl | assumption | exact ⟨_, rfl, rfl⟩ | (simp; omega) | (simp; done)))
        refine call_w (markText_ok (k + ((mcRs (rows.take i) : Nat) : Int) + 1) (by omega)) ?_
        simp -implicitDefEqProofs (disch := omega) only [go_sem, hb, ht, hA, hU, e2, hC, hG, mkAt_set, mkAt_length, hl, setO_twice, isSD]
        (repeat (with_reducible refine And.intro ?_ ?_; focus first | omega | rfl | assumption | exact ⟨_, rfl, rfl⟩ | (simp; omega) | (simp; done)))
        refine call_d rfl (sub_mk hS hp hir (by rfl) (fun S' rs' g1 g2 => ihType x.fArgs (by have := List.sizeOf_lt_of_mem (List.getElem_mem hi); rw [← hx] at this; have := MType.lt_Args x; omega) (k + ((mcRs (rows.take i) : Nat) : Int) + 1 + 1) (1 + l) j r _ S' rs' g1 g2 (by omega))) ?_
        simp -implicitDefEqProofs (disch := omega) only [go_sem, hb, ht, hA, hU, e2, hC, hG, mkAt_set, mkAt_length, hl, setO_twice, isSD]
        (repeat (with_reducible refine And.intro ?_ ?_; focus first | omega | rfl | assumption | exact ⟨_, rfl, rfl⟩ | (simp; omega) | (simp; done)))
        refine inv_at (i + 1) (by omega) (by rw [hK]; rfl) ?_ (by omega)
        have h3 := mkAt_to (k := k) hir
        rw [e1] at h3
        simp only [mkR, mkD] at h3
        rw [← h3]
        all_goals rfl
      · simp -implicitDefEqProofs (disch := omega) only [go_sem, hb]
        have hi : i = xs.length := by omega
        rw [mkTo_all (by omega), List.take_of_length_le (by omega)]
        all_goals (first | rfl | exact ⟨rfl, rfl⟩)
theorem markTypeS_ok (xs : List MType) : ∀ (k : Int) (l j r : Nat) (p : List (Nat × Nat)) (S : Store) (rs : List (List (List D))), getO S (l, j) = some (.xf rs) → atR rs r p = some (xs.map MType.enc) → 0 ≤ k ∧ k + mcRs (xs.map MType.enc) ≤ 4611686018427387904 → ACall Tryz.prog 183 [.c (.xp (l, j) r p), .c (.d (.i .i64 k))] S (fun res S' => res = .c (.d (.i .i64 (k + mcRs (xs.map MType.enc)))) ∧ S' = setO S (l, j) (.xf (updR rs r p (mkRs (xs.map MType.enc) k)))) := (markType_all _) xs (Nat.lt_succ_self _)
theorem markType_ok (x : MType) (k : Int) (l j b : Nat) (S : Store) (rs : List (List (List D))) (hS : getO S (l, j) = some (.xf rs)) (h2 : atR rs (b + 2) [] = some (x.fArgs.map MType.enc)) (hk : 0 ≤ k ∧ k + ((mcRs (x.fArgs.map MType.enc) : Nat) : Int) ≤ 4611686018427387904) : ACall Tryz.prog 113 [.agg [.d (.i .i64 x.fKind), .d (.s x.fName), .xp (l, j) (b + 2) []], .c (.d (.i .i64 k))] S (fun res S' => res = .c (.d (.i .i64 (k + ((mcRs (x.fArgs.map MType.enc) : Nat) : Int)))) ∧ S' = setO S (l, j) (.xf (updR (rs) (b + 2) [] (mkRs (x.fArgs.map MType.enc) (k))))) := by
  have ht : ∀ x : Ab.Obj, getO (setO S (l, j) x) (l, j) = some x := fun x => getO_setO_eq _ _ _ _ hS
  refine acall_cw (rs := [.tmp 4]) Tryz.checked.mixed Tryz.func113 Tryz.ntmps113 rfl rfl rfl rfl rfl ?_
  simp -implicitDefEqProofs (disch := omega) only [go_sem]
  refine call_d rfl (markTypeS_ok x.fArgs (k) (1 + l) j (b + 2) [] _ _ (by rw [getO_up1]; first | exact hS | exact ht _) (by first | assumption | (simp (disch := omega) only [ne_eq, atR_ne]; assumption)) (by omega)) ?_
  simp -implicitDefEqProofs (disch := omega) only [go_sem, setO_twice, setO_up1]
  try exact ⟨rfl, rfl⟩
theorem heldType_all : ∀ n : Nat, (∀ xs : List MType, SizeOf.sizeOf xs < n → ∀ (k : Int) (l j r : Nat) (p : List (Nat × Nat)) (S : Store) (rs : List (List (List D))), getO S (l, j) = some (.xf rs) → atR rs r p = some (mkRs (xs.map MType.enc) k) → 0 ≤ k ∧ k + mcRs (xs.map MType.enc) ≤ 4611686018427387904 → ACall Tryz.prog 214 [.c (.xp (l, j) r p), .c (.d (.i .i64 k))] S (fun res S' => res = .c (.d (.i .i64 (k + mcRs (xs.map MType.enc)))) ∧ S' = S))
  | 0 => fun xs h => by omega
  | n + 1 => by
    have ihType := heldType_all n
    refine fun xs hn k l j r p S rs hS hp hk => ?_
    · have hlen := len_mc (f := MType.enc) (fun x => by simp only [MType.enc_eq, encS, encI, List.cons_append, List.nil_append, mcR, mcD]; omega) xs
      obtain ⟨rows, hr⟩ : ∃ rows, rows = xs.map MType.enc := ⟨_, rfl⟩
      have hl : rows.length = xs.length := by rw [hr, List.length_map]
      rw [← hr] at hp hk hlen ⊢
      refine acall_cw (rs := [.tmp 4]) Tryz.checked.mixed Tryz.func214 Tryz.ntmps214 rfl rfl rfl rfl rfl ?_
      simp -implicitDefEqProofs (disch := omega) only [go_sem]
      refine loop_at (ι := Nat) Tryz.checked.mixed rfl [0, 1, 5] (fun i => [.c (.xp (1 + l, j) r p), .c (.d (.i .i64 (k + mcRs (rows.take i)))), .c (.d (.i .i64 i))])
        (fun i => [] :: S) (fun i => i ≤ xs.length) (fun i => xs.length - i) 0 ?_ rfl (Nat.zero_le _) ?_
      · have z0 : k + ((mcRs (rows.take 0) : Nat) : Int) = k := by simp [mcRs]
        rw [z0]
        rfl
      intro i hi
      simp -implicitDefEqProofs (disch := omega) only [go_sem, hS, hp, mkRs_length, hl]
      with_reducible refine split2 (fun hb => ?_) (fun hb => ?_) <;> have h := hb <;> try simp only [wf_preprocess] at h
      · have hi : i < xs.length := by omega
        have hir : i < rows.length := by omega
        obtain ⟨x, hx⟩ : ∃ x, x = xs[i] := ⟨_, rfl⟩
        have e1 : rows[i] = [.i .i64 x.fKind, .s x.fName, .sl (x.fArgs.map MType.enc)] := by
          simp only [hr, List.getElem_map, ← hx]
          simp only [MType.enc_eq, encS, encI, List.cons_append, List.nil_append]
        have hm := mcRs_take hir
        have hle := mcRs_le (rows := rows) (i := i + 1)
        rw [hm, e1] at hle
        rw [e1] at hm
        simp only [mcR, mcD] at hle hm
        have hK : k + ((mcRs (rows.take (i + 1)) : Nat) : Int) = k + ((mcRs (rows.take i) : Nat) : Int) + 1 + 1 + ((mcRs (x.fArgs.map MType.enc) : Nat) : Int) := by rw [hm]; omega
        have e2 : mkR rows[i] (k + ((mcRs (rows.take i) : Nat) : Int)) = [.i .i64 (k + ((mcRs (rows.take i) : Nat) : Int)), .s (mtext (k + ((mcRs (rows.take i) : Nat) : Int) + 1)), .sl (mkRs (x.fArgs.map MType.enc) (k + ((mcRs (rows.take i) : Nat) : Int) + 1 + 1))] := by
          rw [e1]
          simp only [mkR, mkD]
          all_goals rfl
        have hC : ∀ o, cellAt (mkRs rows k) i o = ([.i .i64 (k + ((mcRs (rows.take i) : Nat) : Int)), .s (mtext (k + ((mcRs (rows.take i) : Nat) : Int) + 1)), .sl (mkRs (x.fArgs.map MType.enc) (k + ((mcRs (rows.take i) : Nat) : Int) + 1 + 1))] : List D)[o]? := fun o => by
          have h1 : (mkRs rows k)[i]? = some (mkR rows[i] (k + ((mcRs (rows.take i) : Nat) : Int))) := by
            have h2 := mkRs_get (k := k) hir
            have h3 : i < (mkRs rows k).length := by rw [mkRs_length]; exact hir
            rw [List.getD_eq_getElem?_getD, List.getElem?_eq_getElem h3, Option.getD_some] at h2
            rw [List.getElem?_eq_getElem h3, h2]
          unfold cellAt
          rw [h1, Option.bind_some, e2]
        have hG := mkRs_get (k := k) hir
        rw [e2] at hG
        simp -implicitDefEqProofs (disch := omega) only [go_sem, hb, hS, hp, hC, hG, mkRs_length, hl, isSD]
        (repeat (with_reducible refine And.intro ?_ ?_; focus first | omega | rfl | assumption | exact ⟨_, rfl, rfl⟩ | (simp; omega) | (simp; done)))
        refine call_w (markText_ok (k + ((mcRs (rows.take i) : Nat) : Int) + 1) (by omega)) ?_
        simp -implicitDefEqProofs (disch := omega) only [go_sem, hb, hS, hp, hC, hG, mkRs_length, hl, isSD]
        (repeat (with_reducible refine And.intro ?_ ?_; focus first | omega | rfl | assumption | exact ⟨_, rfl, rfl⟩ | (simp; omega) | (simp; done)))
        refine call_d rfl (ihType x.fArgs (by have := List.sizeOf_lt_of_mem (List.getElem_mem hi); rw [← hx] at this; have := MType.lt_Args x; omega) (k + ((mcRs (rows.take i) : Nat) : Int) + 1 + 1) (1 + l) j r _ _ _ (by rw [getO_up1]; exact hS) (atR_snoc hp (by rw [hC]; rfl)) (by omega)) ?_
        simp -implicitDefEqProofs (disch := omega) only [go_sem, hb, hS, hp, hC, hG, mkRs_length, hl, isSD, dec_neg]
        (repeat (with_reducible refine And.intro ?_ ?_; focus first | omega | rfl | assumption | exact ⟨_, rfl, rfl⟩ | (simp; omega) | (simp; done)))
        refine inv_at (i + 1) (by omega) (by rw [hK]; rfl) rfl (by omega)
      · simp -implicitDefEqProofs (disch := omega) only [go_sem, hb]
        have hi : i = xs.length := by omega
        rw [List.take_of_length_le (by omega)]
        all_goals (first | rfl | exact ⟨rfl, rfl⟩)
theorem heldTypeS_ok (xs : List MType) : ∀ (k : Int) (l j r : Nat) (p : List (Nat × Nat)) (S : Store) (rs : List (List (List D))), getO S (l, j) = some (.xf rs) → atR rs r p = some (mkRs (xs.map MType.enc) k) → 0 ≤ k ∧ k + mcRs (xs.map MType.enc) ≤ 4611686018427387904 → ACall Tryz.prog 214 [.c (.xp (l, j) r p), .c (.d (.i .i64 k))] S (fun res S' => res = .c (.d (.i .i64 (k + mcRs (xs.map MType.enc)))) ∧ S' = S) := (heldType_all _) xs (Nat.lt_succ_self _)
theorem heldType_ok (x : MType) (k : Int) (l j b : Nat) (S : Store) (rs : List (List (List D))) (hS : getO S (l, j) = some (.xf rs)) (h2 : atR rs (b + 2) [] = some (mkRs (x.fArgs.map MType.enc) (k))) (hk : 0 ≤ k ∧ k + ((mcRs (x.fArgs.map MType.enc) : Nat) : Int) ≤ 4611686018427387904) : ACall Tryz.prog 116 [.agg [.d (.i .i64 x.fKind), .d (.s x.fName), .xp (l, j) (b + 2) []], .c (.d (.i .i64 k))] S (fun res S' => res = .c (.d (.i .i64 (k + ((mcRs (x.fArgs.map MType.enc) : Nat) : Int)))) ∧ S' = S) := by
  refine acall_cw (rs := [.tmp 4]) Tryz.checked.mixed Tryz.func116 Tryz.ntmps116 rfl rfl rfl rfl rfl ?_
  simp -implicitDefEqProofs (disch := omega) only [go_sem]
  refine call_d rfl (heldTypeS_ok x.fArgs (k) (1 + l) j (b + 2) [] _ _ (by rw [getO_up1]; first | exact hS | exact ht _) (by first | assumption | (simp (disch := omega) only [ne_eq, atR_ne]; assumption)) (by omega)) ?_
  simp -implicitDefEqProofs (disch := omega) only [go_sem, dec_neg]
  try exact ⟨rfl, rfl⟩
end Go.Proofs.YtlmhknhlmicmeaaGreatDoor

namespace Go.Proofs.YtlmhknhlmicmeaaGreatDoor
open Go Go.Ab
end Go.Proofs.YtlmhknhlmicmeaaGreatDoor

namespace Go.Proofs.YtlmhknhlmicmeaaGreatDoor
open Go Go.Ab
end Go.Proofs.YtlmhknhlmicmeaaGreatDoor

