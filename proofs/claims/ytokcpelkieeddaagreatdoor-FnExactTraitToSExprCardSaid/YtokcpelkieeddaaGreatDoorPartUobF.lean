/-
  SEVERAL TEXTS IN ONE (merged by program): contracts and models, each with its own heading.
-/
import Derived.Test.YtokcpelkieeddaaGreatDoorPartUobE
import Derived.Test.YtokcpelkieeddaaGreatDoorRows
import Derived.OpenShut
import Derived.LaidMore
set_option linter.unusedSimpArgs false
set_option linter.unusedVariables false
set_option maxRecDepth 4000
set_option maxRecDepth 8000
namespace Go.Ab
def wAuto : List UInt8 := [97, 117, 116, 111]
def wTrait : List UInt8 := [116, 114, 97, 105, 116]
def flagsT (t : MTrait) : List (List UInt8) := (if t.fAuto = true then [wAuto] else []) ++ (if t.fAssoc = true then [wAssoc] else [])
def sxG (g : MSignature) : MSExpr := listX ([atomX g.fName, listX (g.fParams.map sxT), sxT g.fResult] ++ if g.fHasDefault = true then [listX (wordsX g.fVars), sxE g.fBody] else [])
theorem less_ol (n : Nat) (es : List (List D)) : Less (.c (.d (.ol n es))) (.c (.d (.sl es))) := fun w σ S β v h => ⟨rep_ol h.1, h.2⟩
def baseTr (t : MTrait) : List MSExpr := [atomX wTrait, atomX t.fName, listX (wordsX t.fSupertraits), listX (wordsX (flagsT t))]
def sxTr (t : MTrait) : MSExpr := listX (baseTr t ++ t.fSignatures.map sxG)
noncomputable def outTr (x : MTrait) : MSExpr := outX (validTrait x) (sxTr x)
theorem outTr_sz {x : MTrait} (h : x.sz ≤ 1048576) : (outTr x).sz ≤ 1048576 := Nat.le_trans (outX_sz _ _) (by decide)
theorem sxG_def {g : MSignature} (h : g.fHasDefault = true) : (sxG g).fList = [atomX g.fName, listX (g.fParams.map sxT), sxT g.fResult, listX (wordsX g.fVars), sxE g.fBody] := by rw [sxG, if_pos h]; rfl
theorem sxG_nod {g : MSignature} (h : g.fHasDefault = false) : (sxG g).fList = [atomX g.fName, listX (g.fParams.map sxT), sxT g.fResult] := by rw [sxG, if_neg (by rw [h]; decide)]; rfl
theorem sxG_atom (g : MSignature) : (sxG g).fAtom = [] := rfl
theorem sigOk_parts {g : MSignature} (h : sigOk g = true) : formeds g.fParams = true ∧ formed g.fResult = true ∧ (g.fHasDefault = true → exprOk g.fBody = true) := by
  unfold sigOk at h
  simp only [Bool.and_eq_true] at h
  obtain ⟨_, _, h1, h2, h3⟩ := h
  refine ⟨typesOver_formed h1, typeOver_formed h2, fun hd => ?_⟩
  rw [if_pos hd, Bool.and_eq_true] at h3
  exact bodyOk_ok h3.2
theorem sxG_le (g : MSignature) (hok : sigOk g = true) : (sxG g).sz ≤ 48 + 32 * g.sz := by
  obtain ⟨_, _, hb⟩ := sigOk_parts hok
  have h1 := sxT_map_le g.fParams
  have h2 := sxT_le g.fResult
  have h3 := MSignature.sum g
  rw [szRows_encS, szT_rows] at h3
  by_cases hd : g.fHasDefault = true
  · have h4 := sxE_le g.fBody (hb hd)
    rw [sxG, if_pos hd, sz_list]
    simp [szX, sz_atom, sz_list, words_len, szX_words]; omega
  · rw [sxG, if_neg hd, sz_list]
    simp [szX, sz_atom, sz_list, words_len, szX_words]; omega
theorem sxGs_le : ∀ l : List MSignature, (∀ g ∈ l, sigOk g = true) → szX (l.map sxG) ≤ 48 * l.length + 32 * szRows (l.map MSignature.enc)
  | [], _ => by simp [szX]
  | c :: l, h => by
    have h1 := sxG_le c (h c (List.mem_cons_self ..))
    have h2 := sxGs_le l fun g hg => h g (List.mem_cons_of_mem _ hg)
    rw [List.map_cons, szX, List.map_cons, szRows, List.length_cons]; simp only [MSignature.sz] at h1; omega
theorem validTrait_parts {t : MTrait} (h : validTrait t = true) : (∀ g ∈ t.fSignatures, sigOk g = true) ∧ ¬ (t.fAuto = true ∧ t.fAssoc = true) := by
  unfold validTrait at h
  simp only [Bool.and_eq_true, Bool.not_eq_true'] at h
  obtain ⟨_, _, _, _, h1, h2, _⟩ := h
  refine ⟨fun g hg => List.all_eq_true.1 h2 g hg, fun hh => ?_⟩
  rw [dec_true (show autoBad t from ⟨hh.1, .inl hh.2⟩)] at h1
  cases h1
theorem flagsT_le (t : MTrait) : (flagsT t).length ≤ 2 ∧ ((flagsT t).map List.length).sum ≤ 9 := by
  unfold flagsT; split <;> split <;> simp [wAuto, wAssoc]
theorem sxTr_le {t : MTrait} (hok : validTrait t = true) : (sxTr t).sz ≤ 64 + 49 * t.sz := by
  have h1 := sxGs_le t.fSignatures (validTrait_parts hok).1
  have h2 := flagsT_le t
  have h3 := MTrait.sum t
  rw [szRows_encS] at h3
  rw [sxTr, sz_list, szX_append, List.length_append, List.length_map]
  simp [baseTr, szX, sz_atom, sz_list, words_len, szX_words, wTrait]; omega
theorem baseTr_rows (n : Nat) (a b : List UInt8) (w v : List (List UInt8)) : lx [atomX a, atomX b, listX (wordsX w), listX (wordsX v)] (n + 1) = [[.s a, .ol (n + 1) []], [.s b, .ol (n + 1 + 1) []], [.s [], .ol (n + 1 + 1 + 1) (lx (wordsX w) (n + 1 + 1 + 1 + 1))], [.s [], .ol (n + 1 + 1 + 1 + cntX (listX (wordsX w))) (lx (wordsX v) (n + 1 + 1 + 1 + cntX (listX (wordsX w)) + 1))]] := by
  simp only [lx_cons, lx_nil, labX_eq, fAtom_atom, fList_atom, fAtom_list, fList_list, cntX_atom]
end Go.Ab
namespace Go.Proofs.YtokcpelkieeddaaGreatDoor
open Go Go.Ab
theorem implEncTr_a (t : MTrait) (n : Nat) (hv : validTrait t = true) (hsz : t.sz ≤ 1048576) (ha : t.fAuto = true) (hs : t.fAssoc = false) : PCall Tryz.prog 100 [t.v] (.agg [.d (.s []), .d (.ol n (lx (sxTr t).fList (n + 1)))]) := fun S => by
  have hdz := MTrait.sum t
  rw [szRows_encS] at hdz
  obtain ⟨hso, _⟩ := validTrait_parts hv
  have hfl : flagsT t = [wAuto] := by unfold flagsT; rw [ha, hs]; rfl
  obtain ⟨L, hL⟩ : ∃ L : Nat → Nat, L = fun i => n + 1 + cntXs (baseTr t ++ (t.fSignatures.map sxG).take i) := ⟨_, rfl⟩
  obtain ⟨T, hT⟩ : ∃ T : Nat → List (List D), T = fun i => lx (baseTr t ++ (t.fSignatures.map sxG).take i) (n + 1) := ⟨_, rfl⟩
  have hT0 : T 0 = [[.s wTrait, .ol (n + 1) []], [.s t.fName, .ol (n + 1 + 1) []], [.s [], .ol (n + 1 + 1 + 1) (lx (wordsX t.fSupertraits) (n + 1 + 1 + 1 + 1))], [.s [], .ol (n + 1 + 1 + 1 + cntX (listX (wordsX t.fSupertraits))) (lx (wordsX [wAuto]) (n + 1 + 1 + 1 + cntX (listX (wordsX t.fSupertraits)) + 1))]] := by
    rw [hT]; simp only [List.take_zero, List.append_nil, baseTr, hfl]; exact baseTr_rows _ _ _ _ _
  have hTl : ∀ i, (T i).length ≤ i + 4 := fun i => by
    rw [hT]; simp only [lx_length, List.length_append]
    have := List.length_take_le i (t.fSignatures.map sxG)
    simp [baseTr]; omega
  have hTs : ∀ i (hi : i < t.fSignatures.length), T i ++ [[.s [], .ol (L i) (lx (sxG t.fSignatures[i]).fList (L i + 1))]] = T (i + 1) := fun i hi => by
    have := lx_snocB (base := baseTr t) (l := t.fSignatures.map sxG) (i := i) (by rw [List.length_map]; exact hi) (n + 1)
    rw [List.getElem_map, sxG_atom] at this
    rw [hT, hL]; exact this
  have hTr : ∀ i, ∀ r ∈ T i, r.length = 2 := fun i => by rw [hT]; exact lx_rows
  have hTe : T t.fSignatures.length = lx (sxTr t).fList (n + 1) := by
    rw [hT]; simp only
    rw [List.take_of_length_le (by simp)]; rfl
  clear hT hL
  refine acall_cwLs (n) 1 (rs := [.cell 2 32]) Tryz.checked.mixed Tryz.func100 Tryz.ntmps100 rfl rfl rfl rfl rfl ?_
  simp -implicitDefEqProofs (disch := omega) only [go_sem, ha, hs]
  (repeat (with_reducible refine And.intro ?_ ?_; focus first | omega | rfl | assumption | exact ⟨_, rfl, rfl⟩ | (simp; omega) | (simp; done)))
  refine call_w (implAtom_lab _ (n + 1)) ?_
  simp -implicitDefEqProofs (disch := omega) only [go_sem]
  refine call_w (implAtom_lab _ (n + 1 + 1)) ?_
  simp -implicitDefEqProofs (disch := omega) only [go_sem]
  refine call_w (implNameList_lab t.fSupertraits (by omega) (n + 1 + 1 + 1)) ?_
  simp -implicitDefEqProofs (disch := omega) only [go_sem]
  refine call_l (implNameList_lab [wAuto] (by simp) (n + 1 + 1 + 1 + cntX (listX (wordsX t.fSupertraits)))) (.cons (less_ol n _) .nil) ?_
  simp -implicitDefEqProofs (disch := omega) only [go_sem]
  (repeat (with_reducible refine And.intro ?_ ?_; focus first | omega | rfl | assumption | exact ⟨_, rfl, rfl⟩ | (simp; omega) | (simp; done)))
  refine aw_ltok n 4 2 (T 0) (.inl ?_) (hTr 0) ?_
  · rw [hT0]; rfl
  refine aw_reseed (L 0) ?_
  refine loop_at (ι := Nat) Tryz.checked.mixed rfl [2, 4, 30, 31, 32] (fun i => [.c (.ptr (0, 3) 0), .c (.tsl (0, 4) (T i)), .c (.d (.sl (t.fSignatures.map MSignature.enc))), .c (.d (.i .i64 t.fSignatures.length)), .c (.d (.i .i64 i))])
    (fun i => [.seed (L i), .seed 1, .box [.d (.s t.fName), .d (.sl (t.fSupertraits.map encS)), .d (.b true), .d (.b false), .d (.sl (t.fSignatures.map MSignature.enc))], .box [.d (.s []), .fsl []], .ltok n 2 (T i)] :: S)
    (fun i => i ≤ t.fSignatures.length) (fun i => t.fSignatures.length - i) 0 rfl rfl (Nat.zero_le _) ?_
  intro i hi
  have hl := hTl i
  simp -implicitDefEqProofs (disch := omega) only [go_sem]
  with_reducible refine split2 (fun hb => ?_) (fun hb => ?_) <;> have h := hb <;> (try simp only [wf_preprocess] at h) <;> simp -implicitDefEqProofs (disch := omega) only [go_sem, hb] <;> (repeat (with_reducible refine And.intro ?_ ?_; focus first | omega | rfl | assumption | exact ⟨_, rfl, rfl⟩ | (simp; omega) | (simp; done)))
  · have hi' : i < t.fSignatures.length := by omega
    have hm := List.getElem_mem hi'
    have hcz := mem_szG hm
    have hce := MSignature.sum t.fSignatures[i]
    rw [szRows_encS] at hce
    obtain ⟨q1, q2, q3⟩ := sigOk_parts (hso _ hm)
    have hst := hTs i hi'
    (repeat (with_reducible refine And.intro ?_ ?_; focus first | omega | rfl | assumption | exact ⟨_, rfl, rfl⟩ | (simp; omega) | (simp; done)))
    refine call_w (implAtom_lab _ (L i + 1)) ?_
    simp -implicitDefEqProofs (disch := omega) only [go_sem]
    refine call_w (implTys_lab t.fSignatures[i].fParams (L i + 1 + 1) (L i + 1 + 1 + 1) q1 (by omega) (fun u hu => by have := mem_szT hu; omega)) ?_
    simp -implicitDefEqProofs (disch := omega) only [go_sem]
    refine call_w (implList_d _) ?_
    simp -implicitDefEqProofs (disch := omega) only [go_sem]
    refine call_w (implTy_lab t.fSignatures[i].fResult (L i + 1 + 1 + cntX (listX (t.fSignatures[i].fParams.map sxT))) q2 (by omega)) ?_
    simp -implicitDefEqProofs (disch := omega) only [go_sem]
    with_reducible refine split2 (fun hb => ?_) (fun hb => ?_) <;> have h := hb <;> (try simp only [wf_preprocess] at h) <;> simp -implicitDefEqProofs (disch := omega) only [go_sem, hb] <;> (repeat (with_reducible refine And.intro ?_ ?_; focus first | omega | rfl | assumption | exact ⟨_, rfl, rfl⟩ | (simp; omega) | (simp; done)))
    · rw [sxG_def h] at hst
      simp only [lx_cons, lx_nil, labX_eq, fAtom_atom, fList_atom, fAtom_list, fList_list, cntX_atom] at hst
      refine call_w (implNameList_lab t.fSignatures[i].fVars (by omega) (L i + 1 + 1 + cntX (listX (t.fSignatures[i].fParams.map sxT)) + cntX (sxT t.fSignatures[i].fResult))) ?_
      simp -implicitDefEqProofs (disch := omega) only [go_sem]
      refine call_w (implEx_lab t.fSignatures[i].fBody (L i + 1 + 1 + cntX (listX (t.fSignatures[i].fParams.map sxT)) + cntX (sxT t.fSignatures[i].fResult) + cntX (listX (wordsX t.fSignatures[i].fVars))) (q3 h) (by omega)) ?_
      simp -implicitDefEqProofs (disch := omega) only [go_sem]
      (repeat (with_reducible refine And.intro ?_ ?_; focus first | omega | rfl | assumption | exact ⟨_, rfl, rfl⟩ | (simp; omega) | (simp; done)))
      refine call_w (implList_d _) ?_
      simp -implicitDefEqProofs (disch := omega) only [go_sem]
      (repeat (with_reducible refine And.intro ?_ ?_; focus first | omega | rfl | assumption | exact ⟨_, rfl, rfl⟩ | (simp; omega) | (simp; done)))
      rw [hst]
      refine inv_seed (L (i + 1)) 4 (by decide) (i + 1) (by omega) rfl rfl ?_ rfl (by omega)
      simp [tmRefs, zipTm, V.refs, C.refs, refK]
    · rw [sxG_nod h] at hst
      simp only [lx_cons, lx_nil, labX_eq, fAtom_atom, fList_atom, fAtom_list, fList_list, cntX_atom] at hst
      refine call_w (implList_l _ _) ?_
      simp -implicitDefEqProofs (disch := omega) only [go_sem]
      (repeat (with_reducible refine And.intro ?_ ?_; focus first | omega | rfl | assumption | exact ⟨_, rfl, rfl⟩ | (simp; omega) | (simp; done)))
      rw [hst]
      refine inv_seed (L (i + 1)) 4 (by decide) (i + 1) (by omega) rfl rfl ?_ rfl (by omega)
      simp [tmRefs, zipTm, V.refs, C.refs, refK]
  · have hi' : i = t.fSignatures.length := by omega
    refine call_d rfl (implList_t 0 4 _ _) ?_
    simp -implicitDefEqProofs (disch := omega) only [go_sem]
    rw [hi', hTe]
theorem implEncTr_s (t : MTrait) (n : Nat) (hv : validTrait t = true) (hsz : t.sz ≤ 1048576) (ha : t.fAuto = false) (hs : t.fAssoc = true) : PCall Tryz.prog 100 [t.v] (.agg [.d (.s []), .d (.ol n (lx (sxTr t).fList (n + 1)))]) := fun S => by
  have hdz := MTrait.sum t
  rw [szRows_encS] at hdz
  obtain ⟨hso, _⟩ := validTrait_parts hv
  have hfl : flagsT t = [wAssoc] := by unfold flagsT; rw [ha, hs]; rfl
  obtain ⟨L, hL⟩ : ∃ L : Nat → Nat, L = fun i => n + 1 + cntXs (baseTr t ++ (t.fSignatures.map sxG).take i) := ⟨_, rfl⟩
  obtain ⟨T, hT⟩ : ∃ T : Nat → List (List D), T = fun i => lx (baseTr t ++ (t.fSignatures.map sxG).take i) (n + 1) := ⟨_, rfl⟩
  have hT0 : T 0 = [[.s wTrait, .ol (n + 1) []], [.s t.fName, .ol (n + 1 + 1) []], [.s [], .ol (n + 1 + 1 + 1) (lx (wordsX t.fSupertraits) (n + 1 + 1 + 1 + 1))], [.s [], .ol (n + 1 + 1 + 1 + cntX (listX (wordsX t.fSupertraits))) (lx (wordsX [wAssoc]) (n + 1 + 1 + 1 + cntX (listX (wordsX t.fSupertraits)) + 1))]] := by
    rw [hT]; simp only [List.take_zero, List.append_nil, baseTr, hfl]; exact baseTr_rows _ _ _ _ _
  have hTl : ∀ i, (T i).length ≤ i + 4 := fun i => by
    rw [hT]; simp only [lx_length, List.length_append]
    have := List.length_take_le i (t.fSignatures.map sxG)
    simp [baseTr]; omega
  have hTs : ∀ i (hi : i < t.fSignatures.length), T i ++ [[.s [], .ol (L i) (lx (sxG t.fSignatures[i]).fList (L i + 1))]] = T (i + 1) := fun i hi => by
    have := lx_snocB (base := baseTr t) (l := t.fSignatures.map sxG) (i := i) (by rw [List.length_map]; exact hi) (n + 1)
    rw [List.getElem_map, sxG_atom] at this
    rw [hT, hL]; exact this
  have hTr : ∀ i, ∀ r ∈ T i, r.length = 2 := fun i => by rw [hT]; exact lx_rows
  have hTe : T t.fSignatures.length = lx (sxTr t).fList (n + 1) := by
    rw [hT]; simp only
    rw [List.take_of_length_le (by simp)]; rfl
  clear hT hL
  refine acall_cwLs (n) 1 (rs := [.cell 2 32]) Tryz.checked.mixed Tryz.func100 Tryz.ntmps100 rfl rfl rfl rfl rfl ?_
  simp -implicitDefEqProofs (disch := omega) only [go_sem, ha, hs]
  (repeat (with_reducible refine And.intro ?_ ?_; focus first | omega | rfl | assumption | exact ⟨_, rfl, rfl⟩ | (simp; omega) | (simp; done)))
  refine call_w (implAtom_lab _ (n + 1)) ?_
  simp -implicitDefEqProofs (disch := omega) only [go_sem]
  refine call_w (implAtom_lab _ (n + 1 + 1)) ?_
  simp -implicitDefEqProofs (disch := omega) only [go_sem]
  refine call_w (implNameList_lab t.fSupertraits (by omega) (n + 1 + 1 + 1)) ?_
  simp -implicitDefEqProofs (disch := omega) only [go_sem]
  refine call_l (implNameList_lab [wAssoc] (by simp) (n + 1 + 1 + 1 + cntX (listX (wordsX t.fSupertraits)))) (.cons (less_ol n _) .nil) ?_
  simp -implicitDefEqProofs (disch := omega) only [go_sem]
  (repeat (with_reducible refine And.intro ?_ ?_; focus first | omega | rfl | assumption | exact ⟨_, rfl, rfl⟩ | (simp; omega) | (simp; done)))
  refine aw_ltok n 4 2 (T 0) (.inl ?_) (hTr 0) ?_
  · rw [hT0]; rfl
  refine aw_reseed (L 0) ?_
  refine loop_at (ι := Nat) Tryz.checked.mixed rfl [2, 4, 30, 31, 32] (fun i => [.c (.ptr (0, 3) 0), .c (.tsl (0, 4) (T i)), .c (.d (.sl (t.fSignatures.map MSignature.enc))), .c (.d (.i .i64 t.fSignatures.length)), .c (.d (.i .i64 i))])
    (fun i => [.seed (L i), .seed 1, .box [.d (.s t.fName), .d (.sl (t.fSupertraits.map encS)), .d (.b false), .d (.b true), .d (.sl (t.fSignatures.map MSignature.enc))], .box [.d (.s []), .fsl []], .ltok n 2 (T i)] :: S)
    (fun i => i ≤ t.fSignatures.length) (fun i => t.fSignatures.length - i) 0 rfl rfl (Nat.zero_le _) ?_
  intro i hi
  have hl := hTl i
  simp -implicitDefEqProofs (disch := omega) only [go_sem]
  with_reducible refine split2 (fun hb => ?_) (fun hb => ?_) <;> have h := hb <;> (try simp only [wf_preprocess] at h) <;> simp -implicitDefEqProofs (disch := omega) only [go_sem, hb] <;> (repeat (with_reducible refine And.intro ?_ ?_; focus first | omega | rfl | assumption | exact ⟨_, rfl, rfl⟩ | (simp; omega) | (simp; done)))
  · have hi' : i < t.fSignatures.length := by omega
    have hm := List.getElem_mem hi'
    have hcz := mem_szG hm
    have hce := MSignature.sum t.fSignatures[i]
    rw [szRows_encS] at hce
    obtain ⟨q1, q2, q3⟩ := sigOk_parts (hso _ hm)
    have hst := hTs i hi'
    (repeat (with_reducible refine And.intro ?_ ?_; focus first | omega | rfl | assumption | exact ⟨_, rfl, rfl⟩ | (simp; omega) | (simp; done)))
    refine call_w (implAtom_lab _ (L i + 1)) ?_
    simp -implicitDefEqProofs (disch := omega) only [go_sem]
    refine call_w (implTys_lab t.fSignatures[i].fParams (L i + 1 + 1) (L i + 1 + 1 + 1) q1 (by omega) (fun u hu => by have := mem_szT hu; omega)) ?_
    simp -implicitDefEqProofs (disch := omega) only [go_sem]
    refine call_w (implList_d _) ?_
    simp -implicitDefEqProofs (disch := omega) only [go_sem]
    refine call_w (implTy_lab t.fSignatures[i].fResult (L i + 1 + 1 + cntX (listX (t.fSignatures[i].fParams.map sxT))) q2 (by omega)) ?_
    simp -implicitDefEqProofs (disch := omega) only [go_sem]
    with_reducible refine split2 (fun hb => ?_) (fun hb => ?_) <;> have h := hb <;> (try simp only [wf_preprocess] at h) <;> simp -implicitDefEqProofs (disch := omega) only [go_sem, hb] <;> (repeat (with_reducible refine And.intro ?_ ?_; focus first | omega | rfl | assumption | exact ⟨_, rfl, rfl⟩ | (simp; omega) | (simp; done)))
    · rw [sxG_def h] at hst
      simp only [lx_cons, lx_nil, labX_eq, fAtom_atom, fList_atom, fAtom_list, fList_list, cntX_atom] at hst
      refine call_w (implNameList_lab t.fSignatures[i].fVars (by omega) (L i + 1 + 1 + cntX (listX (t.fSignatures[i].fParams.map sxT)) + cntX (sxT t.fSignatures[i].fResult))) ?_
      simp -implicitDefEqProofs (disch := omega) only [go_sem]
      refine call_w (implEx_lab t.fSignatures[i].fBody (L i + 1 + 1 + cntX (listX (t.fSignatures[i].fParams.map sxT)) + cntX (sxT t.fSignatures[i].fResult) + cntX (listX (wordsX t.fSignatures[i].fVars))) (q3 h) (by omega)) ?_
      simp -implicitDefEqProofs (disch := omega) only [go_sem]
      (repeat (with_reducible refine And.intro ?_ ?_; focus first | omega | rfl | assumption | exact ⟨_, rfl, rfl⟩ | (simp; omega) | (simp; done)))
      refine call_w (implList_d _) ?_
      simp -implicitDefEqProofs (disch := omega) only [go_sem]
      (repeat (with_reducible refine And.intro ?_ ?_; focus first | omega | rfl | assumption | exact ⟨_, rfl, rfl⟩ | (simp; omega) | (simp; done)))
      rw [hst]
      refine inv_seed (L (i + 1)) 4 (by decide) (i + 1) (by omega) rfl rfl ?_ rfl (by omega)
      simp [tmRefs, zipTm, V.refs, C.refs, refK]
    · rw [sxG_nod h] at hst
      simp only [lx_cons, lx_nil, labX_eq, fAtom_atom, fList_atom, fAtom_list, fList_list, cntX_atom] at hst
      refine call_w (implList_l _ _) ?_
      simp -implicitDefEqProofs (disch := omega) only [go_sem]
      (repeat (with_reducible refine And.intro ?_ ?_; focus first | omega | rfl | assumption | exact ⟨_, rfl, rfl⟩ | (simp; omega) | (simp; done)))
      rw [hst]
      refine inv_seed (L (i + 1)) 4 (by decide) (i + 1) (by omega) rfl rfl ?_ rfl (by omega)
      simp [tmRefs, zipTm, V.refs, C.refs, refK]
  · have hi' : i = t.fSignatures.length := by omega
    refine call_d rfl (implList_t 0 4 _ _) ?_
    simp -implicitDefEqProofs (disch := omega) only [go_sem]
    rw [hi', hTe]
theorem implEncTr_n (t : MTrait) (n : Nat) (hv : validTrait t = true) (hsz : t.sz ≤ 1048576) (ha : t.fAuto = false) (hs : t.fAssoc = false) : PCall Tryz.prog 100 [t.v] (.agg [.d (.s []), .d (.ol n (lx (sxTr t).fList (n + 1)))]) := fun S => by
  have hdz := MTrait.sum t
  rw [szRows_encS] at hdz
  obtain ⟨hso, _⟩ := validTrait_parts hv
  have hfl : flagsT t = [] := by unfold flagsT; rw [ha, hs]; rfl
  obtain ⟨L, hL⟩ : ∃ L : Nat → Nat, L = fun i => n + 1 + cntXs (baseTr t ++ (t.fSignatures.map sxG).take i) := ⟨_, rfl⟩
  obtain ⟨T, hT⟩ : ∃ T : Nat → List (List D), T = fun i => lx (baseTr t ++ (t.fSignatures.map sxG).take i) (n + 1) := ⟨_, rfl⟩
  have hT0 : T 0 = [[.s wTrait, .ol (n + 1) []], [.s t.fName, .ol (n + 1 + 1) []], [.s [], .ol (n + 1 + 1 + 1) (lx (wordsX t.fSupertraits) (n + 1 + 1 + 1 + 1))], [.s [], .ol (n + 1 + 1 + 1 + cntX (listX (wordsX t.fSupertraits))) (lx (wordsX []) (n + 1 + 1 + 1 + cntX (listX (wordsX t.fSupertraits)) + 1))]] := by
    rw [hT]; simp only [List.take_zero, List.append_nil, baseTr, hfl]; exact baseTr_rows _ _ _ _ _
  have hTl : ∀ i, (T i).length ≤ i + 4 := fun i => by
    rw [hT]; simp only [lx_length, List.length_append]
    have := List.length_take_le i (t.fSignatures.map sxG)
    simp [baseTr]; omega
  have hTs : ∀ i (hi : i < t.fSignatures.length), T i ++ [[.s [], .ol (L i) (lx (sxG t.fSignatures[i]).fList (L i + 1))]] = T (i + 1) := fun i hi => by
    have := lx_snocB (base := baseTr t) (l := t.fSignatures.map sxG) (i := i) (by rw [List.length_map]; exact hi) (n + 1)
    rw [List.getElem_map, sxG_atom] at this
    rw [hT, hL]; exact this
  have hTr : ∀ i, ∀ r ∈ T i, r.length = 2 := fun i => by rw [hT]; exact lx_rows
  have hTe : T t.fSignatures.length = lx (sxTr t).fList (n + 1) := by
    rw [hT]; simp only
    rw [List.take_of_length_le (by simp)]; rfl
  clear hT hL
  refine acall_cwLs (n) 1 (rs := [.cell 2 32]) Tryz.checked.mixed Tryz.func100 Tryz.ntmps100 rfl rfl rfl rfl rfl ?_
  simp -implicitDefEqProofs (disch := omega) only [go_sem, ha, hs]
  (repeat (with_reducible refine And.intro ?_ ?_; focus first | omega | rfl | assumption | exact ⟨_, rfl, rfl⟩ | (simp; omega) | (simp; done)))
  refine call_w (implAtom_lab _ (n + 1)) ?_
  simp -implicitDefEqProofs (disch := omega) only [go_sem]
  refine call_w (implAtom_lab _ (n + 1 + 1)) ?_
  simp -implicitDefEqProofs (disch := omega) only [go_sem]
  refine call_w (implNameList_lab t.fSupertraits (by omega) (n + 1 + 1 + 1)) ?_
  simp -implicitDefEqProofs (disch := omega) only [go_sem]
  refine call_l (implNameList_lab [] (by simp) (n + 1 + 1 + 1 + cntX (listX (wordsX t.fSupertraits)))) (.cons (less_lfls n _) .nil) ?_
  simp -implicitDefEqProofs (disch := omega) only [go_sem]
  (repeat (with_reducible refine And.intro ?_ ?_; focus first | omega | rfl | assumption | exact ⟨_, rfl, rfl⟩ | (simp; omega) | (simp; done)))
  refine aw_ltok n 4 2 (T 0) (.inl ?_) (hTr 0) ?_
  · rw [hT0]; rfl
  refine aw_reseed (L 0) ?_
  refine loop_at (ι := Nat) Tryz.checked.mixed rfl [2, 4, 30, 31, 32] (fun i => [.c (.ptr (0, 3) 0), .c (.tsl (0, 4) (T i)), .c (.d (.sl (t.fSignatures.map MSignature.enc))), .c (.d (.i .i64 t.fSignatures.length)), .c (.d (.i .i64 i))])
    (fun i => [.seed (L i), .seed 1, .box [.d (.s t.fName), .d (.sl (t.fSupertraits.map encS)), .d (.b false), .d (.b false), .d (.sl (t.fSignatures.map MSignature.enc))], .box [.d (.s []), .fsl []], .ltok n 2 (T i)] :: S)
    (fun i => i ≤ t.fSignatures.length) (fun i => t.fSignatures.length - i) 0 rfl rfl (Nat.zero_le _) ?_
  intro i hi
  have hl := hTl i
  simp -implicitDefEqProofs (disch := omega) only [go_sem]
  with_reducible refine split2 (fun hb => ?_) (fun hb => ?_) <;> have h := hb <;> (try simp only [wf_preprocess] at h) <;> simp -implicitDefEqProofs (disch := omega) only [go_sem, hb] <;> (repeat (with_reducible refine And.intro ?_ ?_; focus first | omega | rfl | assumption | exact ⟨_, rfl, rfl⟩ | (simp; omega) | (simp; done)))
  · have hi' : i < t.fSignatures.length := by omega
    have hm := List.getElem_mem hi'
    have hcz := mem_szG hm
    have hce := MSignature.sum t.fSignatures[i]
    rw [szRows_encS] at hce
    obtain ⟨q1, q2, q3⟩ := sigOk_parts (hso _ hm)
    have hst := hTs i hi'
    (repeat (with_reducible refine And.intro ?_ ?_; focus first | omega | rfl | assumption | exact ⟨_, rfl, rfl⟩ | (simp; omega) | (simp; done)))
    refine call_w (implAtom_lab _ (L i + 1)) ?_
    simp -implicitDefEqProofs (disch := omega) only [go_sem]
    refine call_w (implTys_lab t.fSignatures[i].fParams (L i + 1 + 1) (L i + 1 + 1 + 1) q1 (by omega) (fun u hu => by have := mem_szT hu; omega)) ?_
    simp -implicitDefEqProofs (disch := omega) only [go_sem]
    refine call_w (implList_d _) ?_
    simp -implicitDefEqProofs (disch := omega) only [go_sem]
    refine call_w (implTy_lab t.fSignatures[i].fResult (L i + 1 + 1 + cntX (listX (t.fSignatures[i].fParams.map sxT))) q2 (by omega)) ?_
    simp -implicitDefEqProofs (disch := omega) only [go_sem]
    with_reducible refine split2 (fun hb => ?_) (fun hb => ?_) <;> have h := hb <;> (try simp only [wf_preprocess] at h) <;> simp -implicitDefEqProofs (disch := omega) only [go_sem, hb] <;> (repeat (with_reducible refine And.intro ?_ ?_; focus first | omega | rfl | assumption | exact ⟨_, rfl, rfl⟩ | (simp; omega) | (simp; done)))
    · rw [sxG_def h] at hst
      simp only [lx_cons, lx_nil, labX_eq, fAtom_atom, fList_atom, fAtom_list, fList_list, cntX_atom] at hst
      refine call_w (implNameList_lab t.fSignatures[i].fVars (by omega) (L i + 1 + 1 + cntX (listX (t.fSignatures[i].fParams.map sxT)) + cntX (sxT t.fSignatures[i].fResult))) ?_
      simp -implicitDefEqProofs (disch := omega) only [go_sem]
      refine call_w (implEx_lab t.fSignatures[i].fBody (L i + 1 + 1 + cntX (listX (t.fSignatures[i].fParams.map sxT)) + cntX (sxT t.fSignatures[i].fResult) + cntX (listX (wordsX t.fSignatures[i].fVars))) (q3 h) (by omega)) ?_
      simp -implicitDefEqProofs (disch := omega) only [go_sem]
      (repeat (with_reducible refine And.intro ?_ ?_; focus first | omega | rfl | assumption | exact ⟨_, rfl, rfl⟩ | (simp; omega) | (simp; done)))
      refine call_w (implList_d _) ?_
      simp -implicitDefEqProofs (disch := omega) only [go_sem]
      (repeat (with_reducible refine And.intro ?_ ?_; focus first | omega | rfl | assumption | exact ⟨_, rfl, rfl⟩ | (simp; omega) | (simp; done)))
      rw [hst]
      refine inv_seed (L (i + 1)) 4 (by decide) (i + 1) (by omega) rfl rfl ?_ rfl (by omega)
      simp [tmRefs, zipTm, V.refs, C.refs, refK]
    · rw [sxG_nod h] at hst
      simp only [lx_cons, lx_nil, labX_eq, fAtom_atom, fList_atom, fAtom_list, fList_list, cntX_atom] at hst
      refine call_w (implList_l _ _) ?_
      simp -implicitDefEqProofs (disch := omega) only [go_sem]
      (repeat (with_reducible refine And.intro ?_ ?_; focus first | omega | rfl | assumption | exact ⟨_, rfl, rfl⟩ | (simp; omega) | (simp; done)))
      rw [hst]
      refine inv_seed (L (i + 1)) 4 (by decide) (i + 1) (by omega) rfl rfl ?_ rfl (by omega)
      simp [tmRefs, zipTm, V.refs, C.refs, refK]
  · have hi' : i = t.fSignatures.length := by omega
    refine call_d rfl (implList_t 0 4 _ _) ?_
    simp -implicitDefEqProofs (disch := omega) only [go_sem]
    rw [hi', hTe]
theorem implEncTr_lab (t : MTrait) (n : Nat) (hv : validTrait t = true) (hsz : t.sz ≤ 1048576) : PCall Tryz.prog 100 [t.v] (.agg [.d (.s []), .d (.ol n (lx (sxTr t).fList (n + 1)))]) := by
  have hb := (validTrait_parts hv).2
  cases ha : t.fAuto with
  | true =>
    cases hs : t.fAssoc with
    | true => exact absurd ⟨ha, hs⟩ hb
    | false => exact implEncTr_a t n hv hsz ha hs
  | false =>
    cases hs : t.fAssoc with
    | true => exact implEncTr_s t n hv hsz ha hs
    | false => exact implEncTr_n t n hv hsz ha hs
theorem implTr_lab (x : MTrait) (n : Nat) (hsz : x.sz ≤ 1048576) : PCall Tryz.prog 29 [x.v] (.agg [.d (.s (outTr x).fAtom), .d (.ol n (lx (outTr x).fList (n + 1)))]) := by
  unfold outTr
  cases hv : validTrait x with
  | false =>
    rw [outX]
    refine PCall.less (fun S => ?_) (less_x0 [] n)
    refine acall_cw (rs := [.cell 2 32]) Tryz.checked.mixed Tryz.func29 Tryz.ntmps29 rfl rfl rfl rfl rfl ?_
    simp -implicitDefEqProofs (disch := omega) only [go_sem]
    refine call_w (implValidTrait_ok x (by omega)) ?_
    simp -implicitDefEqProofs (disch := omega) only [go_sem, hv]
  | true =>
    intro S
    have hz := sxTr_le hv
    refine acall_cw (rs := [.cell 2 32]) Tryz.checked.mixed Tryz.func29 Tryz.ntmps29 rfl rfl rfl rfl rfl ?_
    simp -implicitDefEqProofs (disch := omega) only [go_sem]
    refine call_w (implValidTrait_ok x (by omega)) ?_
    simp -implicitDefEqProofs (disch := omega) only [go_sem, hv]
    refine call_w (implEncTr_lab x n hv hsz) ?_
    simp -implicitDefEqProofs (disch := omega) only [go_sem]
    refine call_w (implIf_lab (sxTr x) n (by omega)) ?_
    simp -implicitDefEqProofs (disch := omega) only [go_sem]
    rfl
theorem specTr_a (t : MTrait) (hv : validTrait t = true) (hsz : t.sz ≤ 1048576) (ha : t.fAuto = true) (hs : t.fAssoc = false) : PCall Tryz.prog 27 [t.v] (ifX (sxTr t)).v := fun S => by
  have hdz := MTrait.sum t
  rw [szRows_encS] at hdz
  obtain ⟨hso, _⟩ := validTrait_parts hv
  have hz := sxTr_le hv
  have hfl : flagsT t = [wAuto] := by unfold flagsT; rw [ha, hs]; rfl
  obtain ⟨T, hT⟩ : ∃ T : Nat → List (List D), T = fun i => (baseTr t ++ (t.fSignatures.map sxG).take i).map MSExpr.enc := ⟨_, rfl⟩
  have hT0 : T 0 = [[.s wTrait, .sl []], [.s t.fName, .sl []], [.s [], .sl ((wordsX t.fSupertraits).map MSExpr.enc)], [.s [], .sl ((wordsX [wAuto]).map MSExpr.enc)]] := by
    rw [hT]; simp only [List.take_zero, List.append_nil, baseTr, hfl, List.map_cons, List.map_nil, enc_atom, enc_list]
  have hTl : ∀ i, (T i).length ≤ i + 4 := fun i => by
    rw [hT]; simp only [List.length_map, List.length_append]
    have := List.length_take_le i (t.fSignatures.map sxG)
    simp [baseTr]; omega
  have hTs : ∀ i (hi : i < t.fSignatures.length), T i ++ [[.s [], .sl ((sxG t.fSignatures[i]).fList.map MSExpr.enc)]] = T (i + 1) := fun i hi => by
    have := encX_snoc (base := baseTr t) (l := t.fSignatures.map sxG) (i := i) (by rw [List.length_map]; exact hi)
    rw [List.getElem_map, sxG_atom] at this
    rw [hT]; exact this
  have hTr : ∀ i, ∀ r ∈ T i, r.length = 2 := fun i => by rw [hT]; exact enc_rows
  have hTe : T t.fSignatures.length = (sxTr t).fList.map MSExpr.enc := by
    rw [hT]; simp only
    rw [List.take_of_length_le (by simp)]; rfl
  clear hT
  refine acall_cw (rs := [.cell 2 32]) Tryz.checked.mixed Tryz.func27 Tryz.ntmps27 rfl rfl rfl rfl rfl ?_
  simp -implicitDefEqProofs (disch := omega) only [go_sem]
  refine call_w (specValidTrait_ok t (by omega)) ?_
  simp -implicitDefEqProofs (disch := omega) only [go_sem, hv, ha, hs]
  (repeat (with_reducible refine And.intro ?_ ?_; focus first | omega | rfl | assumption | exact ⟨_, rfl, rfl⟩ | (simp; omega) | (simp; done)))
  refine call_w (specAtom_ok _) ?_
  simp -implicitDefEqProofs (disch := omega) only [go_sem]
  refine call_w (specAtom_ok _) ?_
  simp -implicitDefEqProofs (disch := omega) only [go_sem]
  refine call_w (specNameList_ok t.fSupertraits (by omega)) ?_
  simp -implicitDefEqProofs (disch := omega) only [go_sem]
  refine call_w (specNameList_ok [wAuto] (by simp)) ?_
  simp -implicitDefEqProofs (disch := omega) only [go_sem]
  have hE := fun own0 Ω => specList_esc (T 0) (hTr 0) (by have := hTl 0; omega) own0 Ω
  simp only [hT0] at hE
  refine call_m [false] rfl (hE _ _) ?_
  simp -implicitDefEqProofs (disch := omega) only [go_sem]
  refine loop_at (ι := Nat) Tryz.checked.mixed rfl [1, 2, 4, 5] (fun i => [.c (.ptr (0, 0) 0), .c (.ptr (0, 1) 0), .c (.ptr (0, 5) 0), .c (.d (.i .i64 i))])
    (fun i => [.box [.d (.s t.fName), .d (.sl (t.fSupertraits.map encS)), .d (.b true), .d (.b false), .d (.sl (t.fSignatures.map MSignature.enc))], .box [.d (.s []), .fsl []], .tok 1 [[.s wAuto]], .box [.d (.s []), .tsl (0, 4) (T 0)], .tok 2 (T i), .box [.d (.s []), .tsl (0, 4) (T i)]] :: S)
    (fun i => i ≤ t.fSignatures.length) (fun i => t.fSignatures.length - i) 0 rfl (by simp only [hT0] <;> (try rfl)) (Nat.zero_le _) ?_
  intro i hi
  have hl := hTl i
  simp -implicitDefEqProofs (disch := omega) only [go_sem]
  with_reducible refine split2 (fun hb => ?_) (fun hb => ?_) <;> have h := hb <;> (try simp only [wf_preprocess] at h) <;> simp -implicitDefEqProofs (disch := omega) only [go_sem, hb] <;> (repeat (with_reducible refine And.intro ?_ ?_; focus first | omega | rfl | assumption | exact ⟨_, rfl, rfl⟩ | (simp; omega) | (simp; done)))
  · have hi' : i < t.fSignatures.length := by omega
    have hm := List.getElem_mem hi'
    have hcz := mem_szG hm
    have hce := MSignature.sum t.fSignatures[i]
    rw [szRows_encS] at hce
    obtain ⟨q1, q2, q3⟩ := sigOk_parts (hso _ hm)
    have hst := hTs i hi'
    (repeat (with_reducible refine And.intro ?_ ?_; focus first | omega | rfl | assumption | exact ⟨_, rfl, rfl⟩ | (simp; omega) | (simp; done)))
    refine call_w (specAtom_ok _) ?_
    simp -implicitDefEqProofs (disch := omega) only [go_sem]
    refine call_w (specTys_ok t.fSignatures[i].fParams (by omega) (fun u hu => by have := mem_szT hu; omega)) ?_
    simp -implicitDefEqProofs (disch := omega) only [go_sem]
    refine call_w (specTy_ok t.fSignatures[i].fResult (by omega)) ?_
    simp -implicitDefEqProofs (disch := omega) only [go_sem]
    refine call_m [false] rfl (specList_esc _ (by simp) (by simp) _ _) ?_
    simp -implicitDefEqProofs (disch := omega) only [go_sem]
    with_reducible refine split2 (fun hb => ?_) (fun hb => ?_) <;> have h := hb <;> (try simp only [wf_preprocess] at h) <;> simp -implicitDefEqProofs (disch := omega) only [go_sem, hb] <;> (repeat (with_reducible refine And.intro ?_ ?_; focus first | omega | rfl | assumption | exact ⟨_, rfl, rfl⟩ | (simp; omega) | (simp; done)))
    · rw [sxG_def h] at hst
      simp only [List.map_cons, List.map_nil, enc_atom, enc_list, MSExpr.enc_eq (sxT t.fSignatures[i].fResult), MSExpr.enc_eq (sxE t.fSignatures[i].fBody)] at hst
      refine call_w (specNameList_ok t.fSignatures[i].fVars (by omega)) ?_
      simp -implicitDefEqProofs (disch := omega) only [go_sem]
      refine call_w (specEx_ok t.fSignatures[i].fBody (q3 h) (by omega)) ?_
      simp -implicitDefEqProofs (disch := omega) only [go_sem]
      (repeat (with_reducible refine And.intro ?_ ?_; focus first | omega | rfl | assumption | exact ⟨_, rfl, rfl⟩ | (simp; omega) | (simp; done)))
      rw [hst]
      exact inv_drop 6 (by decide) (i + 1) (by omega) rfl rfl rfl rfl (by omega)
    · rw [sxG_nod h] at hst
      simp only [List.map_cons, List.map_nil, enc_atom, enc_list, MSExpr.enc_eq (sxT t.fSignatures[i].fResult)] at hst
      (repeat (with_reducible refine And.intro ?_ ?_; focus first | omega | rfl | assumption | exact ⟨_, rfl, rfl⟩ | (simp; omega) | (simp; done)))
      rw [hst]
      exact inv_drop 6 (by decide) (i + 1) (by omega) rfl rfl rfl rfl (by omega)
  · have hi' : i = t.fSignatures.length := by omega
    subst hi'
    rw [hTe]
    refine call_w (specIf_ok true (sxTr t) (by omega)) ?_
    simp -implicitDefEqProofs (disch := omega) only [go_sem]
    rfl
theorem specTr_s (t : MTrait) (hv : validTrait t = true) (hsz : t.sz ≤ 1048576) (ha : t.fAuto = false) (hs : t.fAssoc = true) : PCall Tryz.prog 27 [t.v] (ifX (sxTr t)).v := fun S => by
  have hdz := MTrait.sum t
  rw [szRows_encS] at hdz
  obtain ⟨hso, _⟩ := validTrait_parts hv
  have hz := sxTr_le hv
  have hfl : flagsT t = [wAssoc] := by unfold flagsT; rw [ha, hs]; rfl
  obtain ⟨T, hT⟩ : ∃ T : Nat → List (List D), T = fun i => (baseTr t ++ (t.fSignatures.map sxG).take i).map MSExpr.enc := ⟨_, rfl⟩
  have hT0 : T 0 = [[.s wTrait, .sl []], [.s t.fName, .sl []], [.s [], .sl ((wordsX t.fSupertraits).map MSExpr.enc)], [.s [], .sl ((wordsX [wAssoc]).map MSExpr.enc)]] := by
    rw [hT]; simp only [List.take_zero, List.append_nil, baseTr, hfl, List.map_cons, List.map_nil, enc_atom, enc_list]
  have hTl : ∀ i, (T i).length ≤ i + 4 := fun i => by
    rw [hT]; simp only [List.length_map, List.length_append]
    have := List.length_take_le i (t.fSignatures.map sxG)
    simp [baseTr]; omega
  have hTs : ∀ i (hi : i < t.fSignatures.length), T i ++ [[.s [], .sl ((sxG t.fSignatures[i]).fList.map MSExpr.enc)]] = T (i + 1) := fun i hi => by
    have := encX_snoc (base := baseTr t) (l := t.fSignatures.map sxG) (i := i) (by rw [List.length_map]; exact hi)
    rw [List.getElem_map, sxG_atom] at this
    rw [hT]; exact this
  have hTr : ∀ i, ∀ r ∈ T i, r.length = 2 := fun i => by rw [hT]; exact enc_rows
  have hTe : T t.fSignatures.length = (sxTr t).fList.map MSExpr.enc := by
    rw [hT]; simp only
    rw [List.take_of_length_le (by simp)]; rfl
  clear hT
  refine acall_cw (rs := [.cell 2 32]) Tryz.checked.mixed Tryz.func27 Tryz.ntmps27 rfl rfl rfl rfl rfl ?_
  simp -implicitDefEqProofs (disch := omega) only [go_sem]
  refine call_w (specValidTrait_ok t (by omega)) ?_
  simp -implicitDefEqProofs (disch := omega) only [go_sem, hv, ha, hs]
  (repeat (with_reducible refine And.intro ?_ ?_; focus first | omega | rfl | assumption | exact ⟨_, rfl, rfl⟩ | (simp; omega) | (simp; done)))
  refine call_w (specAtom_ok _) ?_
  simp -implicitDefEqProofs (disch := omega) only [go_sem]
  refine call_w (specAtom_ok _) ?_
  simp -implicitDefEqProofs (disch := omega) only [go_sem]
  refine call_w (specNameList_ok t.fSupertraits (by omega)) ?_
  simp -implicitDefEqProofs (disch := omega) only [go_sem]
  refine call_w (specNameList_ok [wAssoc] (by simp)) ?_
  simp -implicitDefEqProofs (disch := omega) only [go_sem]
  have hE := fun own0 Ω => specList_esc (T 0) (hTr 0) (by have := hTl 0; omega) own0 Ω
  simp only [hT0] at hE
  refine call_m [false] rfl (hE _ _) ?_
  simp -implicitDefEqProofs (disch := omega) only [go_sem]
  refine loop_at (ι := Nat) Tryz.checked.mixed rfl [1, 2, 4, 5] (fun i => [.c (.ptr (0, 0) 0), .c (.ptr (0, 1) 0), .c (.ptr (0, 5) 0), .c (.d (.i .i64 i))])
    (fun i => [.box [.d (.s t.fName), .d (.sl (t.fSupertraits.map encS)), .d (.b false), .d (.b true), .d (.sl (t.fSignatures.map MSignature.enc))], .box [.d (.s []), .fsl []], .tok 1 [[.s wAssoc]], .box [.d (.s []), .tsl (0, 4) (T 0)], .tok 2 (T i), .box [.d (.s []), .tsl (0, 4) (T i)]] :: S)
    (fun i => i ≤ t.fSignatures.length) (fun i => t.fSignatures.length - i) 0 rfl (by simp only [hT0] <;> (try rfl)) (Nat.zero_le _) ?_
  intro i hi
  have hl := hTl i
  simp -implicitDefEqProofs (disch := omega) only [go_sem]
  with_reducible refine split2 (fun hb => ?_) (fun hb => ?_) <;> have h := hb <;> (try simp only [wf_preprocess] at h) <;> simp -implicitDefEqProofs (disch := omega) only [go_sem, hb] <;> (repeat (with_reducible refine And.intro ?_ ?_; focus first | omega | rfl | assumption | exact ⟨_, rfl, rfl⟩ | (simp; omega) | (simp; done)))
  · have hi' : i < t.fSignatures.length := by omega
    have hm := List.getElem_mem hi'
    have hcz := mem_szG hm
    have hce := MSignature.sum t.fSignatures[i]
    rw [szRows_encS] at hce
    obtain ⟨q1, q2, q3⟩ := sigOk_parts (hso _ hm)
    have hst := hTs i hi'
    (repeat (with_reducible refine And.intro ?_ ?_; focus first | omega | rfl | assumption | exact ⟨_, rfl, rfl⟩ | (simp; omega) | (simp; done)))
    refine call_w (specAtom_ok _) ?_
    simp -implicitDefEqProofs (disch := omega) only [go_sem]
    refine call_w (specTys_ok t.fSignatures[i].fParams (by omega) (fun u hu => by have := mem_szT hu; omega)) ?_
    simp -implicitDefEqProofs (disch := omega) only [go_sem]
    refine call_w (specTy_ok t.fSignatures[i].fResult (by omega)) ?_
    simp -implicitDefEqProofs (disch := omega) only [go_sem]
    refine call_m [false] rfl (specList_esc _ (by simp) (by simp) _ _) ?_
    simp -implicitDefEqProofs (disch := omega) only [go_sem]
    with_reducible refine split2 (fun hb => ?_) (fun hb => ?_) <;> have h := hb <;> (try simp only [wf_preprocess] at h) <;> simp -implicitDefEqProofs (disch := omega) only [go_sem, hb] <;> (repeat (with_reducible refine And.intro ?_ ?_; focus first | omega | rfl | assumption | exact ⟨_, rfl, rfl⟩ | (simp; omega) | (simp; done)))
    · rw [sxG_def h] at hst
      simp only [List.map_cons, List.map_nil, enc_atom, enc_list, MSExpr.enc_eq (sxT t.fSignatures[i].fResult), MSExpr.enc_eq (sxE t.fSignatures[i].fBody)] at hst
      refine call_w (specNameList_ok t.fSignatures[i].fVars (by omega)) ?_
      simp -implicitDefEqProofs (disch := omega) only [go_sem]
      refine call_w (specEx_ok t.fSignatures[i].fBody (q3 h) (by omega)) ?_
      simp -implicitDefEqProofs (disch := omega) only [go_sem]
      (repeat (with_reducible refine And.intro ?_ ?_; focus first | omega | rfl | assumption | exact ⟨_, rfl, rfl⟩ | (simp; omega) | (simp; done)))
      rw [hst]
      exact inv_drop 6 (by decide) (i + 1) (by omega) rfl rfl rfl rfl (by omega)
    · rw [sxG_nod h] at hst
      simp only [List.map_cons, List.map_nil, enc_atom, enc_list, MSExpr.enc_eq (sxT t.fSignatures[i].fResult)] at hst
      (repeat (with_reducible refine And.intro ?_ ?_; focus first | omega | rfl | assumption | exact ⟨_, rfl, rfl⟩ | (simp; omega) | (simp; done)))
      rw [hst]
      exact inv_drop 6 (by decide) (i + 1) (by omega) rfl rfl rfl rfl (by omega)
  · have hi' : i = t.fSignatures.length := by omega
    subst hi'
    rw [hTe]
    refine call_w (specIf_ok true (sxTr t) (by omega)) ?_
    simp -implicitDefEqProofs (disch := omega) only [go_sem]
    rfl
theorem specTr_n (t : MTrait) (hv : validTrait t = true) (hsz : t.sz ≤ 1048576) (ha : t.fAuto = false) (hs : t.fAssoc = false) : PCall Tryz.prog 27 [t.v] (ifX (sxTr t)).v := fun S => by
  have hdz := MTrait.sum t
  rw [szRows_encS] at hdz
  obtain ⟨hso, _⟩ := validTrait_parts hv
  have hz := sxTr_le hv
  have hfl : flagsT t = [] := by unfold flagsT; rw [ha, hs]; rfl
  obtain ⟨T, hT⟩ : ∃ T : Nat → List (List D), T = fun i => (baseTr t ++ (t.fSignatures.map sxG).take i).map MSExpr.enc := ⟨_, rfl⟩
  have hT0 : T 0 = [[.s wTrait, .sl []], [.s t.fName, .sl []], [.s [], .sl ((wordsX t.fSupertraits).map MSExpr.enc)], [.s [], .sl ((wordsX []).map MSExpr.enc)]] := by
    rw [hT]; simp only [List.take_zero, List.append_nil, baseTr, hfl, List.map_cons, List.map_nil, enc_atom, enc_list]
  have hTl : ∀ i, (T i).length ≤ i + 4 := fun i => by
    rw [hT]; simp only [List.length_map, List.length_append]
    have := List.length_take_le i (t.fSignatures.map sxG)
    simp [baseTr]; omega
  have hTs : ∀ i (hi : i < t.fSignatures.length), T i ++ [[.s [], .sl ((sxG t.fSignatures[i]).fList.map MSExpr.enc)]] = T (i + 1) := fun i hi => by
    have := encX_snoc (base := baseTr t) (l := t.fSignatures.map sxG) (i := i) (by rw [List.length_map]; exact hi)
    rw [List.getElem_map, sxG_atom] at this
    rw [hT]; exact this
  have hTr : ∀ i, ∀ r ∈ T i, r.length = 2 := fun i => by rw [hT]; exact enc_rows
  have hTe : T t.fSignatures.length = (sxTr t).fList.map MSExpr.enc := by
    rw [hT]; simp only
    rw [List.take_of_length_le (by simp)]; rfl
  clear hT
  refine acall_cw (rs := [.cell 2 32]) Tryz.checked.mixed Tryz.func27 Tryz.ntmps27 rfl rfl rfl rfl rfl ?_
  simp -implicitDefEqProofs (disch := omega) only [go_sem]
  refine call_w (specValidTrait_ok t (by omega)) ?_
  simp -implicitDefEqProofs (disch := omega) only [go_sem, hv, ha, hs]
  (repeat (with_reducible refine And.intro ?_ ?_; focus first | omega | rfl | assumption | exact ⟨_, rfl, rfl⟩ | (simp; omega) | (simp; done)))
  refine call_w (specAtom_ok _) ?_
  simp -implicitDefEqProofs (disch := omega) only [go_sem]
  refine call_w (specAtom_ok _) ?_
  simp -implicitDefEqProofs (disch := omega) only [go_sem]
  refine call_w (specNameList_ok t.fSupertraits (by omega)) ?_
  simp -implicitDefEqProofs (disch := omega) only [go_sem]
  refine call_w (specNameList_ok [] (by simp)) ?_
  simp -implicitDefEqProofs (disch := omega) only [go_sem]
  have hE := fun own0 Ω => specList_esc (T 0) (hTr 0) (by have := hTl 0; omega) own0 Ω
  simp only [hT0] at hE
  refine call_m [false] rfl (hE _ _) ?_
  simp -implicitDefEqProofs (disch := omega) only [go_sem]
  refine loop_at (ι := Nat) Tryz.checked.mixed rfl [1, 2, 4, 5] (fun i => [.c (.ptr (0, 0) 0), .c (.ptr (0, 1) 0), .c (.ptr (0, 4) 0), .c (.d (.i .i64 i))])
    (fun i => [.box [.d (.s t.fName), .d (.sl (t.fSupertraits.map encS)), .d (.b false), .d (.b false), .d (.sl (t.fSignatures.map MSignature.enc))], .box [.d (.s []), .fsl []], .box [.d (.s []), .tsl (0, 3) (T 0)], .tok 2 (T i), .box [.d (.s []), .tsl (0, 3) (T i)]] :: S)
    (fun i => i ≤ t.fSignatures.length) (fun i => t.fSignatures.length - i) 0 rfl (by simp only [hT0] <;> (try rfl)) (Nat.zero_le _) ?_
  intro i hi
  have hl := hTl i
  simp -implicitDefEqProofs (disch := omega) only [go_sem]
  with_reducible refine split2 (fun hb => ?_) (fun hb => ?_) <;> have h := hb <;> (try simp only [wf_preprocess] at h) <;> simp -implicitDefEqProofs (disch := omega) only [go_sem, hb] <;> (repeat (with_reducible refine And.intro ?_ ?_; focus first | omega | rfl | assumption | exact ⟨_, rfl, rfl⟩ | (simp; omega) | (simp; done)))
  · have hi' : i < t.fSignatures.length := by omega
    have hm := List.getElem_mem hi'
    have hcz := mem_szG hm
    have hce := MSignature.sum t.fSignatures[i]
    rw [szRows_encS] at hce
    obtain ⟨q1, q2, q3⟩ := sigOk_parts (hso _ hm)
    have hst := hTs i hi'
    (repeat (with_reducible refine And.intro ?_ ?_; focus first | omega | rfl | assumption | exact ⟨_, rfl, rfl⟩ | (simp; omega) | (simp; done)))
    refine call_w (specAtom_ok _) ?_
    simp -implicitDefEqProofs (disch := omega) only [go_sem]
    refine call_w (specTys_ok t.fSignatures[i].fParams (by omega) (fun u hu => by have := mem_szT hu; omega)) ?_
    simp -implicitDefEqProofs (disch := omega) only [go_sem]
    refine call_w (specTy_ok t.fSignatures[i].fResult (by omega)) ?_
    simp -implicitDefEqProofs (disch := omega) only [go_sem]
    refine call_m [false] rfl (specList_esc _ (by simp) (by simp) _ _) ?_
    simp -implicitDefEqProofs (disch := omega) only [go_sem]
    with_reducible refine split2 (fun hb => ?_) (fun hb => ?_) <;> have h := hb <;> (try simp only [wf_preprocess] at h) <;> simp -implicitDefEqProofs (disch := omega) only [go_sem, hb] <;> (repeat (with_reducible refine And.intro ?_ ?_; focus first | omega | rfl | assumption | exact ⟨_, rfl, rfl⟩ | (simp; omega) | (simp; done)))
    · rw [sxG_def h] at hst
      simp only [List.map_cons, List.map_nil, enc_atom, enc_list, MSExpr.enc_eq (sxT t.fSignatures[i].fResult), MSExpr.enc_eq (sxE t.fSignatures[i].fBody)] at hst
      refine call_w (specNameList_ok t.fSignatures[i].fVars (by omega)) ?_
      simp -implicitDefEqProofs (disch := omega) only [go_sem]
      refine call_w (specEx_ok t.fSignatures[i].fBody (q3 h) (by omega)) ?_
      simp -implicitDefEqProofs (disch := omega) only [go_sem]
      (repeat (with_reducible refine And.intro ?_ ?_; focus first | omega | rfl | assumption | exact ⟨_, rfl, rfl⟩ | (simp; omega) | (simp; done)))
      rw [hst]
      exact inv_drop 5 (by decide) (i + 1) (by omega) rfl rfl rfl rfl (by omega)
    · rw [sxG_nod h] at hst
      simp only [List.map_cons, List.map_nil, enc_atom, enc_list, MSExpr.enc_eq (sxT t.fSignatures[i].fResult)] at hst
      (repeat (with_reducible refine And.intro ?_ ?_; focus first | omega | rfl | assumption | exact ⟨_, rfl, rfl⟩ | (simp; omega) | (simp; done)))
      rw [hst]
      exact inv_drop 5 (by decide) (i + 1) (by omega) rfl rfl rfl rfl (by omega)
  · have hi' : i = t.fSignatures.length := by omega
    subst hi'
    rw [hTe]
    refine call_w (specIf_ok true (sxTr t) (by omega)) ?_
    simp -implicitDefEqProofs (disch := omega) only [go_sem]
    rfl
theorem specTr_ok (t : MTrait) (hsz : t.sz ≤ 1048576) : PCall Tryz.prog 27 [t.v] (outTr t).v := by
  unfold outTr
  cases hv : validTrait t with
  | false =>
    rw [outX]
    refine PCall.less (fun S => ?_) (less_xf [] [])
    refine acall_cw (rs := [.cell 2 32]) Tryz.checked.mixed Tryz.func27 Tryz.ntmps27 rfl rfl rfl rfl rfl ?_
    simp -implicitDefEqProofs (disch := omega) only [go_sem]
    refine call_w (specValidTrait_ok t (by omega)) ?_
    simp -implicitDefEqProofs (disch := omega) only [go_sem, hv]
  | true =>
    rw [outX]
    have hb := (validTrait_parts hv).2
    cases ha : t.fAuto with
    | true =>
      cases hs : t.fAssoc with
      | true => exact absurd ⟨ha, hs⟩ hb
      | false => exact specTr_a t hv hsz ha hs
    | false =>
      cases hs : t.fAssoc with
      | true => exact specTr_s t hv hsz ha hs
      | false => exact specTr_n t hv hsz ha hs
end Go.Proofs.YtokcpelkieeddaaGreatDoor

namespace Go.Proofs.YtokcpelkieeddaaGreatDoor
open Go Go.Ab
theorem toStringS_lab (xs : List (List UInt8)) : ∀ n : Nat, xs.length + szRows (xs.map encS) ≤ 1048576 → PCall Tryz.prog 84 [.c (.d (.sl (xs.map encS)))] (.c (.d (labD (.sl (xs.map encS)) n))) := by
  intro n hsz
  obtain ⟨T, hT⟩ : ∃ T, T = labRs (xs.map encS) (n + 1) := ⟨_, rfl⟩
  have hTl : T.length = xs.length := by rw [hT, labRs_length, List.length_map]
  show PCall Tryz.prog 84 [.c (.d (.sl (xs.map encS)))] (.c (.d (.ol n (labRs (xs.map encS) (n + 1))))) 
  rw [← hT]
  intro S
  refine acall_cwL (n) (rs := [.tmp 2]) Tryz.checked.mixed Tryz.func84 Tryz.ntmps84 rfl rfl rfl rfl rfl ?_
  simp -implicitDefEqProofs (disch := omega) only [go_sem]
  (repeat (with_reducible refine And.intro ?_ ?_; focus first | omega | rfl | assumption | exact ⟨_, rfl, rfl⟩ | (simp; omega) | (simp; done)))
  refine loop_at (ι := Nat × List (List D)) Tryz.checked.mixed rfl [0, 3, 4] (fun y => [.c (.d (.sl (xs.map encS))), .c (.msl (0, 1)), .c (.d (.i .i64 y.1))]) (fun y => [.seed n, .mrow 1 y.2] :: S)
    (fun y => y.1 ≤ xs.length ∧ Filled 1 y.1 y.2 T) (fun y => xs.length - y.1) (0, _) rfl rfl ⟨Nat.zero_le _, Filled.start (by simp [hTl]) rfl⟩ ?_
  rintro ⟨i, R⟩ ⟨p1, p2⟩
  simp only at p1 p2
  simp -implicitDefEqProofs (disch := omega) only [go_sem]
  with_reducible refine split2 (fun hb => ?_) (fun hb => ?_) <;> have h := hb <;> (try simp only [wf_preprocess] at h) <;> simp -implicitDefEqProofs (disch := omega) only [go_sem, hb] <;> (repeat (with_reducible refine And.intro ?_ ?_; focus first | omega | rfl | assumption | exact ⟨_, rfl, rfl⟩ | (simp; omega) | (simp; done)))
  · have hi : i < xs.length := by omega
    have hir : i < (xs.map encS).length := by rw [List.length_map]; exact hi
    have hR := p2.1
    rw [hTl] at hR
    have hTi : T[i]? = some (labR (encS xs[i]) (n + 1 + cntRs ((xs.map encS).take i))) := by
      rw [hT, labRs_at hir, List.getElem_map]
    simp only [encS, labR, labD] at hTi
    (repeat (with_reducible refine And.intro ?_ ?_; focus first | omega | rfl | assumption | exact ⟨_, rfl, rfl⟩ | (simp; omega) | (simp; done)))
    refine inv_at (i + 1, _) (by simp only; omega) rfl rfl ⟨by simp only; omega, p2.step hTi rfl⟩
  · have hi : i = xs.length := by omega
    rw [p2.done (by omega)]
end Go.Proofs.YtokcpelkieeddaaGreatDoor

namespace Go.Proofs.YtokcpelkieeddaaGreatDoor
open Go Go.Ab
end Go.Proofs.YtokcpelkieeddaaGreatDoor

namespace Go.Proofs.YtokcpelkieeddaaGreatDoor
open Go Go.Ab
theorem toType_labs : ∀ N : Nat, (∀ x : MType, SizeOf.sizeOf x < N → ∀ n : Nat, x.sz ≤ 1048576 → PCall Tryz.prog 59 [x.v] (.agg ((labR x.enc n).map .d))) ∧
    (∀ xs : List MType, SizeOf.sizeOf xs < N → ∀ n : Nat, xs.length + szRows (xs.map MType.enc) ≤ 1048576 → PCall Tryz.prog 155 [.c (.d (.sl (xs.map MType.enc)))] (.c (.d (labD (.sl (xs.map MType.enc)) n))))
  | 0 => ⟨fun x h => by omega, fun x h => by omega⟩
  | N + 1 => by
    obtain ⟨ihType, ihSType⟩ := toType_labs N
    refine ⟨fun x hn n hsz => ?_, fun xs hn n hsz => ?_⟩
    · intro S
      have lArgs := MType.lt_Args x
      simp only [MType.sz, MType.enc_eq, szRow, szRow_append, D.sz, List.length_map] at hsz
      refine acall_cw (rs := [.cell 2 36]) Tryz.checked.mixed Tryz.func59 Tryz.ntmps59 rfl rfl rfl rfl rfl ?_
      simp only [MType.enc_eq, encS, encI, List.cons_append, List.nil_append, labR, labD, cntR, cntD, List.map_cons, List.map_nil, Nat.add_zero]
      simp -implicitDefEqProofs (disch := omega) only [go_sem]
      refine call_w (ihSType x.fArgs (by omega) (n) (by omega)) ?_
      simp -implicitDefEqProofs (disch := omega) only [go_sem, labD]
      all_goals (first | rfl | (simp only [Nat.add_assoc]; done))
    · obtain ⟨T, hT⟩ : ∃ T, T = labRs (xs.map MType.enc) (n + 1) := ⟨_, rfl⟩
      have hTl : T.length = xs.length := by rw [hT, labRs_length, List.length_map]
      show PCall Tryz.prog 155 [.c (.d (.sl (xs.map MType.enc)))] (.c (.d (.ol n (labRs (xs.map MType.enc) (n + 1))))) 
      rw [← hT]
      intro S
      refine acall_cwL (n) (rs := [.tmp 2]) Tryz.checked.mixed Tryz.func155 Tryz.ntmps155 rfl rfl rfl rfl rfl ?_
      simp -implicitDefEqProofs (disch := omega) only [go_sem]
      (repeat (with_reducible refine And.intro ?_ ?_; focus first | omega | rfl | assumption | exact ⟨_, rfl, rfl⟩ | (simp; omega) | (simp; done)))
      refine loop_at (ι := Nat × List (List D)) Tryz.checked.mixed rfl [0, 3, 4] (fun y => [.c (.d (.sl (xs.map MType.enc))), .c (.msl (0, 1)), .c (.d (.i .i64 y.1))]) (fun y => [.seed n, .mrow 3 y.2] :: S)
        (fun y => y.1 ≤ xs.length ∧ Filled 3 y.1 y.2 T) (fun y => xs.length - y.1) (0, _) rfl rfl ⟨Nat.zero_le _, Filled.start (by simp [hTl]) rfl⟩ ?_
      rintro ⟨i, R⟩ ⟨p1, p2⟩
      simp only at p1 p2
      simp -implicitDefEqProofs (disch := omega) only [go_sem]
      with_reducible refine split2 (fun hb => ?_) (fun hb => ?_) <;> have h := hb <;> (try simp only [wf_preprocess] at h) <;> simp -implicitDefEqProofs (disch := omega) only [go_sem, hb] <;> (repeat (with_reducible refine And.intro ?_ ?_; focus first | omega | rfl | assumption | exact ⟨_, rfl, rfl⟩ | (simp; omega) | (simp; done)))
      · have hi : i < xs.length := by omega
        have hir : i < (xs.map MType.enc).length := by rw [List.length_map]; exact hi
        have hR := p2.1
        rw [hTl] at hR
        have hTi : T[i]? = some (labR (MType.enc xs[i]) (n + 1 + cntRs ((xs.map MType.enc).take i))) := by
          rw [hT, labRs_at hir, List.getElem_map]
        have hx : xs[i].sz ≤ szRows (xs.map MType.enc) := szRows_mem (List.mem_map_of_mem (List.getElem_mem hi))
        (repeat (with_reducible refine And.intro ?_ ?_; focus first | omega | rfl | assumption | exact ⟨_, rfl, rfl⟩ | (simp; omega) | (simp; done)))
        refine call_w (ihType xs[i] (by have := List.sizeOf_lt_of_mem (List.getElem_mem hi); omega) (n + 1 + cntRs ((xs.map MType.enc).take i)) (by omega)) ?_
        obtain ⟨row, hrow⟩ : ∃ row, row = labR (MType.enc xs[i]) (n + 1 + cntRs ((xs.map MType.enc).take i)) := ⟨_, rfl⟩
        have hrl : row.length = 3 := by rw [hrow, labR_length, MType.enc_length]
        rw [← hrow] at hTi ⊢
        simp -implicitDefEqProofs (disch := omega) only [go_sem, hrl, mapM_toD]
        (repeat (with_reducible refine And.intro ?_ ?_; focus first | omega | rfl | assumption | exact ⟨_, rfl, rfl⟩ | (simp; omega) | (simp; done)))
        refine inv_at (i + 1, _) (by simp only; omega) rfl rfl ⟨by simp only; omega, p2.step hTi hrl⟩
      · have hi : i = xs.length := by omega
        rw [p2.done (by omega)]
theorem toType_lab (x : MType) : ∀ n : Nat, x.sz ≤ 1048576 → PCall Tryz.prog 59 [x.v] (.agg ((labR x.enc n).map .d)) := (toType_labs _).1 x (Nat.lt_succ_self _)
theorem toTypeS_lab (xs : List MType) : ∀ n : Nat, xs.length + szRows (xs.map MType.enc) ≤ 1048576 → PCall Tryz.prog 155 [.c (.d (.sl (xs.map MType.enc)))] (.c (.d (labD (.sl (xs.map MType.enc)) n))) := (toType_labs _).2 xs (Nat.lt_succ_self _)
end Go.Proofs.YtokcpelkieeddaaGreatDoor

namespace Go.Proofs.YtokcpelkieeddaaGreatDoor
open Go Go.Ab
end Go.Proofs.YtokcpelkieeddaaGreatDoor

namespace Go.Proofs.YtokcpelkieeddaaGreatDoor
open Go Go.Ab
end Go.Proofs.YtokcpelkieeddaaGreatDoor

namespace Go.Proofs.YtokcpelkieeddaaGreatDoor
open Go Go.Ab
theorem toExpr_labs : ∀ N : Nat, (∀ x : MExpr, SizeOf.sizeOf x < N → ∀ n : Nat, x.sz ≤ 1048576 → PCall Tryz.prog 13 [x.v] (.agg ((labR x.enc n).map .d))) ∧
    (∀ xs : List MExpr, SizeOf.sizeOf xs < N → ∀ n : Nat, xs.length + szRows (xs.map MExpr.enc) ≤ 1048576 → PCall Tryz.prog 60 [.c (.d (.sl (xs.map MExpr.enc)))] (.c (.d (labD (.sl (xs.map MExpr.enc)) n)))) ∧
    (∀ x : MArm, SizeOf.sizeOf x < N → ∀ n : Nat, x.sz ≤ 1048576 → PCall Tryz.prog 156 [x.v] (.agg ((labR x.enc n).map .d))) ∧
    (∀ xs : List MArm, SizeOf.sizeOf xs < N → ∀ n : Nat, xs.length + szRows (xs.map MArm.enc) ≤ 1048576 → PCall Tryz.prog 61 [.c (.d (.sl (xs.map MArm.enc)))] (.c (.d (labD (.sl (xs.map MArm.enc)) n))))
  | 0 => ⟨fun x h => by omega, fun x h => by omega, fun x h => by omega, fun x h => by omega⟩
  | N + 1 => by
    obtain ⟨ihExpr, ihSExpr, ihArm, ihSArm⟩ := toExpr_labs N
    refine ⟨fun x hn n hsz => ?_, fun xs hn n hsz => ?_, fun x hn n hsz => ?_, fun xs hn n hsz => ?_⟩
    · intro S
      have lArgs := MExpr.lt_Args x
      have lArms := MExpr.lt_Arms x
      simp only [MExpr.sz, MExpr.enc_eq, szRow, szRow_append, D.sz, List.length_map, MType.sz_def] at hsz
      refine acall_cw (rs := [.cell 2 40]) Tryz.checked.mixed Tryz.func13 Tryz.ntmps13 rfl rfl rfl rfl rfl ?_
      simp only [MExpr.enc_eq, MType.enc_eq, encS, encI, List.cons_append, List.nil_append, labR, labD, cntR, cntD, List.map_cons, List.map_nil, Nat.add_zero]
      simp -implicitDefEqProofs (disch := omega) only [go_sem]
      refine call_w (toType_lab x.fType (n) (by omega)) ?_
      simp -implicitDefEqProofs (disch := omega) only [go_sem, MType.enc_eq, encS, encI, List.cons_append, List.nil_append, labR, labD, cntR, cntD, List.map_cons, List.map_nil, Nat.add_zero]
      refine call_w (ihSExpr x.fArgs (by omega) (n + (cntRs (x.fType.fArgs.map MType.enc) + 1)) (by omega)) ?_
      simp -implicitDefEqProofs (disch := omega) only [go_sem, labD]
      refine call_w (ihSArm x.fArms (by omega) (n + (cntRs (x.fType.fArgs.map MType.enc) + 1) + (cntRs (x.fArgs.map MExpr.enc) + 1)) (by omega)) ?_
      simp -implicitDefEqProofs (disch := omega) only [go_sem, labD]
      all_goals (first | rfl | (simp only [Nat.add_assoc]; done))
    · obtain ⟨T, hT⟩ : ∃ T, T = labRs (xs.map MExpr.enc) (n + 1) := ⟨_, rfl⟩
      have hTl : T.length = xs.length := by rw [hT, labRs_length, List.length_map]
      show PCall Tryz.prog 60 [.c (.d (.sl (xs.map MExpr.enc)))] (.c (.d (.ol n (labRs (xs.map MExpr.enc) (n + 1))))) 
      rw [← hT]
      intro S
      refine acall_cwL (n) (rs := [.tmp 2]) Tryz.checked.mixed Tryz.func60 Tryz.ntmps60 rfl rfl rfl rfl rfl ?_
      simp -implicitDefEqProofs (disch := omega) only [go_sem]
      (repeat (with_reducible refine And.intro ?_ ?_; focus first | omega | rfl | assumption | exact ⟨_, rfl, rfl⟩ | (simp; omega) | (simp; done)))
      refine loop_at (ι := Nat × List (List D)) Tryz.checked.mixed rfl [0, 3, 4] (fun y => [.c (.d (.sl (xs.map MExpr.enc))), .c (.msl (0, 1)), .c (.d (.i .i64 y.1))]) (fun y => [.seed n, .mrow 9 y.2] :: S)
        (fun y => y.1 ≤ xs.length ∧ Filled 9 y.1 y.2 T) (fun y => xs.length - y.1) (0, _) rfl rfl ⟨Nat.zero_le _, Filled.start (by simp [hTl]) rfl⟩ ?_
      rintro ⟨i, R⟩ ⟨p1, p2⟩
      simp only at p1 p2
      simp -implicitDefEqProofs (disch := omega) only [go_sem]
      with_reducible refine split2 (fun hb => ?_) (fun hb => ?_) <;> have h := hb <;> (try simp only [wf_preprocess] at h) <;> simp -implicitDefEqProofs (disch := omega) only [go_sem, hb] <;> (repeat (with_reducible refine And.intro ?_ ?_; focus first | omega | rfl | assumption | exact ⟨_, rfl, rfl⟩ | (simp; omega) | (simp; done)))
      · have hi : i < xs.length := by omega
        have hir : i < (xs.map MExpr.enc).length := by rw [List.length_map]; exact hi
        have hR := p2.1
        rw [hTl] at hR
        have hTi : T[i]? = some (labR (MExpr.enc xs[i]) (n + 1 + cntRs ((xs.map MExpr.enc).take i))) := by
          rw [hT, labRs_at hir, List.getElem_map]
        have hx : xs[i].sz ≤ szRows (xs.map MExpr.enc) := szRows_mem (List.mem_map_of_mem (List.getElem_mem hi))
        (repeat (with_reducible refine And.intro ?_ ?_; focus first | omega | rfl | assumption | exact ⟨_, rfl, rfl⟩ | (simp; omega) | (simp; done)))
        refine call_w (ihExpr xs[i] (by have := List.sizeOf_lt_of_mem (List.getElem_mem hi); omega) (n + 1 + cntRs ((xs.map MExpr.enc).take i)) (by omega)) ?_
        obtain ⟨row, hrow⟩ : ∃ row, row = labR (MExpr.enc xs[i]) (n + 1 + cntRs ((xs.map MExpr.enc).take i)) := ⟨_, rfl⟩
        have hrl : row.length = 9 := by rw [hrow, labR_length, MExpr.enc_length]
        rw [← hrow] at hTi ⊢
        simp -implicitDefEqProofs (disch := omega) only [go_sem, hrl, mapM_toD]
        (repeat (with_reducible refine And.intro ?_ ?_; focus first | omega | rfl | assumption | exact ⟨_, rfl, rfl⟩ | (simp; omega) | (simp; done)))
        refine inv_at (i + 1, _) (by simp only; omega) rfl rfl ⟨by simp only; omega, p2.step hTi hrl⟩
      · have hi : i = xs.length := by omega
        rw [p2.done (by omega)]
    · intro S
      have lBody := MArm.lt_Body x
      simp only [MArm.sz, MArm.enc_eq, szRow, szRow_append, D.sz, List.length_map, MExpr.sz_def] at hsz
      refine acall_cw (rs := [.cell 2 198]) Tryz.checked.mixed Tryz.func156 Tryz.ntmps156 rfl rfl rfl rfl rfl ?_
      simp only [MArm.enc_eq, MExpr.enc_eq, MType.enc_eq, encS, encI, List.cons_append, List.nil_append, labR, labD, cntR, cntD, List.map_cons, List.map_nil, Nat.add_zero]
      simp -implicitDefEqProofs (disch := omega) only [go_sem]
      refine call_w (toStringS_lab x.fVars (n) (by omega)) ?_
      simp -implicitDefEqProofs (disch := omega) only [go_sem, labD]
      refine call_w (ihExpr x.fBody (by omega) (n + (cntRs (x.fVars.map encS) + 1)) (by omega)) ?_
      simp -implicitDefEqProofs (disch := omega) only [go_sem, MExpr.enc_eq, MType.enc_eq, encS, encI, List.cons_append, List.nil_append, labR, labD, cntR, cntD, List.map_cons, List.map_nil, Nat.add_zero]
      all_goals (first | rfl | (simp only [Nat.add_assoc]; done))
    · obtain ⟨T, hT⟩ : ∃ T, T = labRs (xs.map MArm.enc) (n + 1) := ⟨_, rfl⟩
      have hTl : T.length = xs.length := by rw [hT, labRs_length, List.length_map]
      show PCall Tryz.prog 61 [.c (.d (.sl (xs.map MArm.enc)))] (.c (.d (.ol n (labRs (xs.map MArm.enc) (n + 1))))) 
      rw [← hT]
      intro S
      refine acall_cwL (n) (rs := [.tmp 2]) Tryz.checked.mixed Tryz.func61 Tryz.ntmps61 rfl rfl rfl rfl rfl ?_
      simp -implicitDefEqProofs (disch := omega) only [go_sem]
      (repeat (with_reducible refine And.intro ?_ ?_; focus first | omega | rfl | assumption | exact ⟨_, rfl, rfl⟩ | (simp; omega) | (simp; done)))
      refine loop_at (ι := Nat × List (List D)) Tryz.checked.mixed rfl [0, 3, 4] (fun y => [.c (.d (.sl (xs.map MArm.enc))), .c (.msl (0, 1)), .c (.d (.i .i64 y.1))]) (fun y => [.seed n, .mrow 11 y.2] :: S)
        (fun y => y.1 ≤ xs.length ∧ Filled 11 y.1 y.2 T) (fun y => xs.length - y.1) (0, _) rfl rfl ⟨Nat.zero_le _, Filled.start (by simp [hTl]) rfl⟩ ?_
      rintro ⟨i, R⟩ ⟨p1, p2⟩
      simp only at p1 p2
      simp -implicitDefEqProofs (disch := omega) only [go_sem]
      with_reducible refine split2 (fun hb => ?_) (fun hb => ?_) <;> have h := hb <;> (try simp only [wf_preprocess] at h) <;> simp -implicitDefEqProofs (disch := omega) only [go_sem, hb] <;> (repeat (with_reducible refine And.intro ?_ ?_; focus first | omega | rfl | assumption | exact ⟨_, rfl, rfl⟩ | (simp; omega) | (simp; done)))
      · have hi : i < xs.length := by omega
        have hir : i < (xs.map MArm.enc).length := by rw [List.length_map]; exact hi
        have hR := p2.1
        rw [hTl] at hR
        have hTi : T[i]? = some (labR (MArm.enc xs[i]) (n + 1 + cntRs ((xs.map MArm.enc).take i))) := by
          rw [hT, labRs_at hir, List.getElem_map]
        have hx : xs[i].sz ≤ szRows (xs.map MArm.enc) := szRows_mem (List.mem_map_of_mem (List.getElem_mem hi))
        (repeat (with_reducible refine And.intro ?_ ?_; focus first | omega | rfl | assumption | exact ⟨_, rfl, rfl⟩ | (simp; omega) | (simp; done)))
        refine call_w (ihArm xs[i] (by have := List.sizeOf_lt_of_mem (List.getElem_mem hi); omega) (n + 1 + cntRs ((xs.map MArm.enc).take i)) (by omega)) ?_
        obtain ⟨row, hrow⟩ : ∃ row, row = labR (MArm.enc xs[i]) (n + 1 + cntRs ((xs.map MArm.enc).take i)) := ⟨_, rfl⟩
        have hrl : row.length = 11 := by rw [hrow, labR_length, MArm.enc_length]
        rw [← hrow] at hTi ⊢
        simp -implicitDefEqProofs (disch := omega) only [go_sem, hrl, mapM_toD]
        (repeat (with_reducible refine And.intro ?_ ?_; focus first | omega | rfl | assumption | exact ⟨_, rfl, rfl⟩ | (simp; omega) | (simp; done)))
        refine inv_at (i + 1, _) (by simp only; omega) rfl rfl ⟨by simp only; omega, p2.step hTi hrl⟩
      · have hi : i = xs.length := by omega
        rw [p2.done (by omega)]
theorem toExpr_lab (x : MExpr) : ∀ n : Nat, x.sz ≤ 1048576 → PCall Tryz.prog 13 [x.v] (.agg ((labR x.enc n).map .d)) := (toExpr_labs _).1 x (Nat.lt_succ_self _)
end Go.Proofs.YtokcpelkieeddaaGreatDoor

namespace Go.Proofs.YtokcpelkieeddaaGreatDoor
open Go Go.Ab
end Go.Proofs.YtokcpelkieeddaaGreatDoor

namespace Go.Proofs.YtokcpelkieeddaaGreatDoor
open Go Go.Ab
theorem toSignature_lab (x : MSignature) : ∀ n : Nat, x.sz ≤ 1048576 → PCall Tryz.prog 189 [x.v] (.agg ((labR x.enc n).map .d)) := by
  intro n hsz S
  simp only [MSignature.sz, MSignature.enc_eq, szRow, szRow_append, D.sz, List.length_map, MExpr.sz_def, MType.sz_def] at hsz
  refine acall_cw (rs := [.cell 2 154]) Tryz.checked.mixed Tryz.func189 Tryz.ntmps189 rfl rfl rfl rfl rfl ?_
  simp only [MExpr.enc_eq, MSignature.enc_eq, MType.enc_eq, encS, encI, List.cons_append, List.nil_append, labR, labD, cntR, cntD, List.map_cons, List.map_nil, Nat.add_zero]
  simp -implicitDefEqProofs (disch := omega) only [go_sem]
  refine call_w (toTypeS_lab x.fParams (n) (by omega)) ?_
  simp -implicitDefEqProofs (disch := omega) only [go_sem, labD]
  refine call_w (toType_lab x.fResult (n + (cntRs (x.fParams.map MType.enc) + 1)) (by omega)) ?_
  simp -implicitDefEqProofs (disch := omega) only [go_sem, MType.enc_eq, encS, encI, List.cons_append, List.nil_append, labR, labD, cntR, cntD, List.map_cons, List.map_nil, Nat.add_zero]
  refine call_w (toStringS_lab x.fVars (n + (cntRs (x.fParams.map MType.enc) + 1) + (cntRs (x.fResult.fArgs.map MType.enc) + 1)) (by omega)) ?_
  simp -implicitDefEqProofs (disch := omega) only [go_sem, labD]
  refine call_w (toExpr_lab x.fBody (n + (cntRs (x.fParams.map MType.enc) + 1) + (cntRs (x.fResult.fArgs.map MType.enc) + 1) + (cntRs (x.fVars.map encS) + 1)) (by omega)) ?_
  simp -implicitDefEqProofs (disch := omega) only [go_sem, MExpr.enc_eq, MType.enc_eq, encS, encI, List.cons_append, List.nil_append, labR, labD, cntR, cntD, List.map_cons, List.map_nil, Nat.add_zero]
  all_goals (first | rfl | (simp only [Nat.add_assoc]; done))
theorem toSignatureS_lab (xs : List MSignature) : ∀ n : Nat, xs.length + szRows (xs.map MSignature.enc) ≤ 1048576 → PCall Tryz.prog 98 [.c (.d (.sl (xs.map MSignature.enc)))] (.c (.d (labD (.sl (xs.map MSignature.enc)) n))) := by
  intro n hsz
  obtain ⟨T, hT⟩ : ∃ T, T = labRs (xs.map MSignature.enc) (n + 1) := ⟨_, rfl⟩
  have hTl : T.length = xs.length := by rw [hT, labRs_length, List.length_map]
  show PCall Tryz.prog 98 [.c (.d (.sl (xs.map MSignature.enc)))] (.c (.d (.ol n (labRs (xs.map MSignature.enc) (n + 1))))) 
  rw [← hT]
  intro S
  refine acall_cwL (n) (rs := [.tmp 2]) Tryz.checked.mixed Tryz.func98 Tryz.ntmps98 rfl rfl rfl rfl rfl ?_
  simp -implicitDefEqProofs (disch := omega) only [go_sem]
  (repeat (with_reducible refine And.intro ?_ ?_; focus first | omega | rfl | assumption | exact ⟨_, rfl, rfl⟩ | (simp; omega) | (simp; done)))
  refine loop_at (ι := Nat × List (List D)) Tryz.checked.mixed rfl [0, 3, 4] (fun y => [.c (.d (.sl (xs.map MSignature.enc))), .c (.msl (0, 1)), .c (.d (.i .i64 y.1))]) (fun y => [.seed n, .mrow 16 y.2] :: S)
    (fun y => y.1 ≤ xs.length ∧ Filled 16 y.1 y.2 T) (fun y => xs.length - y.1) (0, _) rfl rfl ⟨Nat.zero_le _, Filled.start (by simp [hTl]) rfl⟩ ?_
  rintro ⟨i, R⟩ ⟨p1, p2⟩
  simp only at p1 p2
  simp -implicitDefEqProofs (disch := omega) only [go_sem]
  with_reducible refine split2 (fun hb => ?_) (fun hb => ?_) <;> have h := hb <;> (try simp only [wf_preprocess] at h) <;> simp -implicitDefEqProofs (disch := omega) only [go_sem, hb] <;> (repeat (with_reducible refine And.intro ?_ ?_; focus first | omega | rfl | assumption | exact ⟨_, rfl, rfl⟩ | (simp; omega) | (simp; done)))
  · have hi : i < xs.length := by omega
    have hir : i < (xs.map MSignature.enc).length := by rw [List.length_map]; exact hi
    have hR := p2.1
    rw [hTl] at hR
    have hTi : T[i]? = some (labR (MSignature.enc xs[i]) (n + 1 + cntRs ((xs.map MSignature.enc).take i))) := by
      rw [hT, labRs_at hir, List.getElem_map]
    have hx : xs[i].sz ≤ szRows (xs.map MSignature.enc) := szRows_mem (List.mem_map_of_mem (List.getElem_mem hi))
    (repeat (with_reducible refine And.intro ?_ ?_; focus first | omega | rfl | assumption | exact ⟨_, rfl, rfl⟩ | (simp; omega) | (simp; done)))
    refine call_w (toSignature_lab xs[i] (n + 1 + cntRs ((xs.map MSignature.enc).take i)) (by omega)) ?_
    obtain ⟨row, hrow⟩ : ∃ row, row = labR (MSignature.enc xs[i]) (n + 1 + cntRs ((xs.map MSignature.enc).take i)) := ⟨_, rfl⟩
    have hrl : row.length = 16 := by rw [hrow, labR_length, MSignature.enc_length]
    rw [← hrow] at hTi ⊢
    simp -implicitDefEqProofs (disch := omega) only [go_sem, hrl, mapM_toD]
    (repeat (with_reducible refine And.intro ?_ ?_; focus first | omega | rfl | assumption | exact ⟨_, rfl, rfl⟩ | (simp; omega) | (simp; done)))
    refine inv_at (i + 1, _) (by simp only; omega) rfl rfl ⟨by simp only; omega, p2.step hTi hrl⟩
  · have hi : i = xs.length := by omega
    rw [p2.done (by omega)]
end Go.Proofs.YtokcpelkieeddaaGreatDoor

namespace Go.Proofs.YtokcpelkieeddaaGreatDoor
open Go Go.Ab
theorem toTrait_lab (x : MTrait) : ∀ n : Nat, x.sz ≤ 1048576 → PCall Tryz.prog 28 [x.v] (.agg ((labR x.enc n).map .d)) := by
  intro n hsz S
  simp only [MTrait.sz, MTrait.enc_eq, szRow, szRow_append, D.sz, List.length_map] at hsz
  refine acall_cw (rs := [.cell 2 69]) Tryz.checked.mixed Tryz.func28 Tryz.ntmps28 rfl rfl rfl rfl rfl ?_
  simp only [MTrait.enc_eq, encS, encI, List.cons_append, List.nil_append, labR, labD, cntR, cntD, List.map_cons, List.map_nil, Nat.add_zero]
  simp -implicitDefEqProofs (disch := omega) only [go_sem]
  refine call_w (toStringS_lab x.fSupertraits (n) (by omega)) ?_
  simp -implicitDefEqProofs (disch := omega) only [go_sem, labD]
  refine call_w (toSignatureS_lab x.fSignatures (n + (cntRs (x.fSupertraits.map encS) + 1)) (by omega)) ?_
  simp -implicitDefEqProofs (disch := omega) only [go_sem, labD]
  all_goals (first | rfl | (simp only [Nat.add_assoc]; done))
end Go.Proofs.YtokcpelkieeddaaGreatDoor

namespace Go.Proofs.YtokcpelkieeddaaGreatDoor
open Go Go.Ab
theorem markStringS_ok (xs : List (List UInt8)) : ∀ (k : Int) (l j r : Nat) (p : List (Nat × Nat)) (S : Store) (rs : List (List (List D))), getO S (l, j) = some (.xf rs) → atR rs r p = some (xs.map encS) → 0 ≤ k ∧ k + mcRs (xs.map encS) ≤ 4611686018427387904 → ACall Tryz.prog 92 [.c (.xp (l, j) r p), .c (.d (.i .i64 k))] S (fun res S' => res = .c (.d (.i .i64 (k + mcRs (xs.map encS)))) ∧ S' = setO S (l, j) (.xf (updR rs r p (mkRs (xs.map encS) k)))) := by
  intro k l j r p S rs hS hp hk
  have hlen := len_mc (f := encS) (fun x => by simp only [encS, List.cons_append, List.nil_append, mcR, mcD]; omega) xs
  obtain ⟨rows, hr⟩ : ∃ rows, rows = xs.map encS := ⟨_, rfl⟩
  have hl : rows.length = xs.length := by rw [hr, List.length_map]
  rw [← hr] at hp hk hlen ⊢
  have ht : ∀ x : Ab.Obj, getO (setO S (l, j) x) (l, j) = some x := fun x => getO_setO_eq _ _ _ _ hS
  have hA : ∀ new, atR (updR rs r p new) r p = some new := fun new => atR_updR hp
  have hU : ∀ a b, updR (updR rs r p a) r p b = updR rs r p b := fun a b => updR_updR hp
  refine acall_cw (rs := [.tmp 4]) Tryz.checked.mixed Tryz.func92 Tryz.ntmps92 rfl rfl rfl rfl rfl ?_
  simp -implicitDefEqProofs (disch := omega) only [go_sem]
  refine loop_at (ι := Nat) Tryz.checked.mixed rfl [0, 1, 5] (fun i => [.c (.xp (1 + l, j) r p), .c (.d (.i .i64 (k + mcRs (rows.take i)))), .c (.d (.i .i64 i))])
    (fun i => [] :: setO S (l, j) (.xf (updR rs r p (mkTo rows k i)))) (fun i => i ≤ xs.length) (fun i => xs.length - i) 0 ?_ ?_ (Nat.zero_le _) ?_
  · have z0 : k + ((mcRs (rows.take 0) : Nat) : Int) = k := by simp [mcRs]
    rw [z0]
    rfl
  · rw [mkTo_zero, updR_same hp, setO_self _ _ hS]
  intro i hi
  simp -implicitDefEqProofs (disch := omega) only [go_sem, ht, hA, mkTo_length, hl]
  with_reducible refine split2 (fun hb => ?_) (fun hb => ?_) <;> have h := hb <;> try simp only [wf_preprocess] at h
  · have hi : i < xs.length := by omega
    have hir : i < rows.length := by omega
    obtain ⟨x, hx⟩ : ∃ x, x = xs[i] := ⟨_, rfl⟩
    have e1 : rows[i] = [.s x] := by
      simp only [hr, List.getElem_map, ← hx]
      simp only [encS, List.cons_append, List.nil_append]
    have hm := mcRs_take hir
    have hle := mcRs_le (rows := rows) (i := i + 1)
    rw [hm, e1] at hle
    rw [e1] at hm
    simp only [mcR, mcD] at hle hm
    have hK : k + ((mcRs (rows.take (i + 1)) : Nat) : Int) = k + ((mcRs (rows.take i) : Nat) : Int) + 1 := by rw [hm]; omega
    have e2 := mkTo_at (k := k) hir
    rw [e1] at e2
    have hC : ∀ row o, cellAt (mkAt rows k i row) i o = row[o]? := fun row o => mkAt_cell hir
    have hG : ∀ row, (mkAt rows k i row).getD i [] = row := fun row => mkAt_get hir
    simp -implicitDefEqProofs (disch := omega) only [go_sem, hb, ht, hA, hU, e2, hC, hG, mkAt_set, mkAt_length, hl, setO_twice, isSD]
    (repeat (with_reducible refine And.intro ?_ ?_; focus first | omega | rfl | assumption | exact ⟨_, rfl, rfl⟩ | (simp; omega) | (simp; done)))
    refine call_w (markText_ok (k + ((mcRs (rows.take i) : Nat) : Int)) (by omega)) ?_
    simp -implicitDefEqProofs (disch := omega) only [go_sem, hb, ht, hA, hU, e2, hC, hG, mkAt_set, mkAt_length, hl, setO_twice, isSD]
    (repeat (with_reducible refine And.intro ?_ ?_; focus first | omega | rfl | assumption | exact ⟨_, rfl, rfl⟩ | (simp; omega) | (simp; done)))
    refine inv_at (i + 1) (by omega) (by rw [hK]; rfl) ?_ (by omega)
    have h3 := mkAt_to (k := k) hir
    rw [e1] at h3
    simp only [mkR, mkD] at h3
    rw [← h3]
    all_goals rfl
  · simp -implicitDefEqProofs (disch := omega) only [go_sem, hb]
    have hi : i = xs.length := by omega
    rw [mkTo_all (by omega), List.take_of_length_le (by omega)]
    all_goals (first | rfl | exact ⟨rfl, rfl⟩)
end Go.Proofs.YtokcpelkieeddaaGreatDoor

namespace Go.Proofs.YtokcpelkieeddaaGreatDoor
open Go Go.Ab
end Go.Proofs.YtokcpelkieeddaaGreatDoor

namespace Go.Proofs.YtokcpelkieeddaaGreatDoor
open Go Go.Ab
theorem markType_all : ∀ n : Nat, (∀ xs : List MType, SizeOf.sizeOf xs < n → ∀ (k : Int) (l j r : Nat) (p : List (Nat × Nat)) (S : Store) (rs : List (List (List D))), getO S (l, j) = some (.xf rs) → atR rs r p = some (xs.map MType.enc) → 0 ≤ k ∧ k + mcRs (xs.map MType.enc) ≤ 4611686018427387904 → ACall Tryz.prog 165 [.c (.xp (l, j) r p), .c (.d (.i .i64 k))] S (fun res S' => res = .c (.d (.i .i64 (k + mcRs (xs.map MType.enc)))) ∧ S' = setO S (l, j) (.xf (updR rs r p (mkRs (xs.map MType.enc) k)))))
  | 0 => fun xs h => by omega
  | n + 1 => by
    have ihType := markType_all n
    refine fun xs hn k l j r p S rs hS hp hk => ?_
    · have hlen := len_mc (f := MType.enc) (fun x => by simp only [MType.enc_eq, encS, encI, List.cons_append, List.nil_append, mcR, mcD]; omega) xs
      obtain ⟨rows, hr⟩ : ∃ rows, rows = xs.map MType.enc := ⟨_, rfl⟩
      have hl : rows.length = xs.length := by rw [hr, List.length_map]
      rw [← hr] at hp hk hlen ⊢
      have ht : ∀ x : Ab.Obj, getO (setO S (l, j) x) (l, j) = some x := fun x => getO_setO_eq _ _ _ _ hS
      have hA : ∀ new, atR (updR rs r p new) r p = some new := fun new => atR_updR hp
      have hU : ∀ a b, updR (updR rs r p a) r p b = updR rs r p b := fun a b => updR_updR hp
      refine acall_cw (rs := [.tmp 4]) Tryz.checked.mixed Tryz.func165 Tryz.ntmps165 rfl rfl rfl rfl rfl ?_
      simp -implicitDefEqProofs (disch := omega) only [go_sem]
      refine loop_at (ι := Nat) Tryz.checked.mixed rfl [0, 1, 5] (fun i => [.c (.xp (1 + l, j) r p), .c (.d (.i .i64 (k + mcRs (rows.take i)))), .c (.d (.i .i64 i))])
        (fun i => [] :: setO S (l, j) (.xf (updR rs r p (mkTo rows k i)))) (fun i => i ≤ xs.length) (fun i => xs.length - i) 0 ?_ ?_ (Nat.zero_le _) ?_
      · have z0 : k + ((mcRs (rows.take 0) : Nat) : Int) = k := by simp [mcRs]
        rw [z0]
        rfl
      · rw [mkTo_zero, updR_same hp, setO_self _ _ hS]
      intro i hi
      simp -implicitDefEqProofs (disch := omega) only [go_sem, ht, hA, mkTo_length, hl]
      with_reducible refine split2 (fun hb => ?_) (fun hb => ?_) <;> have h := hb <;> try simp only [wf_preprocess] at h
      · have hi : i < xs.length := by omega
        have hir : i < rows.length := by omega
        obtain ⟨x, hx⟩ : ∃ x, x = xs[i] := ⟨_, rfl⟩
        have e1 : rows[i] = [.i .i64 x.fKind, .s x.fName, .sl (x.fArgs.map MType.enc)] := by
          simp only [hr, List.getElem_map, ← hx]
          simp only [MType.enc_eq, encS, encI, List.cons_append, List.nil_append]
        have hm := mcRs_take hir
        have hle := mcRs_le (rows := rows) (i := i + 1)
        rw [hm, e1] at hle
        rw [e1] at hm
        simp only [mcR, mcD] at hle hm
        have hK : k + ((mcRs (rows.take (i + 1)) : Nat) : Int) = k + ((mcRs (rows.take i) : Nat) : Int) + 1 + 1 + ((mcRs (x.fArgs.map MType.enc) : Nat) : Int) := by rw [hm]; omega
        have e2 := mkTo_at (k := k) hir
        rw [e1] at e2
        have hC : ∀ row o, cellAt (mkAt rows k i row) i o = row[o]? := fun row o => mkAt_cell hir
        have hG : ∀ row, (mkAt rows k i row).getD i [] = row := fun row => mkAt_get hir
        simp -implicitDefEqProofs (disch := omega) only [go_sem, hb, ht, hA, hU, e2, hC, hG, mkAt_set, mkAt_length, hl, setO_twice, isSD]
        (repeat (with_reducible refine And.intro ?_ ?_; focus first | omega | rfl | assumption | exact ⟨_, rfl, rfl⟩ | (simp; omega) | (simp; done)))
        refine call_w (markText_ok (k + ((mcRs (rows.take i) : Nat) : Int) + 1) (by omega)) ?_
        simp -implicitDefEqProofs (disch := omega) only [go_sem, hb, ht, hA, hU, e2, hC, hG, mkAt_set, mkAt_length, hl, setO_twice, isSD]
        (repeat (with_reducible refine And.intro ?_ ?_; focus first | omega | rfl | assumption | exact ⟨_, rfl, rfl⟩ | (simp; omega) | (simp; done)))
        refine call_d rfl (sub_mk hS hp hir (by rfl) (fun S' rs' g1 g2 => ihType x.fArgs (by have := List.sizeOf_lt_of_mem (List.getElem_mem hi); rw [← hx] at this; have := MType.lt_Args x; omega) (k + ((mcRs (rows.take i) : Nat) : Int) + 1 + 1) (1 + l) j r _ S' rs' g1 g2 (by omega))) ?_
        simp -implicitDefEqProofs (disch := omega) only [go_sem, hb, ht, hA, hU, e2, hC, hG, mkAt_set, mkAt_length, hl, setO_twice, isSD]
        (repeat (with_reducible refine And.intro ?_ ?_; focus first | omega | rfl | assumption | exact ⟨_, rfl, rfl⟩ | (simp; omega) | (simp; done)))
        refine inv_at (i + 1) (by omega) (by rw [hK]; rfl) ?_ (by omega)
        have h3 := mkAt_to (k := k) hir
        rw [e1] at h3
        simp only [mkR, mkD] at h3
        rw [← h3]
        all_goals rfl
      · simp -implicitDefEqProofs (disch := omega) only [go_sem, hb]
        have hi : i = xs.length := by omega
        rw [mkTo_all (by omega), List.take_of_length_le (by omega)]
        all_goals (first | rfl | exact ⟨rfl, rfl⟩)
theorem markTypeS_ok (xs : List MType) : ∀ (k : Int) (l j r : Nat) (p : List (Nat × Nat)) (S : Store) (rs : List (List (List D))), getO S (l, j) = some (.xf rs) → atR rs r p = some (xs.map MType.enc) → 0 ≤ k ∧ k + mcRs (xs.map MType.enc) ≤ 4611686018427387904 → ACall Tryz.prog 165 [.c (.xp (l, j) r p), .c (.d (.i .i64 k))] S (fun res S' => res = .c (.d (.i .i64 (k + mcRs (xs.map MType.enc)))) ∧ S' = setO S (l, j) (.xf (updR rs r p (mkRs (xs.map MType.enc) k)))) := (markType_all _) xs (Nat.lt_succ_self _)
end Go.Proofs.YtokcpelkieeddaaGreatDoor

namespace Go.Proofs.YtokcpelkieeddaaGreatDoor
open Go Go.Ab
end Go.Proofs.YtokcpelkieeddaaGreatDoor

namespace Go.Proofs.YtokcpelkieeddaaGreatDoor
open Go Go.Ab
end Go.Proofs.YtokcpelkieeddaaGreatDoor

namespace Go.Proofs.YtokcpelkieeddaaGreatDoor
open Go Go.Ab
theorem markExpr_all : ∀ n : Nat, (∀ xs : List MExpr, SizeOf.sizeOf xs < n → ∀ (k : Int) (l j r : Nat) (p : List (Nat × Nat)) (S : Store) (rs : List (List (List D))), getO S (l, j) = some (.xf rs) → atR rs r p = some (xs.map MExpr.enc) → 0 ≤ k ∧ k + mcRs (xs.map MExpr.enc) ≤ 4611686018427387904 → ACall Tryz.prog 70 [.c (.xp (l, j) r p), .c (.d (.i .i64 k))] S (fun res S' => res = .c (.d (.i .i64 (k + mcRs (xs.map MExpr.enc)))) ∧ S' = setO S (l, j) (.xf (updR rs r p (mkRs (xs.map MExpr.enc) k))))) ∧
    (∀ xs : List MArm, SizeOf.sizeOf xs < n → ∀ (k : Int) (l j r : Nat) (p : List (Nat × Nat)) (S : Store) (rs : List (List (List D))), getO S (l, j) = some (.xf rs) → atR rs r p = some (xs.map MArm.enc) → 0 ≤ k ∧ k + mcRs (xs.map MArm.enc) ≤ 4611686018427387904 → ACall Tryz.prog 71 [.c (.xp (l, j) r p), .c (.d (.i .i64 k))] S (fun res S' => res = .c (.d (.i .i64 (k + mcRs (xs.map MArm.enc)))) ∧ S' = setO S (l, j) (.xf (updR rs r p (mkRs (xs.map MArm.enc) k)))))
  | 0 => ⟨fun xs h => by omega, fun xs h => by omega⟩
  | n + 1 => by
    obtain ⟨ihExpr, ihArm⟩ := markExpr_all n
    refine ⟨fun xs hn k l j r p S rs hS hp hk => ?_, fun xs hn k l j r p S rs hS hp hk => ?_⟩
    · have hlen := len_mc (f := MExpr.enc) (fun x => by simp only [MExpr.enc_eq, MType.enc_eq, encS, encI, List.cons_append, List.nil_append, mcR, mcD]; omega) xs
      obtain ⟨rows, hr⟩ : ∃ rows, rows = xs.map MExpr.enc := ⟨_, rfl⟩
      have hl : rows.length = xs.length := by rw [hr, List.length_map]
      rw [← hr] at hp hk hlen ⊢
      have ht : ∀ x : Ab.Obj, getO (setO S (l, j) x) (l, j) = some x := fun x => getO_setO_eq _ _ _ _ hS
      have hA : ∀ new, atR (updR rs r p new) r p = some new := fun new => atR_updR hp
      have hU : ∀ a b, updR (updR rs r p a) r p b = updR rs r p b := fun a b => updR_updR hp
      refine acall_cw (rs := [.tmp 4]) Tryz.checked.mixed Tryz.func70 Tryz.ntmps70 rfl rfl rfl rfl rfl ?_
      simp -implicitDefEqProofs (disch := omega) only [go_sem]
      refine loop_at (ι := Nat) Tryz.checked.mixed rfl [0, 1, 5] (fun i => [.c (.xp (1 + l, j) r p), .c (.d (.i .i64 (k + mcRs (rows.take i)))), .c (.d (.i .i64 i))])
        (fun i => [] :: setO S (l, j) (.xf (updR rs r p (mkTo rows k i)))) (fun i => i ≤ xs.length) (fun i => xs.length - i) 0 ?_ ?_ (Nat.zero_le _) ?_
      · have z0 : k + ((mcRs (rows.take 0) : Nat) : Int) = k := by simp [mcRs]
        rw [z0]
        rfl
      · rw [mkTo_zero, updR_same hp, setO_self _ _ hS]
      intro i hi
      simp -implicitDefEqProofs (disch := omega) only [go_sem, ht, hA, mkTo_length, hl]
      with_reducible refine split2 (fun hb => ?_) (fun hb => ?_) <;> have h := hb <;> try simp only [wf_preprocess] at h
      · have hi : i < xs.length := by omega
        have hir : i < rows.length := by omega
        obtain ⟨x, hx⟩ : ∃ x, x = xs[i] := ⟨_, rfl⟩
        have e1 : rows[i] = [.i .i64 x.fKind, .s x.fTrait, .s x.fName, .i .i64 x.fN, .i .i64 x.fType.fKind, .s x.fType.fName, .sl (x.fType.fArgs.map MType.enc), .sl (x.fArgs.map MExpr.enc), .sl (x.fArms.map MArm.enc)] := by
          simp only [hr, List.getElem_map, ← hx]
          simp only [MExpr.enc_eq, MType.enc_eq, encS, encI, List.cons_append, List.nil_append]
        have hm := mcRs_take hir
        have hle := mcRs_le (rows := rows) (i := i + 1)
        rw [hm, e1] at hle
        rw [e1] at hm
        simp only [mcR, mcD] at hle hm
        have hK : k + ((mcRs (rows.take (i + 1)) : Nat) : Int) = k + ((mcRs (rows.take i) : Nat) : Int) + 1 + 1 + 1 + 1 + 1 + 1 + ((mcRs (x.fType.fArgs.map MType.enc) : Nat) : Int) + ((mcRs (x.fArgs.map MExpr.enc) : Nat) : Int) + ((mcRs (x.fArms.map MArm.enc) : Nat) : Int) := by rw [hm]; omega
        have e2 := mkTo_at (k := k) hir
        rw [e1] at e2
        have hC : ∀ row o, cellAt (mkAt rows k i row) i o = row[o]? := fun row o => mkAt_cell hir
        have hG : ∀ row, (mkAt rows k i row).getD i [] = row := fun row => mkAt_get hir
        simp -implicitDefEqProofs (disch := omega) only [go_sem, hb, ht, hA, hU, e2, hC, hG, mkAt_set, mkAt_length, hl, setO_twice, isSD]
        (repeat (with_reducible refine And.intro ?_ ?_; focus first | omega | rfl | assumption | exact ⟨_, rfl, rfl⟩ | (simp; omega) | (simp; done)))
        refine call_w (markText_ok (k + ((mcRs (rows.take i) : Nat) : Int) + 1) (by omega)) ?_
        simp -implicitDefEqProofs (disch := omega) only [go_sem, hb, ht, hA, hU, e2, hC, hG, mkAt_set, mkAt_length, hl, setO_twice, isSD]
        (repeat (with_reducible refine And.intro ?_ ?_; focus first | omega | rfl | assumption | exact ⟨_, rfl, rfl⟩ | (simp; omega) | (simp; done)))
        refine call_w (markText_ok (k + ((mcRs (rows.take i) : Nat) : Int) + 1 + 1) (by omega)) ?_
        simp -implicitDefEqProofs (disch := omega) only [go_sem, hb, ht, hA, hU, e2, hC, hG, mkAt_set, mkAt_length, hl, setO_twice, isSD]
        (repeat (with_reducible refine And.intro ?_ ?_; focus first | omega | rfl | assumption | exact ⟨_, rfl, rfl⟩ | (simp; omega) | (simp; done)))
        refine call_w (markText_ok (k + ((mcRs (rows.take i) : Nat) : Int) + 1 + 1 + 1 + 1 + 1) (by omega)) ?_
        simp -implicitDefEqProofs (disch := omega) only [go_sem, hb, ht, hA, hU, e2, hC, hG, mkAt_set, mkAt_length, hl, setO_twice, isSD]
        (repeat (with_reducible refine And.intro ?_ ?_; focus first | omega | rfl | assumption | exact ⟨_, rfl, rfl⟩ | (simp; omega) | (simp; done)))
        refine call_d rfl (sub_mk hS hp hir (by rfl) (fun S' rs' g1 g2 => markTypeS_ok x.fType.fArgs (k + ((mcRs (rows.take i) : Nat) : Int) + 1 + 1 + 1 + 1 + 1 + 1) (1 + l) j r _ S' rs' g1 g2 (by omega))) ?_
        simp -implicitDefEqProofs (disch := omega) only [go_sem, hb, ht, hA, hU, e2, hC, hG, mkAt_set, mkAt_length, hl, setO_twice, isSD]
        (repeat (with_reducible refine And.intro ?_ ?_; focus first | omega | rfl | assumption | exact ⟨_, rfl, rfl⟩ | (simp; omega) | (simp; done)))
        refine call_d rfl (sub_mk hS hp hir (by rfl) (fun S' rs' g1 g2 => ihExpr x.fArgs (by have := List.sizeOf_lt_of_mem (List.getElem_mem hi); rw [← hx] at this; have := MExpr.lt_Args x; omega) (k + ((mcRs (rows.take i) : Nat) : Int) + 1 + 1 + 1 + 1 + 1 + 1 + ((mcRs (x.fType.fArgs.map MType.enc) : Nat) : Int)) (1 + l) j r _ S' rs' g1 g2 (by omega))) ?_
        simp -implicitDefEqProofs (disch := omega) only [go_sem, hb, ht, hA, hU, e2, hC, hG, mkAt_set, mkAt_length, hl, setO_twice, isSD]
        (repeat (with_reducible refine And.intro ?_ ?_; focus first | omega | rfl | assumption | exact ⟨_, rfl, rfl⟩ | (simp; omega) | (simp; done)))
        refine call_d rfl (sub_mk hS hp hir (by rfl) (fun S' rs' g1 g2 => ihArm x.fArms (by have := List.sizeOf_lt_of_mem (List.getElem_mem hi); rw [← hx] at this; have := MExpr.lt_Arms x; omega) (k + ((mcRs (rows.take i) : Nat) : Int) + 1 + 1 + 1 + 1 + 1 + 1 + ((mcRs (x.fType.fArgs.map MType.enc) : Nat) : Int) + ((mcRs (x.fArgs.map MExpr.enc) : Nat) : Int)) (1 + l) j r _ S' rs' g1 g2 (by omega))) ?_
        simp -implicitDefEqProofs (disch := omega) only [go_sem, hb, ht, hA, hU, e2, hC, hG, mkAt_set, mkAt_length, hl, setO_twice, isSD]
        (repeat (with_reducible refine And.intro ?_ ?_; focus first | omega | rfl | assumption | exact ⟨_, rfl, rfl⟩ | (simp; omega) | (simp; done)))
        refine inv_at (i + 1) (by omega) (by rw [hK]; rfl) ?_ (by omega)
        have h3 := mkAt_to (k := k) hir
        rw [e1] at h3
        simp only [mkR, mkD] at h3
        rw [← h3]
        all_goals rfl
      · simp -implicitDefEqProofs (disch := omega) only [go_sem, hb]
        have hi : i = xs.length := by omega
        rw [mkTo_all (by omega), List.take_of_length_le (by omega)]
        all_goals (first | rfl | exact ⟨rfl, rfl⟩)
    · have hlen := len_mc (f := MArm.enc) (fun x => by simp only [MArm.enc_eq, MExpr.enc_eq, MType.enc_eq, encS, encI, List.cons_append, List.nil_append, mcR, mcD]; omega) xs
      obtain ⟨rows, hr⟩ : ∃ rows, rows = xs.map MArm.enc := ⟨_, rfl⟩
      have hl : rows.length = xs.length := by rw [hr, List.length_map]
      rw [← hr] at hp hk hlen ⊢
      have ht : ∀ x : Ab.Obj, getO (setO S (l, j) x) (l, j) = some x := fun x => getO_setO_eq _ _ _ _ hS
      have hA : ∀ new, atR (updR rs r p new) r p = some new := fun new => atR_updR hp
      have hU : ∀ a b, updR (updR rs r p a) r p b = updR rs r p b := fun a b => updR_updR hp
      refine acall_cw (rs := [.tmp 4]) Tryz.checked.mixed Tryz.func71 Tryz.ntmps71 rfl rfl rfl rfl rfl ?_
      simp -implicitDefEqProofs (disch := omega) only [go_sem]
      refine loop_at (ι := Nat) Tryz.checked.mixed rfl [0, 1, 5] (fun i => [.c (.xp (1 + l, j) r p), .c (.d (.i .i64 (k + mcRs (rows.take i)))), .c (.d (.i .i64 i))])
        (fun i => [] :: setO S (l, j) (.xf (updR rs r p (mkTo rows k i)))) (fun i => i ≤ xs.length) (fun i => xs.length - i) 0 ?_ ?_ (Nat.zero_le _) ?_
      · have z0 : k + ((mcRs (rows.take 0) : Nat) : Int) = k := by simp [mcRs]
        rw [z0]
        rfl
      · rw [mkTo_zero, updR_same hp, setO_self _ _ hS]
      intro i hi
      simp -implicitDefEqProofs (disch := omega) only [go_sem, ht, hA, mkTo_length, hl]
      with_reducible refine split2 (fun hb => ?_) (fun hb => ?_) <;> have h := hb <;> try simp only [wf_preprocess] at h
      · have hi : i < xs.length := by omega
        have hir : i < rows.length := by omega
        obtain ⟨x, hx⟩ : ∃ x, x = xs[i] := ⟨_, rfl⟩
        have e1 : rows[i] = [.s x.fConstructor, .sl (x.fVars.map encS), .i .i64 x.fBody.fKind, .s x.fBody.fTrait, .s x.fBody.fName, .i .i64 x.fBody.fN, .i .i64 x.fBody.fType.fKind, .s x.fBody.fType.fName, .sl (x.fBody.fType.fArgs.map MType.enc), .sl (x.fBody.fArgs.map MExpr.enc), .sl (x.fBody.fArms.map MArm.enc)] := by
          simp only [hr, List.getElem_map, ← hx]
          simp only [MArm.enc_eq, MExpr.enc_eq, MType.enc_eq, encS, encI, List.cons_append, List.nil_append]
        have hm := mcRs_take hir
        have hle := mcRs_le (rows := rows) (i := i + 1)
        rw [hm, e1] at hle
        rw [e1] at hm
        simp only [mcR, mcD] at hle hm
        have hK : k + ((mcRs (rows.take (i + 1)) : Nat) : Int) = k + ((mcRs (rows.take i) : Nat) : Int) + 1 + ((mcRs (x.fVars.map encS) : Nat) : Int) + 1 + 1 + 1 + 1 + 1 + 1 + ((mcRs (x.fBody.fType.fArgs.map MType.enc) : Nat) : Int) + ((mcRs (x.fBody.fArgs.map MExpr.enc) : Nat) : Int) + ((mcRs (x.fBody.fArms.map MArm.enc) : Nat) : Int) := by rw [hm]; omega
        have e2 := mkTo_at (k := k) hir
        rw [e1] at e2
        have hC : ∀ row o, cellAt (mkAt rows k i row) i o = row[o]? := fun row o => mkAt_cell hir
        have hG : ∀ row, (mkAt rows k i row).getD i [] = row := fun row => mkAt_get hir
        simp -implicitDefEqProofs (disch := omega) only [go_sem, hb, ht, hA, hU, e2, hC, hG, mkAt_set, mkAt_length, hl, setO_twice, isSD]
        (repeat (with_reducible refine And.intro ?_ ?_; focus first | omega | rfl | assumption | exact ⟨_, rfl, rfl⟩ | (simp; omega) | (simp; done)))
        refine call_w (markText_ok (k + ((mcRs (rows.take i) : Nat) : Int)) (by omega)) ?_
        simp -implicitDefEqProofs (disch := omega) only [go_sem, hb, ht, hA, hU, e2, hC, hG, mkAt_set, mkAt_length, hl, setO_twice, isSD]
        (repeat (with_reducible refine And.intro ?_ ?_; focus first | omega | rfl | assumption | exact ⟨_, rfl, rfl⟩ | (simp; omega) | (simp; done)))
        refine call_d rfl (sub_mk hS hp hir (by rfl) (fun S' rs' g1 g2 => markStringS_ok x.fVars (k + ((mcRs (rows.take i) : Nat) : Int) + 1) (1 + l) j r _ S' rs' g1 g2 (by omega))) ?_
        simp -implicitDefEqProofs (disch := omega) only [go_sem, hb, ht, hA, hU, e2, hC, hG, mkAt_set, mkAt_length, hl, setO_twice, isSD]
        (repeat (with_reducible refine And.intro ?_ ?_; focus first | omega | rfl | assumption | exact ⟨_, rfl, rfl⟩ | (simp; omega) | (simp; done)))
        refine call_w (markText_ok (k + ((mcRs (rows.take i) : Nat) : Int) + 1 + ((mcRs (x.fVars.map encS) : Nat) : Int) + 1) (by omega)) ?_
        simp -implicitDefEqProofs (disch := omega) only [go_sem, hb, ht, hA, hU, e2, hC, hG, mkAt_set, mkAt_length, hl, setO_twice, isSD]
        (repeat (with_reducible refine And.intro ?_ ?_; focus first | omega | rfl | assumption | exact ⟨_, rfl, rfl⟩ | (simp; omega) | (simp; done)))
        refine call_w (markText_ok (k + ((mcRs (rows.take i) : Nat) : Int) + 1 + ((mcRs (x.fVars.map encS) : Nat) : Int) + 1 + 1) (by omega)) ?_
        simp -implicitDefEqProofs (disch := omega) only [go_sem, hb, ht, hA, hU, e2, hC, hG, mkAt_set, mkAt_length, hl, setO_twice, isSD]
        (repeat (with_reducible refine And.intro ?_ ?_; focus first | omega | rfl | assumption | exact ⟨_, rfl, rfl⟩ | (simp; omega) | (simp; done)))
        refine call_w (markText_ok (k + ((mcRs (rows.take i) : Nat) : Int) + 1 + ((mcRs (x.fVars.map encS) : Nat) : Int) + 1 + 1 + 1 + 1 + 1) (by omega)) ?_
        simp -implicitDefEqProofs (disch := omega) only [go_sem, hb, ht, hA, hU, e2, hC, hG, mkAt_set, mkAt_length, hl, setO_twice, isSD]
        (repeat (with_reducible refine And.intro ?_ ?_; focus first | omega | rfl | assumption | exact ⟨_, rfl, rfl⟩ | (simp; omega) | (simp; done)))
        refine call_d rfl (sub_mk hS hp hir (by rfl) (fun S' rs' g1 g2 => markTypeS_ok x.fBody.fType.fArgs (k + ((mcRs (rows.take i) : Nat) : Int) + 1 + ((mcRs (x.fVars.map encS) : Nat) : Int) + 1 + 1 + 1 + 1 + 1 + 1) (1 + l) j r _ S' rs' g1 g2 (by omega))) ?_
        simp -implicitDefEqProofs (disch := omega) only [go_sem, hb, ht, hA, hU, e2, hC, hG, mkAt_set, mkAt_length, hl, setO_twice, isSD]
        (repeat (with_reducible refine And.intro ?_ ?_; focus first | omega | rfl | assumption | exact ⟨_, rfl, rfl⟩ | (simp; omega) | (simp; done)))
        refine call_d rfl (sub_mk hS hp hir (by rfl) (fun S' rs' g1 g2 => ihExpr x.fBody.fArgs (by have := List.sizeOf_lt_of_mem (List.getElem_mem hi); rw [← hx] at this; have := MArm.lt_Body x; have := MExpr.lt_Args x.fBody; omega) (k + ((mcRs (rows.take i) : Nat) : Int) + 1 + ((mcRs (x.fVars.map encS) : Nat) : Int) + 1 + 1 + 1 + 1 + 1 + 1 + ((mcRs (x.fBody.fType.fArgs.map MType.enc) : Nat) : Int)) (1 + l) j r _ S' rs' g1 g2 (by omega))) ?_
        simp -implicitDefEqProofs (disch := omega) only [go_sem, hb, ht, hA, hU, e2, hC, hG, mkAt_set, mkAt_length, hl, setO_twice, isSD]
        (repeat (with_reducible refine And.intro ?_ ?_; focus first | omega | rfl | assumption | exact ⟨_, rfl, rfl⟩ | (simp; omega) | (simp; done)))
        refine call_d rfl (sub_mk hS hp hir (by rfl) (fun S' rs' g1 g2 => ihArm x.fBody.fArms (by have := List.sizeOf_lt_of_mem (List.getElem_mem hi); rw [← hx] at this; have := MArm.lt_Body x; have := MExpr.lt_Arms x.fBody; omega) (k + ((mcRs (rows.take i) : Nat) : Int) + 1 + ((mcRs (x.fVars.map encS) : Nat) : Int) + 1 + 1 + 1 + 1 + 1 + 1 + ((mcRs (x.fBody.fType.fArgs.map MType.enc) : Nat) : Int) + ((mcRs (x.fBody.fArgs.map MExpr.enc) : Nat) : Int)) (1 + l) j r _ S' rs' g1 g2 (by omega))) ?_
        simp -implicitDefEqProofs (disch := omega) only [go_sem, hb, ht, hA, hU, e2, hC, hG, mkAt_set, mkAt_length, hl, setO_twice, isSD]
        (repeat (with_reducible refine And.intro ?_ ?_; focus first | omega | rfl | assumption | exact ⟨_, rfl, rfl⟩ | (simp; omega) | (simp; done)))
        refine inv_at (i + 1) (by omega) (by rw [hK]; rfl) ?_ (by omega)
        have h3 := mkAt_to (k := k) hir
        rw [e1] at h3
        simp only [mkR, mkD] at h3
        rw [← h3]
        all_goals rfl
      · simp -implicitDefEqProofs (disch := omega) only [go_sem, hb]
        have hi : i = xs.length := by omega
        rw [mkTo_all (by omega), List.take_of_length_le (by omega)]
        all_goals (first | rfl | exact ⟨rfl, rfl⟩)
theorem markExprS_ok (xs : List MExpr) : ∀ (k : Int) (l j r : Nat) (p : List (Nat × Nat)) (S : Store) (rs : List (List (List D))), getO S (l, j) = some (.xf rs) → atR rs r p = some (xs.map MExpr.enc) → 0 ≤ k ∧ k + mcRs (xs.map MExpr.enc) ≤ 4611686018427387904 → ACall Tryz.prog 70 [.c (.xp (l, j) r p), .c (.d (.i .i64 k))] S (fun res S' => res = .c (.d (.i .i64 (k + mcRs (xs.map MExpr.enc)))) ∧ S' = setO S (l, j) (.xf (updR rs r p (mkRs (xs.map MExpr.enc) k)))) := (markExpr_all _).1 xs (Nat.lt_succ_self _)
theorem markArmS_ok (xs : List MArm) : ∀ (k : Int) (l j r : Nat) (p : List (Nat × Nat)) (S : Store) (rs : List (List (List D))), getO S (l, j) = some (.xf rs) → atR rs r p = some (xs.map MArm.enc) → 0 ≤ k ∧ k + mcRs (xs.map MArm.enc) ≤ 4611686018427387904 → ACall Tryz.prog 71 [.c (.xp (l, j) r p), .c (.d (.i .i64 k))] S (fun res S' => res = .c (.d (.i .i64 (k + mcRs (xs.map MArm.enc)))) ∧ S' = setO S (l, j) (.xf (updR rs r p (mkRs (xs.map MArm.enc) k)))) := (markExpr_all _).2 xs (Nat.lt_succ_self _)
end Go.Proofs.YtokcpelkieeddaaGreatDoor

namespace Go.Proofs.YtokcpelkieeddaaGreatDoor
open Go Go.Ab
theorem markSExpr_all : ∀ n : Nat, (∀ xs : List MSExpr, SizeOf.sizeOf xs < n → ∀ (k : Int) (l j r : Nat) (p : List (Nat × Nat)) (S : Store) (rs : List (List (List D))), getO S (l, j) = some (.xf rs) → atR rs r p = some (xs.map MSExpr.enc) → 0 ≤ k ∧ k + mcRs (xs.map MSExpr.enc) ≤ 4611686018427387904 → ACall Tryz.prog 72 [.c (.xp (l, j) r p), .c (.d (.i .i64 k))] S (fun res S' => res = .c (.d (.i .i64 (k + mcRs (xs.map MSExpr.enc)))) ∧ S' = setO S (l, j) (.xf (updR rs r p (mkRs (xs.map MSExpr.enc) k)))))
  | 0 => fun xs h => by omega
  | n + 1 => by
    have ihSExpr := markSExpr_all n
    refine fun xs hn k l j r p S rs hS hp hk => ?_
    · have hlen := len_mc (f := MSExpr.enc) (fun x => by simp only [MSExpr.enc_eq, encS, encI, List.cons_append, List.nil_append, mcR, mcD]; omega) xs
      obtain ⟨rows, hr⟩ : ∃ rows, rows = xs.map MSExpr.enc := ⟨_, rfl⟩
      have hl : rows.length = xs.length := by rw [hr, List.length_map]
      rw [← hr] at hp hk hlen ⊢
      have ht : ∀ x : Ab.Obj, getO (setO S (l, j) x) (l, j) = some x := fun x => getO_setO_eq _ _ _ _ hS
      have hA : ∀ new, atR (updR rs r p new) r p = some new := fun new => atR_updR hp
      have hU : ∀ a b, updR (updR rs r p a) r p b = updR rs r p b := fun a b => updR_updR hp
      refine acall_cw (rs := [.tmp 4]) Tryz.checked.mixed Tryz.func72 Tryz.ntmps72 rfl rfl rfl rfl rfl ?_
      simp -implicitDefEqProofs (disch := omega) only [go_sem]
      refine loop_at (ι := Nat) Tryz.checked.mixed rfl [0, 1, 5] (fun i => [.c (.xp (1 + l, j) r p), .c (.d (.i .i64 (k + mcRs (rows.take i)))), .c (.d (.i .i64 i))])
        (fun i => [] :: setO S (l, j) (.xf (updR rs r p (mkTo rows k i)))) (fun i => i ≤ xs.length) (fun i => xs.length - i) 0 ?_ ?_ (Nat.zero_le _) ?_
      · have z0 : k + ((mcRs (rows.take 0) : Nat) : Int) = k := by simp [mcRs]
        rw [z0]
        rfl
      · rw [mkTo_zero, updR_same hp, setO_self _ _ hS]
      intro i hi
      simp -implicitDefEqProofs (disch := omega) only [go_sem, ht, hA, mkTo_length, hl]
      with_reducible refine split2 (fun hb => ?_) (fun hb => ?_) <;> have h := hb <;> try simp only [wf_preprocess] at h
      · have hi : i < xs.length := by omega
        have hir : i < rows.length := by omega
        obtain ⟨x, hx⟩ : ∃ x, x = xs[i] := ⟨_, rfl⟩
        have e1 : rows[i] = [.s x.fAtom, .sl (x.fList.map MSExpr.enc)] := by
          simp only [hr, List.getElem_map, ← hx]
          simp only [MSExpr.enc_eq, encS, encI, List.cons_append, List.nil_append]
        have hm := mcRs_take hir
        have hle := mcRs_le (rows := rows) (i := i + 1)
        rw [hm, e1] at hle
        rw [e1] at hm
        simp only [mcR, mcD] at hle hm
        have hK : k + ((mcRs (rows.take (i + 1)) : Nat) : Int) = k + ((mcRs (rows.take i) : Nat) : Int) + 1 + ((mcRs (x.fList.map MSExpr.enc) : Nat) : Int) := by rw [hm]; omega
        have e2 := mkTo_at (k := k) hir
        rw [e1] at e2
        have hC : ∀ row o, cellAt (mkAt rows k i row) i o = row[o]? := fun row o => mkAt_cell hir
        have hG : ∀ row, (mkAt rows k i row).getD i [] = row := fun row => mkAt_get hir
        simp -implicitDefEqProofs (disch := omega) only [go_sem, hb, ht, hA, hU, e2, hC, hG, mkAt_set, mkAt_length, hl, setO_twice, isSD]
        (repeat (with_reducible refine And.intro ?_ ?_; focus first | omega | rfl | assumption | exact ⟨_, rfl, rfl⟩ | (simp; omega) | (simp; done)))
        refine call_w (markText_ok (k + ((mcRs (rows.take i) : Nat) : Int)) (by omega)) ?_
        simp -implicitDefEqProofs (disch := omega) only [go_sem, hb, ht, hA, hU, e2, hC, hG, mkAt_set, mkAt_length, hl, setO_twice, isSD]
        (repeat (with_reducible refine And.intro ?_ ?_; focus first | omega | rfl | assumption | exact ⟨_, rfl, rfl⟩ | (simp; omega) | (simp; done)))
        refine call_d rfl (sub_mk hS hp hir (by rfl) (fun S' rs' g1 g2 => ihSExpr x.fList (by have := List.sizeOf_lt_of_mem (List.getElem_mem hi); rw [← hx] at this; have := MSExpr.lt_List x; omega) (k + ((mcRs (rows.take i) : Nat) : Int) + 1) (1 + l) j r _ S' rs' g1 g2 (by omega))) ?_
        simp -implicitDefEqProofs (disch := omega) only [go_sem, hb, ht, hA, hU, e2, hC, hG, mkAt_set, mkAt_length, hl, setO_twice, isSD]
        (repeat (with_reducible refine And.intro ?_ ?_; focus first | omega | rfl | assumption | exact ⟨_, rfl, rfl⟩ | (simp; omega) | (simp; done)))
        refine inv_at (i + 1) (by omega) (by rw [hK]; rfl) ?_ (by omega)
        have h3 := mkAt_to (k := k) hir
        rw [e1] at h3
        simp only [mkR, mkD] at h3
        rw [← h3]
        all_goals rfl
      · simp -implicitDefEqProofs (disch := omega) only [go_sem, hb]
        have hi : i = xs.length := by omega
        rw [mkTo_all (by omega), List.take_of_length_le (by omega)]
        all_goals (first | rfl | exact ⟨rfl, rfl⟩)
theorem markSExprS_ok (xs : List MSExpr) : ∀ (k : Int) (l j r : Nat) (p : List (Nat × Nat)) (S : Store) (rs : List (List (List D))), getO S (l, j) = some (.xf rs) → atR rs r p = some (xs.map MSExpr.enc) → 0 ≤ k ∧ k + mcRs (xs.map MSExpr.enc) ≤ 4611686018427387904 → ACall Tryz.prog 72 [.c (.xp (l, j) r p), .c (.d (.i .i64 k))] S (fun res S' => res = .c (.d (.i .i64 (k + mcRs (xs.map MSExpr.enc)))) ∧ S' = setO S (l, j) (.xf (updR rs r p (mkRs (xs.map MSExpr.enc) k)))) := (markSExpr_all _) xs (Nat.lt_succ_self _)
theorem markSExpr_ok (x : MSExpr) (k : Int) (l j b : Nat) (S : Store) (rs : List (List (List D))) (hS : getO S (l, j) = some (.xf rs)) (h1 : atR rs (b + 1) [] = some (x.fList.map MSExpr.enc)) (hk : 0 ≤ k ∧ k + ((mcRs (x.fList.map MSExpr.enc) : Nat) : Int) ≤ 4611686018427387904) : ACall Tryz.prog 18 [.agg [.d (.s x.fAtom), .xp (l, j) (b + 1) []], .c (.d (.i .i64 k))] S (fun res S' => res = .c (.d (.i .i64 (k + ((mcRs (x.fList.map MSExpr.enc) : Nat) : Int)))) ∧ S' = setO S (l, j) (.xf (updR (rs) (b + 1) [] (mkRs (x.fList.map MSExpr.enc) (k))))) := by
  have ht : ∀ x : Ab.Obj, getO (setO S (l, j) x) (l, j) = some x := fun x => getO_setO_eq _ _ _ _ hS
  refine acall_cw (rs := [.tmp 4]) Tryz.checked.mixed Tryz.func18 Tryz.ntmps18 rfl rfl rfl rfl rfl ?_
  simp -implicitDefEqProofs (disch := omega) only [go_sem]
  refine call_d rfl (markSExprS_ok x.fList (k) (1 + l) j (b + 1) [] _ _ (by rw [getO_up1]; first | exact hS | exact ht _) (by first | assumption | (simp (disch := omega) only [ne_eq, atR_ne]; assumption)) (by omega)) ?_
  simp -implicitDefEqProofs (disch := omega) only [go_sem, setO_twice, setO_up1]
  try exact ⟨rfl, rfl⟩
theorem heldSExpr_all : ∀ n : Nat, (∀ xs : List MSExpr, SizeOf.sizeOf xs < n → ∀ (k : Int) (l j r : Nat) (p : List (Nat × Nat)) (S : Store) (rs : List (List (List D))), getO S (l, j) = some (.xf rs) → atR rs r p = some (mkRs (xs.map MSExpr.enc) k) → 0 ≤ k ∧ k + mcRs (xs.map MSExpr.enc) ≤ 4611686018427387904 → ACall Tryz.prog 73 [.c (.xp (l, j) r p), .c (.d (.i .i64 k))] S (fun res S' => res = .c (.d (.i .i64 (k + mcRs (xs.map MSExpr.enc)))) ∧ S' = S))
  | 0 => fun xs h => by omega
  | n + 1 => by
    have ihSExpr := heldSExpr_all n
    refine fun xs hn k l j r p S rs hS hp hk => ?_
    · have hlen := len_mc (f := MSExpr.enc) (fun x => by simp only [MSExpr.enc_eq, encS, encI, List.cons_append, List.nil_append, mcR, mcD]; omega) xs
      obtain ⟨rows, hr⟩ : ∃ rows, rows = xs.map MSExpr.enc := ⟨_, rfl⟩
      have hl : rows.length = xs.length := by rw [hr, List.length_map]
      rw [← hr] at hp hk hlen ⊢
      refine acall_cw (rs := [.tmp 4]) Tryz.checked.mixed Tryz.func73 Tryz.ntmps73 rfl rfl rfl rfl rfl ?_
      simp -implicitDefEqProofs (disch := omega) only [go_sem]
      refine loop_at (ι := Nat) Tryz.checked.mixed rfl [0, 1, 5] (fun i => [.c (.xp (1 + l, j) r p), .c (.d (.i .i64 (k + mcRs (rows.take i)))), .c (.d (.i .i64 i))])
        (fun i => [] :: S) (fun i => i ≤ xs.length) (fun i => xs.length - i) 0 ?_ rfl (Nat.zero_le _) ?_
      · have z0 : k + ((mcRs (rows.take 0) : Nat) : Int) = k := by simp [mcRs]
        rw [z0]
        rfl
      intro i hi
      simp -implicitDefEqProofs (disch := omega) only [go_sem, hS, hp, mkRs_length, hl]
      with_reducible refine split2 (fun hb => ?_) (fun hb => ?_) <;> have h := hb <;> try simp only [wf_preprocess] at h
      · have hi : i < xs.length := by omega
        have hir : i < rows.length := by omega
        obtain ⟨x, hx⟩ : ∃ x, x = xs[i] := ⟨_, rfl⟩
        have e1 : rows[i] = [.s x.fAtom, .sl (x.fList.map MSExpr.enc)] := by
          simp only [hr, List.getElem_map, ← hx]
          simp only [MSExpr.enc_eq, encS, encI, List.cons_append, List.nil_append]
        have hm := mcRs_take hir
        have hle := mcRs_le (rows := rows) (i := i + 1)
        rw [hm, e1] at hle
        rw [e1] at hm
        simp only [mcR, mcD] at hle hm
        have hK : k + ((mcRs (rows.take (i + 1)) : Nat) : Int) = k + ((mcRs (rows.take i) : Nat) : Int) + 1 + ((mcRs (x.fList.map MSExpr.enc) : Nat) : Int) := by rw [hm]; omega
        have e2 : mkR rows[i] (k + ((mcRs (rows.take i) : Nat) : Int)) = [.s (mtext (k + ((mcRs (rows.take i) : Nat) : Int))), .sl (mkRs (x.fList.map MSExpr.enc) (k + ((mcRs (rows.take i) : Nat) : Int) + 1))] := by
          rw [e1]
          simp only [mkR, mkD]
          all_goals rfl
        have hC : ∀ o, cellAt (mkRs rows k) i o = ([.s (mtext (k + ((mcRs (rows.take i) : Nat) : Int))), .sl (mkRs (x.fList.map MSExpr.enc) (k + ((mcRs (rows.take i) : Nat) : Int) + 1))] : List D)[o]? := fun o => by
          have h1 : (mkRs rows k)[i]? = some (mkR rows[i] (k + ((mcRs (rows.take i) : Nat) : Int))) := by
            have h2 := mkRs_get (k := k) hir
            have h3 : i < (mkRs rows k).length := by rw [mkRs_length]; exact hir
            rw [List.getD_eq_getElem?_getD, List.getElem?_eq_getElem h3, Option.getD_some] at h2
            rw [List.getElem?_eq_getElem h3, h2]
          unfold cellAt
          rw [h1, Option.bind_some, e2]
        have hG := mkRs_get (k := k) hir
        rw [e2] at hG
        simp -implicitDefEqProofs (disch := omega) only [go_sem, hb, hS, hp, hC, hG, mkRs_length, hl, isSD]
        (repeat (with_reducible refine And.intro ?_ ?_; focus first | omega | rfl | assumption | exact ⟨_, rfl, rfl⟩ | (simp; omega) | (simp; done)))
        refine call_w (markText_ok (k + ((mcRs (rows.take i) : Nat) : Int)) (by omega)) ?_
        simp -implicitDefEqProofs (disch := omega) only [go_sem, hb, hS, hp, hC, hG, mkRs_length, hl, isSD]
        (repeat (with_reducible refine And.intro ?_ ?_; focus first | omega | rfl | assumption | exact ⟨_, rfl, rfl⟩ | (simp; omega) | (simp; done)))
        refine call_d rfl (ihSExpr x.fList (by have := List.sizeOf_lt_of_mem (List.getElem_mem hi); rw [← hx] at this; have := MSExpr.lt_List x; omega) (k + ((mcRs (rows.take i) : Nat) : Int) + 1) (1 + l) j r _ _ _ (by rw [getO_up1]; exact hS) (atR_snoc hp (by rw [hC]; rfl)) (by omega)) ?_
        simp -implicitDefEqProofs (disch := omega) only [go_sem, hb, hS, hp, hC, hG, mkRs_length, hl, isSD, dec_neg]
        (repeat (with_reducible refine And.intro ?_ ?_; focus first | omega | rfl | assumption | exact ⟨_, rfl, rfl⟩ | (simp; omega) | (simp; done)))
        refine inv_at (i + 1) (by omega) (by rw [hK]; rfl) rfl (by omega)
      · simp -implicitDefEqProofs (disch := omega) only [go_sem, hb]
        have hi : i = xs.length := by omega
        rw [List.take_of_length_le (by omega)]
        all_goals (first | rfl | exact ⟨rfl, rfl⟩)
theorem heldSExprS_ok (xs : List MSExpr) : ∀ (k : Int) (l j r : Nat) (p : List (Nat × Nat)) (S : Store) (rs : List (List (List D))), getO S (l, j) = some (.xf rs) → atR rs r p = some (mkRs (xs.map MSExpr.enc) k) → 0 ≤ k ∧ k + mcRs (xs.map MSExpr.enc) ≤ 4611686018427387904 → ACall Tryz.prog 73 [.c (.xp (l, j) r p), .c (.d (.i .i64 k))] S (fun res S' => res = .c (.d (.i .i64 (k + mcRs (xs.map MSExpr.enc)))) ∧ S' = S) := (heldSExpr_all _) xs (Nat.lt_succ_self _)
theorem heldSExpr_ok (x : MSExpr) (k : Int) (l j b : Nat) (S : Store) (rs : List (List (List D))) (hS : getO S (l, j) = some (.xf rs)) (h1 : atR rs (b + 1) [] = some (mkRs (x.fList.map MSExpr.enc) (k))) (hk : 0 ≤ k ∧ k + ((mcRs (x.fList.map MSExpr.enc) : Nat) : Int) ≤ 4611686018427387904) : ACall Tryz.prog 19 [.agg [.d (.s x.fAtom), .xp (l, j) (b + 1) []], .c (.d (.i .i64 k))] S (fun res S' => res = .c (.d (.i .i64 (k + ((mcRs (x.fList.map MSExpr.enc) : Nat) : Int)))) ∧ S' = S) := by
  refine acall_cw (rs := [.tmp 4]) Tryz.checked.mixed Tryz.func19 Tryz.ntmps19 rfl rfl rfl rfl rfl ?_
  simp -implicitDefEqProofs (disch := omega) only [go_sem]
  refine call_d rfl (heldSExprS_ok x.fList (k) (1 + l) j (b + 1) [] _ _ (by rw [getO_up1]; first | exact hS | exact ht _) (by first | assumption | (simp (disch := omega) only [ne_eq, atR_ne]; assumption)) (by omega)) ?_
  simp -implicitDefEqProofs (disch := omega) only [go_sem, dec_neg]
  try exact ⟨rfl, rfl⟩
end Go.Proofs.YtokcpelkieeddaaGreatDoor

namespace Go.Proofs.YtokcpelkieeddaaGreatDoor
open Go Go.Ab
set_option maxHeartbeats 4000000 in
theorem markSignatureS_ok (xs : List MSignature) : ∀ (k : Int) (l j r : Nat) (p : List (Nat × Nat)) (S : Store) (rs : List (List (List D))), getO S (l, j) = some (.xf rs) → atR rs r p = some (xs.map MSignature.enc) → 0 ≤ k ∧ k + mcRs (xs.map MSignature.enc) ≤ 4611686018427387904 → ACall Tryz.prog 102 [.c (.xp (l, j) r p), .c (.d (.i .i64 k))] S (fun res S' => res = .c (.d (.i .i64 (k + mcRs (xs.map MSignature.enc)))) ∧ S' = setO S (l, j) (.xf (updR rs r p (mkRs (xs.map MSignature.enc) k)))) := by
  intro k l j r p S rs hS hp hk
  have hlen := len_mc (f := MSignature.enc) (fun x => by simp only [MExpr.enc_eq, MSignature.enc_eq, MType.enc_eq, encS, encI, List.cons_append, List.nil_append, mcR, mcD]; omega) xs
  obtain ⟨rows, hr⟩ : ∃ rows, rows = xs.map MSignature.enc := ⟨_, rfl⟩
  have hl : rows.length = xs.length := by rw [hr, List.length_map]
  rw [← hr] at hp hk hlen ⊢
  have ht : ∀ x : Ab.Obj, getO (setO S (l, j) x) (l, j) = some x := fun x => getO_setO_eq _ _ _ _ hS
  have hA : ∀ new, atR (updR rs r p new) r p = some new := fun new => atR_updR hp
  have hU : ∀ a b, updR (updR rs r p a) r p b = updR rs r p b := fun a b => updR_updR hp
  refine acall_cw (rs := [.tmp 4]) Tryz.checked.mixed Tryz.func102 Tryz.ntmps102 rfl rfl rfl rfl rfl ?_
  simp -implicitDefEqProofs (disch := omega) only [go_sem]
  refine loop_at (ι := Nat) Tryz.checked.mixed rfl [0, 1, 5] (fun i => [.c (.xp (1 + l, j) r p), .c (.d (.i .i64 (k + mcRs (rows.take i)))), .c (.d (.i .i64 i))])
    (fun i => [] :: setO S (l, j) (.xf (updR rs r p (mkTo rows k i)))) (fun i => i ≤ xs.length) (fun i => xs.length - i) 0 ?_ ?_ (Nat.zero_le _) ?_
  · have z0 : k + ((mcRs (rows.take 0) : Nat) : Int) = k := by simp [mcRs]
    rw [z0]
    rfl
  · rw [mkTo_zero, updR_same hp, setO_self _ _ hS]
  intro i hi
  simp -implicitDefEqProofs (disch := omega) only [go_sem, ht, hA, mkTo_length, hl]
  with_reducible refine split2 (fun hb => ?_) (fun hb => ?_) <;> have h := hb <;> try simp only [wf_preprocess] at h
  · have hi : i < xs.length := by omega
    have hir : i < rows.length := by omega
    obtain ⟨x, hx⟩ : ∃ x, x = xs[i] := ⟨_, rfl⟩
    have e1 : rows[i] = [.s x.fName, .sl (x.fParams.map MType.enc), .i .i64 x.fResult.fKind, .s x.fResult.fName, .sl (x.fResult.fArgs.map MType.enc), .b x.fHasDefault, .sl (x.fVars.map encS), .i .i64 x.fBody.fKind, .s x.fBody.fTrait, .s x.fBody.fName, .i .i64 x.fBody.fN, .i .i64 x.fBody.fType.fKind, .s x.fBody.fType.fName, .sl (x.fBody.fType.fArgs.map MType.enc), .sl (x.fBody.fArgs.map MExpr.enc), .sl (x.fBody.fArms.map MArm.enc)] := by
      simp only [hr, List.getElem_map, ← hx]
      simp only [MExpr.enc_eq, MSignature.enc_eq, MType.enc_eq, encS, encI, List.cons_append, List.nil_append]
    have hm := mcRs_take hir
    have hle := mcRs_le (rows := rows) (i := i + 1)
    rw [hm, e1] at hle
    rw [e1] at hm
    simp only [mcR, mcD] at hle hm
    have hK : k + ((mcRs (rows.take (i + 1)) : Nat) : Int) = k + ((mcRs (rows.take i) : Nat) : Int) + 1 + ((mcRs (x.fParams.map MType.enc) : Nat) : Int) + 1 + 1 + ((mcRs (x.fResult.fArgs.map MType.enc) : Nat) : Int) + 1 + ((mcRs (x.fVars.map encS) : Nat) : Int) + 1 + 1 + 1 + 1 + 1 + 1 + ((mcRs (x.fBody.fType.fArgs.map MType.enc) : Nat) : Int) + ((mcRs (x.fBody.fArgs.map MExpr.enc) : Nat) : Int) + ((mcRs (x.fBody.fArms.map MArm.enc) : Nat) : Int) := by rw [hm]; omega
    have e2 := mkTo_at (k := k) hir
    rw [e1] at e2
    have hC : ∀ row o, cellAt (mkAt rows k i row) i o = row[o]? := fun row o => mkAt_cell hir
    have hG : ∀ row, (mkAt rows k i row).getD i [] = row := fun row => mkAt_get hir
    simp -implicitDefEqProofs (disch := omega) only [go_sem, hb, ht, hA, hU, e2, hC, hG, mkAt_set, mkAt_length, hl, setO_twice, isSD]
    (repeat (with_reducible refine And.intro ?_ ?_; focus first | omega | rfl | assumption | exact ⟨_, rfl, rfl⟩ | (simp; omega) | (simp; done)))
    refine call_w (markText_ok (k + ((mcRs (rows.take i) : Nat) : Int)) (by omega)) ?_
    simp -implicitDefEqProofs (disch := omega) only [go_sem, hb, ht, hA, hU, e2, hC, hG, mkAt_set, mkAt_length, hl, setO_twice, isSD]
    (repeat (with_reducible refine And.intro ?_ ?_; focus first | omega | rfl | assumption | exact ⟨_, rfl, rfl⟩ | (simp; omega) | (simp; done)))
    refine call_d rfl (sub_mk hS hp hir (by rfl) (fun S' rs' g1 g2 => markTypeS_ok x.fParams (k + ((mcRs (rows.take i) : Nat) : Int) + 1) (1 + l) j r _ S' rs' g1 g2 (by omega))) ?_
    simp -implicitDefEqProofs (disch := omega) only [go_sem, hb, ht, hA, hU, e2, hC, hG, mkAt_set, mkAt_length, hl, setO_twice, isSD]
    (repeat (with_reducible refine And.intro ?_ ?_; focus first | omega | rfl | assumption | exact ⟨_, rfl, rfl⟩ | (simp; omega) | (simp; done)))
    refine call_w (markText_ok (k + ((mcRs (rows.take i) : Nat) : Int) + 1 + ((mcRs (x.fParams.map MType.enc) : Nat) : Int) + 1) (by omega)) ?_
    simp -implicitDefEqProofs (disch := omega) only [go_sem, hb, ht, hA, hU, e2, hC, hG, mkAt_set, mkAt_length, hl, setO_twice, isSD]
    (repeat (with_reducible refine And.intro ?_ ?_; focus first | omega | rfl | assumption | exact ⟨_, rfl, rfl⟩ | (simp; omega) | (simp; done)))
    refine call_d rfl (sub_mk hS hp hir (by rfl) (fun S' rs' g1 g2 => markTypeS_ok x.fResult.fArgs (k + ((mcRs (rows.take i) : Nat) : Int) + 1 + ((mcRs (x.fParams.map MType.enc) : Nat) : Int) + 1 + 1) (1 + l) j r _ S' rs' g1 g2 (by omega))) ?_
    simp -implicitDefEqProofs (disch := omega) only [go_sem, hb, ht, hA, hU, e2, hC, hG, mkAt_set, mkAt_length, hl, setO_twice, isSD]
    (repeat (with_reducible refine And.intro ?_ ?_; focus first | omega | rfl | assumption | exact ⟨_, rfl, rfl⟩ | (simp; omega) | (simp; done)))
    refine call_d rfl (sub_mk hS hp hir (by rfl) (fun S' rs' g1 g2 => markStringS_ok x.fVars (k + ((mcRs (rows.take i) : Nat) : Int) + 1 + ((mcRs (x.fParams.map MType.enc) : Nat) : Int) + 1 + 1 + ((mcRs (x.fResult.fArgs.map MType.enc) : Nat) : Int) + 1) (1 + l) j r _ S' rs' g1 g2 (by omega))) ?_
    simp -implicitDefEqProofs (disch := omega) only [go_sem, hb, ht, hA, hU, e2, hC, hG, mkAt_set, mkAt_length, hl, setO_twice, isSD]
    (repeat (with_reducible refine And.intro ?_ ?_; focus first | omega | rfl | assumption | exact ⟨_, rfl, rfl⟩ | (simp; omega) | (simp; done)))
    refine call_w (markText_ok (k + ((mcRs (rows.take i) : Nat) : Int) + 1 + ((mcRs (x.fParams.map MType.enc) : Nat) : Int) + 1 + 1 + ((mcRs (x.fResult.fArgs.map MType.enc) : Nat) : Int) + 1 + ((mcRs (x.fVars.map encS) : Nat) : Int) + 1) (by omega)) ?_
    simp -implicitDefEqProofs (disch := omega) only [go_sem, hb, ht, hA, hU, e2, hC, hG, mkAt_set, mkAt_length, hl, setO_twice, isSD]
    (repeat (with_reducible refine And.intro ?_ ?_; focus first | omega | rfl | assumption | exact ⟨_, rfl, rfl⟩ | (simp; omega) | (simp; done)))
    refine call_w (markText_ok (k + ((mcRs (rows.take i) : Nat) : Int) + 1 + ((mcRs (x.fParams.map MType.enc) : Nat) : Int) + 1 + 1 + ((mcRs (x.fResult.fArgs.map MType.enc) : Nat) : Int) + 1 + ((mcRs (x.fVars.map encS) : Nat) : Int) + 1 + 1) (by omega)) ?_
    simp -implicitDefEqProofs (disch := omega) only [go_sem, hb, ht, hA, hU, e2, hC, hG, mkAt_set, mkAt_length, hl, setO_twice, isSD]
    (repeat (with_reducible refine And.intro ?_ ?_; focus first | omega | rfl | assumption | exact ⟨_, rfl, rfl⟩ | (simp; omega) | (simp; done)))
    refine call_w (markText_ok (k + ((mcRs (rows.take i) : Nat) : Int) + 1 + ((mcRs (x.fParams.map MType.enc) : Nat) : Int) + 1 + 1 + ((mcRs (x.fResult.fArgs.map MType.enc) : Nat) : Int) + 1 + ((mcRs (x.fVars.map encS) : Nat) : Int) + 1 + 1 + 1 + 1 + 1) (by omega)) ?_
    simp -implicitDefEqProofs (disch := omega) only [go_sem, hb, ht, hA, hU, e2, hC, hG, mkAt_set, mkAt_length, hl, setO_twice, isSD]
    (repeat (with_reducible refine And.intro ?_ ?_; focus first | omega | rfl | assumption | exact ⟨_, rfl, rfl⟩ | (simp; omega) | (simp; done)))
    refine call_d rfl (sub_mk hS hp hir (by rfl) (fun S' rs' g1 g2 => markTypeS_ok x.fBody.fType.fArgs (k + ((mcRs (rows.take i) : Nat) : Int) + 1 + ((mcRs (x.fParams.map MType.enc) : Nat) : Int) + 1 + 1 + ((mcRs (x.fResult.fArgs.map MType.enc) : Nat) : Int) + 1 + ((mcRs (x.fVars.map encS) : Nat) : Int) + 1 + 1 + 1 + 1 + 1 + 1) (1 + l) j r _ S' rs' g1 g2 (by omega))) ?_
    simp -implicitDefEqProofs (disch := omega) only [go_sem, hb, ht, hA, hU, e2, hC, hG, mkAt_set, mkAt_length, hl, setO_twice, isSD]
    (repeat (with_reducible refine And.intro ?_ ?_; focus first | omega | rfl | assumption | exact ⟨_, rfl, rfl⟩ | (simp; omega) | (simp; done)))
    refine call_d rfl (sub_mk hS hp hir (by rfl) (fun S' rs' g1 g2 => markExprS_ok x.fBody.fArgs (k + ((mcRs (rows.take i) : Nat) : Int) + 1 + ((mcRs (x.fParams.map MType.enc) : Nat) : Int) + 1 + 1 + ((mcRs (x.fResult.fArgs.map MType.enc) : Nat) : Int) + 1 + ((mcRs (x.fVars.map encS) : Nat) : Int) + 1 + 1 + 1 + 1 + 1 + 1 + ((mcRs (x.fBody.fType.fArgs.map MType.enc) : Nat) : Int)) (1 + l) j r _ S' rs' g1 g2 (by omega))) ?_
    simp -implicitDefEqProofs (disch := omega) only [go_sem, hb, ht, hA, hU, e2, hC, hG, mkAt_set, mkAt_length, hl, setO_twice, isSD]
    (repeat (with_reducible refine And.intro ?_ ?_; focus first | omega | rfl | assumption | exact ⟨_, rfl, rfl⟩ | (simp; omega) | (simp; done)))
    refine call_d rfl (sub_mk hS hp hir (by rfl) (fun S' rs' g1 g2 => markArmS_ok x.fBody.fArms (k + ((mcRs (rows.take i) : Nat) : Int) + 1 + ((mcRs (x.fParams.map MType.enc) : Nat) : Int) + 1 + 1 + ((mcRs (x.fResult.fArgs.map MType.enc) : Nat) : Int) + 1 + ((mcRs (x.fVars.map encS) : Nat) : Int) + 1 + 1 + 1 + 1 + 1 + 1 + ((mcRs (x.fBody.fType.fArgs.map MType.enc) : Nat) : Int) + ((mcRs (x.fBody.fArgs.map MExpr.enc) : Nat) : Int)) (1 + l) j r _ S' rs' g1 g2 (by omega))) ?_
    simp -implicitDefEqProofs (disch := omega) only [go_sem, hb, ht, hA, hU, e2, hC, hG, mkAt_set, mkAt_length, hl, setO_twice, isSD]
    (repeat (with_reducible refine And.intro ?_ ?_; focus first | omega | rfl | assumption | exact ⟨_, rfl, rfl⟩ | (simp; omega) | (simp; done)))
    refine inv_at (i + 1) (by omega) (by rw [hK]; rfl) ?_ (by omega)
    have h3 := mkAt_to (k := k) hir
    rw [e1] at h3
    simp only [mkR, mkD] at h3
    rw [← h3]
    all_goals rfl
  · simp -implicitDefEqProofs (disch := omega) only [go_sem, hb]
    have hi : i = xs.length := by omega
    rw [mkTo_all (by omega), List.take_of_length_le (by omega)]
    all_goals (first | rfl | exact ⟨rfl, rfl⟩)
end Go.Proofs.YtokcpelkieeddaaGreatDoor

namespace Go.Proofs.YtokcpelkieeddaaGreatDoor
open Go Go.Ab
theorem markTrait_ok (x : MTrait) (k : Int) (l j b : Nat) (S : Store) (rs : List (List (List D))) (hS : getO S (l, j) = some (.xf rs)) (h1 : atR rs (b + 1) [] = some (x.fSupertraits.map encS)) (h4 : atR rs (b + 4) [] = some (x.fSignatures.map MSignature.enc)) (hk : 0 ≤ k ∧ k + ((mcRs (x.fSupertraits.map encS) : Nat) : Int) + ((mcRs (x.fSignatures.map MSignature.enc) : Nat) : Int) ≤ 4611686018427387904) : ACall Tryz.prog 31 [.agg [.d (.s x.fName), .xp (l, j) (b + 1) [], .d (.b x.fAuto), .d (.b x.fAssoc), .xp (l, j) (b + 4) []], .c (.d (.i .i64 k))] S (fun res S' => res = .c (.d (.i .i64 (k + ((mcRs (x.fSupertraits.map encS) : Nat) : Int) + ((mcRs (x.fSignatures.map MSignature.enc) : Nat) : Int)))) ∧ S' = setO S (l, j) (.xf (updR (updR (rs) (b + 1) [] (mkRs (x.fSupertraits.map encS) (k))) (b + 4) [] (mkRs (x.fSignatures.map MSignature.enc) (k + ((mcRs (x.fSupertraits.map encS) : Nat) : Int)))))) := by
  have ht : ∀ x : Ab.Obj, getO (setO S (l, j) x) (l, j) = some x := fun x => getO_setO_eq _ _ _ _ hS
  refine acall_cw (rs := [.tmp 4]) Tryz.checked.mixed Tryz.func31 Tryz.ntmps31 rfl rfl rfl rfl rfl ?_
  simp -implicitDefEqProofs (disch := omega) only [go_sem]
  refine call_d rfl (markStringS_ok x.fSupertraits (k) (1 + l) j (b + 1) [] _ _ (by rw [getO_up1]; first | exact hS | exact ht _) (by first | assumption | (simp (disch := omega) only [ne_eq, atR_ne]; assumption)) (by omega)) ?_
  simp -implicitDefEqProofs (disch := omega) only [go_sem, setO_twice, setO_up1]
  refine call_d rfl (markSignatureS_ok x.fSignatures (k + ((mcRs (x.fSupertraits.map encS) : Nat) : Int)) (1 + l) j (b + 4) [] _ _ (by rw [getO_up1]; first | exact hS | exact ht _) (by first | assumption | (simp (disch := omega) only [ne_eq, atR_ne]; assumption)) (by omega)) ?_
  simp -implicitDefEqProofs (disch := omega) only [go_sem, setO_twice, setO_up1]
  try exact ⟨rfl, rfl⟩
end Go.Proofs.YtokcpelkieeddaaGreatDoor

namespace Go.Proofs.YtokcpelkieeddaaGreatDoor.fnExactTraitToSExpr
open Go Go.Ab
set_option maxHeartbeats 4000000 in
theorem law (x0 : MTrait) (f0 : FitL x0.enc) : ACall Tryz.prog 5 [x0.v] [] (fun r _ => r = .c (.d (.b true))) := by
  have hmx := mcr_sz x0.enc x0.plw.2
  rw [MTrait.enc_length, MTrait.sz_def] at hmx
  simp only [MTrait.enc_eq, List.cons_append, List.nil_append, mcR, mcD] at hmx
  refine acall_cw (rs := [.tmp 2]) Tryz.checked.mixed Tryz.func5 Tryz.ntmps5 rfl rfl rfl rfl rfl ?_
  simp -implicitDefEqProofs (disch := omega) only [go_sem]
  refine call_w (szTrait_ok x0 _ (by omega) (by omega) f0) ?_
  simp -implicitDefEqProofs (disch := omega) only [go_sem] <;> (repeat (with_reducible refine And.intro ?_ ?_; focus first | omega | rfl | assumption | exact ⟨_, rfl, rfl⟩ | (simp; omega) | (simp; done)))
  with_reducible refine split2 (fun hb => ?_) (fun hb => ?_) <;> have h := hb <;> (try simp only [wf_preprocess] at h) <;> simp -implicitDefEqProofs (disch := omega) only [go_sem, hb] <;> (repeat (with_reducible refine And.intro ?_ ?_; focus first | omega | rfl | assumption | exact ⟨_, rfl, rfl⟩ | (simp; omega) | (simp; done)))
  have h0 := sub1_nn h
  have c1 := specTr_ok x0 (by omega)
  have c2 := fun n => implTr_lab x0 n (by omega)
  have hd : (outTr x0).sz ≤ 1048576 := outTr_sz (by omega)
  obtain ⟨X, hX⟩ : ∃ X, X = outTr x0 := ⟨_, rfl⟩
  rw [← hX] at hd c1
  simp only [← hX] at c2
  have hmd := mcr_sz X.enc X.plw.2
  rw [MSExpr.enc_length, MSExpr.sz_def] at hmd
  simp only [MSExpr.enc_eq, List.cons_append, List.nil_append, mcR, mcD] at hmd
  have c2' : ∀ n, PCall Tryz.prog 29 [x0.v] (.agg ((labR X.enc n).map .d)) := fun n => by
    have := c2 n
    first | exact this | (rw [labX_eq]; exact this)
  have c3 : PCall Tryz.prog 29 [x0.v] X.v := by
    have := PCall.less (c2' 0) less_lab
    rw [MSExpr.v_eq] at this
    exact this
  refine call_w (toTrait_ok x0 (by omega)) ?_
  simp -implicitDefEqProofs (disch := omega) only [go_sem] <;> (repeat (with_reducible refine And.intro ?_ ?_; focus first | omega | rfl | assumption | exact ⟨_, rfl, rfl⟩ | (simp; omega) | (simp; done)))
  refine call_w c1 ?_
  simp -implicitDefEqProofs (disch := omega) only [go_sem]
  refine call_d rfl (ACall.own (mk := V.agg) (r := x0.enc) holder_agg x0.plw.1 (fun n => toTrait_lab x0 n (by omega))) ?_
  simp -implicitDefEqProofs (disch := omega) only [go_sem, MTrait.enc_eq, List.cons_append, List.nil_append, rowX, cellX, rootD]
  refine call_d rfl (ACall.ownL (k := (0, 2)) rfl (mk := V.agg) (r := X.enc) holder_agg X.plw.1 (fun n => c2' n)) ?_
  simp -implicitDefEqProofs (disch := omega) only [go_sem, MSExpr.enc_eq, List.cons_append, List.nil_append, rowX, cellX, rootD]
  refine call_d rfl (ACall.lend (k := (0, 4)) rfl (stay_plain rfl) (eqSExpr_ok X X (by omega))) ?_
  simp -implicitDefEqProofs (disch := omega) only [go_sem, dec_true rfl, Bool.not_true]
  refine call_w (toTrait_ok x0 (by omega)) ?_
  simp -implicitDefEqProofs (disch := omega) only [go_sem] <;> (repeat (with_reducible refine And.intro ?_ ?_; focus first | omega | rfl | assumption | exact ⟨_, rfl, rfl⟩ | (simp; omega) | (simp; done)))
  refine call_a rfl (DS.refl _) (ACall.lend (k := (0, 2)) rfl (stay_plain rfl) (eqTrait_ok x0 x0 (by omega))) ?_
  simp -implicitDefEqProofs (disch := omega) only [go_sem, dec_true rfl, Bool.not_true]
  refine call_d rfl (markTrait_ok x0 1 0 2 0 _ _ rfl rfl rfl ⟨by omega, by omega⟩) ?_
  simp -implicitDefEqProofs (disch := omega) only [go_sem, dec_neg]
  refine call_d rfl (ACall.lend (k := (0, 4)) rfl (stay_plain rfl) (eqSExpr_ok X X (by omega))) ?_
  simp -implicitDefEqProofs (disch := omega) only [go_sem, dec_true rfl, Bool.not_true]
  refine call_d rfl (markSExpr_ok X 1 0 4 0 _ _ rfl rfl ⟨by omega, by omega⟩) ?_
  simp -implicitDefEqProofs (disch := omega) only [go_sem]
  refine call_d rfl (heldSExpr_ok X 1 0 4 0 _ _ rfl rfl ⟨by omega, by omega⟩) ?_
  simp -implicitDefEqProofs (disch := omega) only [go_sem, dec_neg, Bool.not_true]
  refine call_w (toTrait_ok x0 (by omega)) ?_
  simp -implicitDefEqProofs (disch := omega) only [go_sem] <;> (repeat (with_reducible refine And.intro ?_ ?_; focus first | omega | rfl | assumption | exact ⟨_, rfl, rfl⟩ | (simp; omega) | (simp; done)))
  refine call_w c3 ?_
  simp -implicitDefEqProofs (disch := omega) only [go_sem]
  refine call_w (eqSExpr_ok X X (by omega)) ?_
  simp -implicitDefEqProofs (disch := omega) only [go_sem, dec_true rfl, Bool.not_true]
  refine call_d rfl (heldSExpr_ok X 1 0 4 0 _ _ rfl rfl ⟨by omega, by omega⟩) ?_
  simp -implicitDefEqProofs (disch := omega) only [go_sem, dec_neg, Bool.not_true]
end Go.Proofs.YtokcpelkieeddaaGreatDoor.fnExactTraitToSExpr

namespace Go.Ab
open Go
theorem ints_of_array {H : Type} {enc : TypeId × Value → H} {P : Program} {w : World} {base : Nat} {sp : Nat → Bool} {held : Bool} {fuel n : Nat} {t e : TypeId} {k : IntKind} {cs : List Value} {ns : List Int} {p : List MemPlace}
    (ht : P.underlying t = some (.array n e)) (he : P.underlying e = some (.int k)) (ce : P.cellsOf e = 1) (ct : P.cellsOf t = n)
    (h : DataW.trod enc P w base sp held fuel t cs = some (.agg (ns.map fun z => .lit (.int k z)), p)) : cs = ns.map (Value.int k ·) := by
  obtain ⟨xs, m, _, ex, hlen, hl, hel⟩ := DataW.trod_array ht h
  rw [ct] at hlen
  have e3 := DataW.agg.inj (Prod.mk.inj ex).1
  have hns : ns.length = n := by have := congrArg List.length e3; simpa [hl] using this
  refine List.ext_getElem (by rw [hlen, List.length_map, hns]) fun i h1 h2 => ?_
  have k0 := hel i (by omega)
  rw [ce, Nat.mul_one] at k0
  have hd : (cs.drop i).take 1 = [cs[i]] := by
    rw [List.drop_eq_getElem_cons h1]; rfl
  rw [hd, List.getElem?_eq_getElem (by omega)] at k0
  obtain ⟨z, a, b, _⟩ := DataW.trod_int he k0
  have e4 : (ns.map fun z => (DataW.lit (Lit.int k z) : DataW H))[i]'(by rw [List.length_map]; omega) = (xs.map (·.1))[i]'(by rw [List.length_map]; omega) := by simp only [e3]
  rw [List.getElem_map, List.getElem_map, b] at e4
  simp only [DataW.lit.injEq, Lit.int.injEq, true_and] at e4
  rw [List.getElem_map, e4]
  simpa using a
theorem var_cells {P : Program} {w : World} {n : String} {g : Nat} {cs : Array Value} (hg : P.globalNamed n = some g) (h : w.var? P n = some cs) : ∃ t fz, w.heap[g]? = some (.cells cs t fz) := by
  unfold World.var? at h
  rw [hg] at h
  simp only [Option.bind_some] at h
  split at h
  · rename_i c t fz hh
    cases h
    exact ⟨t, fz, hh⟩
  · cases h
end Go.Ab
namespace Go.Proofs.YtokcpelkieeddaaGreatDoor
open Go Go.Ab
theorem glob_of_laid {W : World} {r : List (String × DataW Unit)} (hr : (r.all fun x => x.2.handleName?.isNone) = true)
    (h : laidMetH Tryz.prog (("math/bits.deBruijn32tab", Rows.laid_math_bits_deBruijn32tab) :: ("math/bits.deBruijn64tab", Rows.laid_math_bits_deBruijn64tab) :: ("internal/strconv.uint64pow10", Rows.laid_internal_strconv_uint64pow10) :: r) W) : Glob W (allFast W) := by
  rw [MakeChecks.laidMetH_plain _ _ _ (by
    rw [List.all_cons, List.all_cons, List.all_cons, hr]; kernel_rfl)] at h
  obtain ⟨ps, ⟨_, _, _, _, _, _, _, _, _, _, ⟨_, _, _, _, _, _, _, _, _, _, ⟨g, t, cs, fuel, p, q, hg, ht, hv, hd, _, _⟩, _⟩, _⟩, _, _⟩ := h
  have hn : Tryz.prog.globalNamed "internal/strconv.uint64pow10" = some 0 := by kernel_rfl
  obtain rfl := Option.some.inj (hn.symm.trans hg)
  obtain rfl := Option.some.inj ((show (Tryz.prog.globals[0]?).map (·.type) = some 360 by kernel_rfl).symm.trans ht)
  have hl : (Rows.laid_internal_strconv_uint64pow10 : DataW Unit) = .agg (((List.range 20).map fun i => ((10 ^ i : Nat) : Int)).map fun z => .lit (.int .u64 z)) := by kernel_rfl
  rw [hl] at hd
  have e := ints_of_array Tryz.underlying360 Tryz.underlying344 (by kernel_rfl) (by kernel_rfl) hd
  obtain ⟨t', fz, hh⟩ := var_cells hg hv
  intro g' p' hm
  have hm' := List.eq_of_mem_singleton hm
  cases hm'
  refine ⟨cs, t', fz, hh, ?_, ?_⟩
  · show cs.toList = _
    rw [e, List.map_map]; rfl
  · unfold allFast; rw [hh]
    exact Nat.le_refl _
end Go.Proofs.YtokcpelkieeddaaGreatDoor

namespace Go.Ab
theorem wt_pos {P : Program} {n : Nat} {t : TypeId} {ds : List D} (h : WT P n t ds) : ∃ m, n = m + 1 := by
  cases n with
  | zero => exact h.elim
  | succ m => exact ⟨m, rfl⟩
theorem wt_bool {P : Program} {n : Nat} {t : TypeId} {ds : List D} (ht : P.underlying t = some .bool) (h : WT P n t ds) : ∃ b, ds = [.b b] := by
  obtain ⟨m, rfl⟩ := wt_pos h
  simp only [WT, ht] at h; exact h
theorem wt_int {P : Program} {n : Nat} {t : TypeId} {k : IntKind} {ds : List D} (ht : P.underlying t = some (.int k)) (h : WT P n t ds) : ∃ x, ds = [.i k x] ∧ (Lit.int k x).wf = true := by
  obtain ⟨m, rfl⟩ := wt_pos h
  simp only [WT, ht] at h; exact h
theorem wt_string {P : Program} {n : Nat} {t : TypeId} {ds : List D} (ht : P.underlying t = some .string) (h : WT P n t ds) : ∃ l, ds = [.s l] := by
  obtain ⟨m, rfl⟩ := wt_pos h
  simp only [WT, ht] at h; exact ⟨h.choose, h.choose_spec.1⟩
theorem wt_slice {P : Program} {n : Nat} {t e : TypeId} {ds : List D} (ht : P.underlying t = some (.slice e)) (h : WT P n t ds) : ∃ es m, m < n ∧ ds = [.sl es] ∧ ∀ x ∈ es, WT P m e x := by
  obtain ⟨m, rfl⟩ := wt_pos h
  simp only [WT, ht] at h
  obtain ⟨es, h1, _, h2⟩ := h
  exact ⟨es, m, by omega, h1, fun x hx => (h2 x hx).2⟩
theorem wt_struct {P : Program} {n : Nat} {t : TypeId} {fs : Array Field} {ds : List D} (ht : P.underlying t = some (.struct fs)) (h : WT P n t ds) : ∃ m, m < n ∧ WTF P (WT P m) fs.toList ds := by
  obtain ⟨m, rfl⟩ := wt_pos h
  simp only [WT, ht] at h
  exact ⟨m, by omega, h⟩
theorem list_enc {α : Type} {enc : α → List D} : ∀ {es : List (List D)}, (∀ x ∈ es, ∃ m, x = enc m) → ∃ ms : List α, es = ms.map enc
  | [], _ => ⟨[], rfl⟩
  | e :: es, h => by
    obtain ⟨m, hm⟩ := h e (by simp)
    obtain ⟨ms, hms⟩ := list_enc (es := es) fun x hx => h x (by simp [hx])
    exact ⟨m :: ms, by rw [List.map_cons, ← hm, ← hms]⟩
theorem wtf_fit {P : Program} {W : TypeId → List D → Prop} (hW : ∀ t ds, W t ds → FitL ds) : ∀ (fs : List Field) (ds : List D), WTF P W fs ds → FitL ds
  | [], ds, h => by
    have h : ds = [] := h
    rw [h]; exact fitL_nil
  | f :: fs, ds, h => by
    obtain ⟨a, b, rfl, _, h1, h2⟩ := h
    exact fitL_append.2 ⟨hW _ _ h1, wtf_fit hW fs b h2⟩
theorem wt_fit {P : Program} : ∀ (n : Nat) (t : TypeId) (ds : List D), WT P n t ds → FitL ds
  | 0, t, ds, h => h.elim
  | n + 1, t, ds, h => by
    simp only [WT] at h
    split at h
    · obtain ⟨b, rfl⟩ := h; exact fitL_cons.2 ⟨.b _, fitL_nil⟩
    · obtain ⟨b, rfl, _⟩ := h; exact fitL_cons.2 ⟨.i _ _, fitL_nil⟩
    · obtain ⟨l, rfl, hl⟩ := h; exact fitL_cons.2 ⟨.s _ hl, fitL_nil⟩
    · obtain ⟨es, rfl, hl, hh⟩ := h
      exact fitL_cons.2 ⟨.sl _ hl fun e he d hd => wt_fit n _ e (hh e he).2 d hd, fitL_nil⟩
    · exact wtf_fit (wt_fit n) _ _ h
    · exact h.elim
end Go.Ab
namespace Go.Proofs.YtokcpelkieeddaaGreatDoor
open Go Go.Ab
theorem wt_Type : ∀ (n : Nat) (ds : List D), WT Tryz.prog n 24 ds → ∃ x : MType, ds = x.enc := by
  intro n
  induction n using Nat.strongRecOn with
  | _ n ih =>
    intro ds h
    obtain ⟨m, hm, h⟩ := wt_struct Tryz.underlying24 h
    simp only [WTF] at h
    obtain ⟨a0, r0, rfl, l0, h0, a1, r1, rfl, l1, h1, a2, r2, rfl, l2, h2, rfl⟩ := h
    obtain ⟨x0, rfl, _⟩ := wt_int Tryz.underlying3 h0
    obtain ⟨x1, rfl⟩ := wt_string Tryz.underlying9 h1
    obtain ⟨es2, m2, hm2, rfl, hs2⟩ := wt_slice Tryz.underlying22 h2
    obtain ⟨x2, rfl⟩ := list_enc (enc := MType.enc) fun y hy => ih m2 (by omega) y (hs2 y hy)
    refine ⟨MType.mk x0 x1 x2, ?_⟩
    rw [MType.enc_eq]
    simp [MType.fKind, MType.fName, MType.fArgs]
theorem wt_ExprArm : ∀ (n : Nat), (∀ ds : List D, WT Tryz.prog n 28 ds → ∃ x : MExpr, ds = x.enc) ∧ (∀ ds : List D, WT Tryz.prog n 194 ds → ∃ x : MArm, ds = x.enc) := by
  intro n
  induction n using Nat.strongRecOn with
  | _ n ih =>
    refine ⟨fun ds h => ?_, fun ds h => ?_⟩
    · obtain ⟨m, hm, h⟩ := wt_struct Tryz.underlying28 h
      simp only [WTF] at h
      obtain ⟨a0, r0, rfl, l0, h0, a1, r1, rfl, l1, h1, a2, r2, rfl, l2, h2, a3, r3, rfl, l3, h3, a4, r4, rfl, l4, h4, a5, r5, rfl, l5, h5, a6, r6, rfl, l6, h6, rfl⟩ := h
      obtain ⟨x0, rfl, _⟩ := wt_int Tryz.underlying3 h0
      obtain ⟨x1, rfl⟩ := wt_string Tryz.underlying9 h1
      obtain ⟨x2, rfl⟩ := wt_string Tryz.underlying9 h2
      obtain ⟨x3, rfl, _⟩ := wt_int Tryz.underlying3 h3
      obtain ⟨x4, rfl⟩ := wt_Type m a4 h4
      obtain ⟨es5, m5, hm5, rfl, hs5⟩ := wt_slice Tryz.underlying25 h5
      obtain ⟨x5, rfl⟩ := list_enc (enc := MExpr.enc) fun y hy => (ih m5 (by omega)).1 y (hs5 y hy)
      obtain ⟨es6, m6, hm6, rfl, hs6⟩ := wt_slice Tryz.underlying26 h6
      obtain ⟨x6, rfl⟩ := list_enc (enc := MArm.enc) fun y hy => (ih m6 (by omega)).2 y (hs6 y hy)
      refine ⟨MExpr.mk x0 x1 x2 x3 x4 x5 x6, ?_⟩
      rw [MExpr.enc_eq]
      simp [MExpr.fKind, MExpr.fTrait, MExpr.fName, MExpr.fN, MExpr.fType, MExpr.fArgs, MExpr.fArms]
    · obtain ⟨m, hm, h⟩ := wt_struct Tryz.underlying194 h
      simp only [WTF] at h
      obtain ⟨a0, r0, rfl, l0, h0, a1, r1, rfl, l1, h1, a2, r2, rfl, l2, h2, rfl⟩ := h
      obtain ⟨x0, rfl⟩ := wt_string Tryz.underlying9 h0
      obtain ⟨es1, m1, hm1, rfl, hs1⟩ := wt_slice Tryz.underlying47 h1
      obtain ⟨x1, rfl⟩ := list_enc (enc := encS) fun y hy => wt_string Tryz.underlying9 (hs1 y hy)
      obtain ⟨x2, rfl⟩ := (ih m (by omega)).1 a2 h2
      refine ⟨MArm.mk x0 x1 x2, ?_⟩
      rw [MArm.enc_eq]
      simp [MArm.fConstructor, MArm.fVars, MArm.fBody]
theorem wt_Expr (n : Nat) (ds : List D) (h : WT Tryz.prog n 28 ds) : ∃ x : MExpr, ds = x.enc := (wt_ExprArm n).1 ds h
theorem wt_Signature : ∀ (n : Nat) (ds : List D), WT Tryz.prog n 232 ds → ∃ x : MSignature, ds = x.enc := by
  intro n
  induction n using Nat.strongRecOn with
  | _ n ih =>
    intro ds h
    obtain ⟨m, hm, h⟩ := wt_struct Tryz.underlying232 h
    simp only [WTF] at h
    obtain ⟨a0, r0, rfl, l0, h0, a1, r1, rfl, l1, h1, a2, r2, rfl, l2, h2, a3, r3, rfl, l3, h3, a4, r4, rfl, l4, h4, a5, r5, rfl, l5, h5, rfl⟩ := h
    obtain ⟨x0, rfl⟩ := wt_string Tryz.underlying9 h0
    obtain ⟨es1, m1, hm1, rfl, hs1⟩ := wt_slice Tryz.underlying22 h1
    obtain ⟨x1, rfl⟩ := list_enc (enc := MType.enc) fun y hy => wt_Type m1 y (hs1 y hy)
    obtain ⟨x2, rfl⟩ := wt_Type m a2 h2
    obtain ⟨x3, rfl⟩ := wt_bool Tryz.underlying4 h3
    obtain ⟨es4, m4, hm4, rfl, hs4⟩ := wt_slice Tryz.underlying47 h4
    obtain ⟨x4, rfl⟩ := list_enc (enc := encS) fun y hy => wt_string Tryz.underlying9 (hs4 y hy)
    obtain ⟨x5, rfl⟩ := wt_Expr m a5 h5
    refine ⟨MSignature.mk x0 x1 x2 x3 x4 x5, ?_⟩
    rw [MSignature.enc_eq]
    simp
theorem wt_Trait : ∀ (n : Nat) (ds : List D), WT Tryz.prog n 64 ds → ∃ x : MTrait, ds = x.enc := by
  intro n
  induction n using Nat.strongRecOn with
  | _ n ih =>
    intro ds h
    obtain ⟨m, hm, h⟩ := wt_struct Tryz.underlying64 h
    simp only [WTF] at h
    obtain ⟨a0, r0, rfl, l0, h0, a1, r1, rfl, l1, h1, a2, r2, rfl, l2, h2, a3, r3, rfl, l3, h3, a4, r4, rfl, l4, h4, rfl⟩ := h
    obtain ⟨x0, rfl⟩ := wt_string Tryz.underlying9 h0
    obtain ⟨es1, m1, hm1, rfl, hs1⟩ := wt_slice Tryz.underlying47 h1
    obtain ⟨x1, rfl⟩ := list_enc (enc := encS) fun y hy => wt_string Tryz.underlying9 (hs1 y hy)
    obtain ⟨x2, rfl⟩ := wt_bool Tryz.underlying4 h2
    obtain ⟨x3, rfl⟩ := wt_bool Tryz.underlying4 h3
    obtain ⟨es4, m4, hm4, rfl, hs4⟩ := wt_slice Tryz.underlying62 h4
    obtain ⟨x4, rfl⟩ := list_enc (enc := MSignature.enc) fun y hy => wt_Signature m4 y (hs4 y hy)
    refine ⟨MTrait.mk x0 x1 x2 x3 x4, ?_⟩
    rw [MTrait.enc_eq]
    simp
end Go.Proofs.YtokcpelkieeddaaGreatDoor

