/-
  SEVERAL TEXTS IN ONE (merged by program): contracts and models, each with its own heading.
-/
import Derived.Test.YtokcpelkieeddaaGreatDoorPartUnbE
import Derived.Test.YtokcpelkieeddaaGreatDoorRows
import Derived.OpenShut
import Derived.LaidMore
set_option linter.unusedSimpArgs false
set_option linter.unusedVariables false
set_option maxRecDepth 8000
set_option maxRecDepth 4000
namespace Go.Proofs.YtokcpelkieeddaaGreatDoor
open Go Go.Ab
theorem toBound_lab (x : MBound) : ∀ n : Nat, x.sz ≤ 1048576 → PCall Tryz.prog 174 [x.v] (.agg ((labR x.enc n).map .d)) := by
  intro n hsz S
  simp only [MBound.sz, MBound.enc_eq, szRow, szRow_append, D.sz, List.length_map, MType.sz_def] at hsz
  refine acall_cw (rs := [.cell 2 220]) Tryz.checked.mixed Tryz.func174 Tryz.ntmps174 rfl rfl rfl rfl rfl ?_
  simp only [MBound.enc_eq, MType.enc_eq, encS, encI, List.cons_append, List.nil_append, labR, labD, cntR, cntD, List.map_cons, List.map_nil, Nat.add_zero]
  simp -implicitDefEqProofs (disch := omega) only [go_sem]
  refine call_w (toType_lab x.fType (n) (by omega)) ?_
  simp -implicitDefEqProofs (disch := omega) only [go_sem, MType.enc_eq, encS, encI, List.cons_append, List.nil_append, labR, labD, cntR, cntD, List.map_cons, List.map_nil, Nat.add_zero]
  all_goals (first | rfl | (simp only [Nat.add_assoc]; done))
theorem toBoundS_lab (xs : List MBound) : ∀ n : Nat, xs.length + szRows (xs.map MBound.enc) ≤ 1048576 → PCall Tryz.prog 85 [.c (.d (.sl (xs.map MBound.enc)))] (.c (.d (labD (.sl (xs.map MBound.enc)) n))) := by
  intro n hsz
  obtain ⟨T, hT⟩ : ∃ T, T = labRs (xs.map MBound.enc) (n + 1) := ⟨_, rfl⟩
  have hTl : T.length = xs.length := by rw [hT, labRs_length, List.length_map]
  show PCall Tryz.prog 85 [.c (.d (.sl (xs.map MBound.enc)))] (.c (.d (.ol n (labRs (xs.map MBound.enc) (n + 1))))) 
  rw [← hT]
  intro S
  refine acall_cwL (n) (rs := [.tmp 2]) Tryz.checked.mixed Tryz.func85 Tryz.ntmps85 rfl rfl rfl rfl rfl ?_
  simp -implicitDefEqProofs (disch := omega) only [go_sem]
  (repeat (with_reducible refine And.intro ?_ ?_; focus first | omega | rfl | assumption | exact ⟨_, rfl, rfl⟩ | (simp; omega) | (simp; done)))
  refine loop_at (ι := Nat × List (List D)) Tryz.checked.mixed rfl [0, 3, 4] (fun y => [.c (.d (.sl (xs.map MBound.enc))), .c (.msl (0, 1)), .c (.d (.i .i64 y.1))]) (fun y => [.seed n, .mrow 4 y.2] :: S)
    (fun y => y.1 ≤ xs.length ∧ Filled 4 y.1 y.2 T) (fun y => xs.length - y.1) (0, _) rfl rfl ⟨Nat.zero_le _, Filled.start (by simp [hTl]) rfl⟩ ?_
  rintro ⟨i, R⟩ ⟨p1, p2⟩
  simp only at p1 p2
  simp -implicitDefEqProofs (disch := omega) only [go_sem]
  with_reducible refine split2 (fun hb => ?_) (fun hb => ?_) <;> have h := hb <;> (try simp only [wf_preprocess] at h) <;> simp -implicitDefEqProofs (disch := omega) only [go_sem, hb] <;> (repeat (with_reducible refine And.intro ?_ ?_; focus first | omega | rfl | assumption | exact ⟨_, rfl, rfl⟩ | (simp; omega) | (simp; done)))
  · have hi : i < xs.length := by omega
    have hir : i < (xs.map MBound.enc).length := by rw [List.length_map]; exact hi
    have hR := p2.1
    rw [hTl] at hR
    have hTi : T[i]? = some (labR (MBound.enc xs[i]) (n + 1 + cntRs ((xs.map MBound.enc).take i))) := by
      rw [hT, labRs_at hir, List.getElem_map]
    have hx : xs[i].sz ≤ szRows (xs.map MBound.enc) := szRows_mem (List.mem_map_of_mem (List.getElem_mem hi))
    (repeat (with_reducible refine And.intro ?_ ?_; focus first | omega | rfl | assumption | exact ⟨_, rfl, rfl⟩ | (simp; omega) | (simp; done)))
    refine call_w (toBound_lab xs[i] (n + 1 + cntRs ((xs.map MBound.enc).take i)) (by omega)) ?_
    obtain ⟨row, hrow⟩ : ∃ row, row = labR (MBound.enc xs[i]) (n + 1 + cntRs ((xs.map MBound.enc).take i)) := ⟨_, rfl⟩
    have hrl : row.length = 4 := by rw [hrow, labR_length, MBound.enc_length]
    rw [← hrow] at hTi ⊢
    simp -implicitDefEqProofs (disch := omega) only [go_sem, hrl, mapM_toD]
    (repeat (with_reducible refine And.intro ?_ ?_; focus first | omega | rfl | assumption | exact ⟨_, rfl, rfl⟩ | (simp; omega) | (simp; done)))
    refine inv_at (i + 1, _) (by simp only; omega) rfl rfl ⟨by simp only; omega, p2.step hTi hrl⟩
  · have hi : i = xs.length := by omega
    rw [p2.done (by omega)]
end Go.Proofs.YtokcpelkieeddaaGreatDoor

namespace Go.Proofs.YtokcpelkieeddaaGreatDoor
open Go Go.Ab
theorem toExpr_labs : ∀ N : Nat, (∀ x : MExpr, SizeOf.sizeOf x < N → ∀ n : Nat, x.sz ≤ 1048576 → PCall Tryz.prog 13 [x.v] (.agg ((labR x.enc n).map .d))) ∧
    (∀ xs : List MExpr, SizeOf.sizeOf xs < N → ∀ n : Nat, xs.length + szRows (xs.map MExpr.enc) ≤ 1048576 → PCall Tryz.prog 60 [.c (.d (.sl (xs.map MExpr.enc)))] (.c (.d (labD (.sl (xs.map MExpr.enc)) n)))) ∧
    (∀ x : MArm, SizeOf.sizeOf x < N → ∀ n : Nat, x.sz ≤ 1048576 → PCall Tryz.prog 156 [x.v] (.agg ((labR x.enc n).map .d))) ∧
    (∀ xs : List MArm, SizeOf.sizeOf xs < N → ∀ n : Nat, xs.length + szRows (xs.map MArm.enc) ≤ 1048576 → PCall Tryz.prog 61 [.c (.d (.sl (xs.map MArm.enc)))] (.c (.d (labD (.sl (xs.map MArm.enc)) n))))
  | 0 => ⟨fun x h => by omega, fun x h => by omega, fun x h => by omega, fun x h => by omega⟩
  | N + 1 => by
    obtain ⟨ihExpr, ihSExpr, ihArm, ihSArm⟩ := toExpr_labs N
    refine ⟨fun x hn n hsz => ?_, fun xs hn n hsz => ?_, fun x hn n hsz => ?_, fun xs hn n hsz => ?_⟩
    · intro S
      have lArgs := MExpr.lt_Args x
      have lArms := MExpr.lt_Arms x
      simp only [MExpr.sz, MExpr.enc_eq, szRow, szRow_append, D.sz, List.length_map, MType.sz_def] at hsz
      refine acall_cw (rs := [.cell 2 40]) Tryz.checked.mixed Tryz.func13 Tryz.ntmps13 rfl rfl rfl rfl rfl ?_
      simp only [MExpr.enc_eq, MType.enc_eq, encS, encI, List.cons_append, List.nil_append, labR, labD, cntR, cntD, List.map_cons, List.map_nil, Nat.add_zero]
      simp -implicitDefEqProofs (disch := omega) only [go_sem]
      refine call_w (toType_lab x.fType (n) (by omega)) ?_
      simp -implicitDefEqProofs (disch := omega) only [go_sem, MType.enc_eq, encS, encI, List.cons_append, List.nil_append, labR, labD, cntR, cntD, List.map_cons, List.map_nil, Nat.add_zero]
      refine call_w (ihSExpr x.fArgs (by omega) (n + (cntRs (x.fType.fArgs.map MType.enc) + 1)) (by omega)) ?_
      simp -implicitDefEqProofs (disch := omega) only [go_sem, labD]
      refine call_w (ihSArm x.fArms (by omega) (n + (cntRs (x.fType.fArgs.map MType.enc) + 1) + (cntRs (x.fArgs.map MExpr.enc) + 1)) (by omega)) ?_
      simp -implicitDefEqProofs (disch := omega) only [go_sem, labD]
      all_goals (first | rfl | (simp only [Nat.add_assoc]; done))
    · obtain ⟨T, hT⟩ : ∃ T, T = labRs (xs.map MExpr.enc) (n + 1) := ⟨_, rfl⟩
      have hTl : T.length = xs.length := by rw [hT, labRs_length, List.length_map]
      show PCall Tryz.prog 60 [.c (.d (.sl (xs.map MExpr.enc)))] (.c (.d (.ol n (labRs (xs.map MExpr.enc) (n + 1))))) 
      rw [← hT]
      intro S
      refine acall_cwL (n) (rs := [.tmp 2]) Tryz.checked.mixed Tryz.func60 Tryz.ntmps60 rfl rfl rfl rfl rfl ?_
      simp -implicitDefEqProofs (disch := omega) only [go_sem]
      (repeat (with_reducible refine And.intro ?_ ?_; focus first | omega | rfl | assumption | exact ⟨_, rfl, rfl⟩ | (simp; omega) | (simp; done)))
      refine loop_at (ι := Nat × List (List D)) Tryz.checked.mixed rfl [0, 3, 4] (fun y => [.c (.d (.sl (xs.map MExpr.enc))), .c (.msl (0, 1)), .c (.d (.i .i64 y.1))]) (fun y => [.seed n, .mrow 9 y.2] :: S)
        (fun y => y.1 ≤ xs.length ∧ Filled 9 y.1 y.2 T) (fun y => xs.length - y.1) (0, _) rfl rfl ⟨Nat.zero_le _, Filled.start (by simp [hTl]) rfl⟩ ?_
      rintro ⟨i, R⟩ ⟨p1, p2⟩
      simp only at p1 p2
      simp -implicitDefEqProofs (disch := omega) only [go_sem]
      with_reducible refine split2 (fun hb => ?_) (fun hb => ?_) <;> have h := hb <;> (try simp only [wf_preprocess] at h) <;> simp -implicitDefEqProofs (disch := omega) only [go_sem, hb] <;> (repeat (with_reducible refine And.intro ?_ ?_; focus first | omega | rfl | assumption | exact ⟨_, rfl, rfl⟩ | (simp; omega) | (simp; done)))
      · have hi : i < xs.length := by omega
        have hir : i < (xs.map MExpr.enc).length := by rw [List.length_map]; exact hi
        have hR := p2.1
        rw [hTl] at hR
        have hTi : T[i]? = some (labR (MExpr.enc xs[i]) (n + 1 + cntRs ((xs.map MExpr.enc).take i))) := by
          rw [hT, labRs_at hir, List.getElem_map]
        have hx : xs[i].sz ≤ szRows (xs.map MExpr.enc) := szRows_mem (List.mem_map_of_mem (List.getElem_mem hi))
        (repeat (with_reducible refine And.intro ?_ ?_; focus first | omega | rfl | assumption | exact ⟨_, rfl, rfl⟩ | (simp; omega) | (simp; done)))
        refine call_w (ihExpr xs[i] (by have := List.sizeOf_lt_of_mem (List.getElem_mem hi); omega) (n + 1 + cntRs ((xs.map MExpr.enc).take i)) (by omega)) ?_
        obtain ⟨row, hrow⟩ : ∃ row, row = labR (MExpr.enc xs[i]) (n + 1 + cntRs ((xs.map MExpr.enc).take i)) := ⟨_, rfl⟩
        have hrl : row.length = 9 := by rw [hrow, labR_length, MExpr.enc_length]
        rw [← hrow] at hTi ⊢
        simp -implicitDefEqProofs (disch := omega) only [go_sem, hrl, mapM_toD]
        (repeat (with_reducible refine And.intro ?_ ?_; focus first | omega | rfl | assumption | exact ⟨_, rfl, rfl⟩ | (simp; omega) | (simp; done)))
        refine inv_at (i + 1, _) (by simp only; omega) rfl rfl ⟨by simp only; omega, p2.step hTi hrl⟩
      · have hi : i = xs.length := by omega
        rw [p2.done (by omega)]
    · intro S
      have lBody := MArm.lt_Body x
      simp only [MArm.sz, MArm.enc_eq, szRow, szRow_append, D.sz, List.length_map, MExpr.sz_def] at hsz
      refine acall_cw (rs := [.cell 2 198]) Tryz.checked.mixed Tryz.func156 Tryz.ntmps156 rfl rfl rfl rfl rfl ?_
      simp only [MArm.enc_eq, MExpr.enc_eq, MType.enc_eq, encS, encI, List.cons_append, List.nil_append, labR, labD, cntR, cntD, List.map_cons, List.map_nil, Nat.add_zero]
      simp -implicitDefEqProofs (disch := omega) only [go_sem]
      refine call_w (toStringS_lab x.fVars (n) (by omega)) ?_
      simp -implicitDefEqProofs (disch := omega) only [go_sem, labD]
      refine call_w (ihExpr x.fBody (by omega) (n + (cntRs (x.fVars.map encS) + 1)) (by omega)) ?_
      simp -implicitDefEqProofs (disch := omega) only [go_sem, MExpr.enc_eq, MType.enc_eq, encS, encI, List.cons_append, List.nil_append, labR, labD, cntR, cntD, List.map_cons, List.map_nil, Nat.add_zero]
      all_goals (first | rfl | (simp only [Nat.add_assoc]; done))
    · obtain ⟨T, hT⟩ : ∃ T, T = labRs (xs.map MArm.enc) (n + 1) := ⟨_, rfl⟩
      have hTl : T.length = xs.length := by rw [hT, labRs_length, List.length_map]
      show PCall Tryz.prog 61 [.c (.d (.sl (xs.map MArm.enc)))] (.c (.d (.ol n (labRs (xs.map MArm.enc) (n + 1))))) 
      rw [← hT]
      intro S
      refine acall_cwL (n) (rs := [.tmp 2]) Tryz.checked.mixed Tryz.func61 Tryz.ntmps61 rfl rfl rfl rfl rfl ?_
      simp -implicitDefEqProofs (disch := omega) only [go_sem]
      (repeat (with_reducible refine And.intro ?_ ?_; focus first | omega | rfl | assumption | exact ⟨_, rfl, rfl⟩ | (simp; omega) | (simp; done)))
      refine loop_at (ι := Nat × List (List D)) Tryz.checked.mixed rfl [0, 3, 4] (fun y => [.c (.d (.sl (xs.map MArm.enc))), .c (.msl (0, 1)), .c (.d (.i .i64 y.1))]) (fun y => [.seed n, .mrow 11 y.2] :: S)
        (fun y => y.1 ≤ xs.length ∧ Filled 11 y.1 y.2 T) (fun y => xs.length - y.1) (0, _) rfl rfl ⟨Nat.zero_le _, Filled.start (by simp [hTl]) rfl⟩ ?_
      rintro ⟨i, R⟩ ⟨p1, p2⟩
      simp only at p1 p2
      simp -implicitDefEqProofs (disch := omega) only [go_sem]
      with_reducible refine split2 (fun hb => ?_) (fun hb => ?_) <;> have h := hb <;> (try simp only [wf_preprocess] at h) <;> simp -implicitDefEqProofs (disch := omega) only [go_sem, hb] <;> (repeat (with_reducible refine And.intro ?_ ?_; focus first | omega | rfl | assumption | exact ⟨_, rfl, rfl⟩ | (simp; omega) | (simp; done)))
      · have hi : i < xs.length := by omega
        have hir : i < (xs.map MArm.enc).length := by rw [List.length_map]; exact hi
        have hR := p2.1
        rw [hTl] at hR
        have hTi : T[i]? = some (labR (MArm.enc xs[i]) (n + 1 + cntRs ((xs.map MArm.enc).take i))) := by
          rw [hT, labRs_at hir, List.getElem_map]
        have hx : xs[i].sz ≤ szRows (xs.map MArm.enc) := szRows_mem (List.mem_map_of_mem (List.getElem_mem hi))
        (repeat (with_reducible refine And.intro ?_ ?_; focus first | omega | rfl | assumption | exact ⟨_, rfl, rfl⟩ | (simp; omega) | (simp; done)))
        refine call_w (ihArm xs[i] (by have := List.sizeOf_lt_of_mem (List.getElem_mem hi); omega) (n + 1 + cntRs ((xs.map MArm.enc).take i)) (by omega)) ?_
        obtain ⟨row, hrow⟩ : ∃ row, row = labR (MArm.enc xs[i]) (n + 1 + cntRs ((xs.map MArm.enc).take i)) := ⟨_, rfl⟩
        have hrl : row.length = 11 := by rw [hrow, labR_length, MArm.enc_length]
        rw [← hrow] at hTi ⊢
        simp -implicitDefEqProofs (disch := omega) only [go_sem, hrl, mapM_toD]
        (repeat (with_reducible refine And.intro ?_ ?_; focus first | omega | rfl | assumption | exact ⟨_, rfl, rfl⟩ | (simp; omega) | (simp; done)))
        refine inv_at (i + 1, _) (by simp only; omega) rfl rfl ⟨by simp only; omega, p2.step hTi hrl⟩
      · have hi : i = xs.length := by omega
        rw [p2.done (by omega)]
theorem toExpr_lab (x : MExpr) : ∀ n : Nat, x.sz ≤ 1048576 → PCall Tryz.prog 13 [x.v] (.agg ((labR x.enc n).map .d)) := (toExpr_labs _).1 x (Nat.lt_succ_self _)
end Go.Proofs.YtokcpelkieeddaaGreatDoor

namespace Go.Proofs.YtokcpelkieeddaaGreatDoor
open Go Go.Ab
end Go.Proofs.YtokcpelkieeddaaGreatDoor

namespace Go.Proofs.YtokcpelkieeddaaGreatDoor
open Go Go.Ab
end Go.Proofs.YtokcpelkieeddaaGreatDoor

namespace Go.Proofs.YtokcpelkieeddaaGreatDoor
open Go Go.Ab
end Go.Proofs.YtokcpelkieeddaaGreatDoor

namespace Go.Proofs.YtokcpelkieeddaaGreatDoor
open Go Go.Ab
end Go.Proofs.YtokcpelkieeddaaGreatDoor

namespace Go.Proofs.YtokcpelkieeddaaGreatDoor
open Go Go.Ab
end Go.Proofs.YtokcpelkieeddaaGreatDoor

namespace Go.Proofs.YtokcpelkieeddaaGreatDoor
open Go Go.Ab
end Go.Proofs.YtokcpelkieeddaaGreatDoor

namespace Go.Proofs.YtokcpelkieeddaaGreatDoor
open Go Go.Ab
end Go.Proofs.YtokcpelkieeddaaGreatDoor

namespace Go.Proofs.YtokcpelkieeddaaGreatDoor
open Go Go.Ab
theorem toParam_lab (x : MParam) : ∀ n : Nat, x.sz ≤ 1048576 → PCall Tryz.prog 175 [x.v] (.agg ((labR x.enc n).map .d)) := by
  intro n hsz S
  simp only [MParam.sz, MParam.enc_eq, szRow, szRow_append, D.sz, List.length_map, MType.sz_def] at hsz
  refine acall_cw (rs := [.cell 2 138]) Tryz.checked.mixed Tryz.func175 Tryz.ntmps175 rfl rfl rfl rfl rfl ?_
  simp only [MParam.enc_eq, MType.enc_eq, encS, encI, List.cons_append, List.nil_append, labR, labD, cntR, cntD, List.map_cons, List.map_nil, Nat.add_zero]
  simp -implicitDefEqProofs (disch := omega) only [go_sem]
  refine call_w (toType_lab x.fType (n) (by omega)) ?_
  simp -implicitDefEqProofs (disch := omega) only [go_sem, MType.enc_eq, encS, encI, List.cons_append, List.nil_append, labR, labD, cntR, cntD, List.map_cons, List.map_nil, Nat.add_zero]
  all_goals (first | rfl | (simp only [Nat.add_assoc]; done))
theorem toParamS_lab (xs : List MParam) : ∀ n : Nat, xs.length + szRows (xs.map MParam.enc) ≤ 1048576 → PCall Tryz.prog 86 [.c (.d (.sl (xs.map MParam.enc)))] (.c (.d (labD (.sl (xs.map MParam.enc)) n))) := by
  intro n hsz
  obtain ⟨T, hT⟩ : ∃ T, T = labRs (xs.map MParam.enc) (n + 1) := ⟨_, rfl⟩
  have hTl : T.length = xs.length := by rw [hT, labRs_length, List.length_map]
  show PCall Tryz.prog 86 [.c (.d (.sl (xs.map MParam.enc)))] (.c (.d (.ol n (labRs (xs.map MParam.enc) (n + 1))))) 
  rw [← hT]
  intro S
  refine acall_cwL (n) (rs := [.tmp 2]) Tryz.checked.mixed Tryz.func86 Tryz.ntmps86 rfl rfl rfl rfl rfl ?_
  simp -implicitDefEqProofs (disch := omega) only [go_sem]
  (repeat (with_reducible refine And.intro ?_ ?_; focus first | omega | rfl | assumption | exact ⟨_, rfl, rfl⟩ | (simp; omega) | (simp; done)))
  refine loop_at (ι := Nat × List (List D)) Tryz.checked.mixed rfl [0, 3, 4] (fun y => [.c (.d (.sl (xs.map MParam.enc))), .c (.msl (0, 1)), .c (.d (.i .i64 y.1))]) (fun y => [.seed n, .mrow 4 y.2] :: S)
    (fun y => y.1 ≤ xs.length ∧ Filled 4 y.1 y.2 T) (fun y => xs.length - y.1) (0, _) rfl rfl ⟨Nat.zero_le _, Filled.start (by simp [hTl]) rfl⟩ ?_
  rintro ⟨i, R⟩ ⟨p1, p2⟩
  simp only at p1 p2
  simp -implicitDefEqProofs (disch := omega) only [go_sem]
  with_reducible refine split2 (fun hb => ?_) (fun hb => ?_) <;> have h := hb <;> (try simp only [wf_preprocess] at h) <;> simp -implicitDefEqProofs (disch := omega) only [go_sem, hb] <;> (repeat (with_reducible refine And.intro ?_ ?_; focus first | omega | rfl | assumption | exact ⟨_, rfl, rfl⟩ | (simp; omega) | (simp; done)))
  · have hi : i < xs.length := by omega
    have hir : i < (xs.map MParam.enc).length := by rw [List.length_map]; exact hi
    have hR := p2.1
    rw [hTl] at hR
    have hTi : T[i]? = some (labR (MParam.enc xs[i]) (n + 1 + cntRs ((xs.map MParam.enc).take i))) := by
      rw [hT, labRs_at hir, List.getElem_map]
    have hx : xs[i].sz ≤ szRows (xs.map MParam.enc) := szRows_mem (List.mem_map_of_mem (List.getElem_mem hi))
    (repeat (with_reducible refine And.intro ?_ ?_; focus first | omega | rfl | assumption | exact ⟨_, rfl, rfl⟩ | (simp; omega) | (simp; done)))
    refine call_w (toParam_lab xs[i] (n + 1 + cntRs ((xs.map MParam.enc).take i)) (by omega)) ?_
    obtain ⟨row, hrow⟩ : ∃ row, row = labR (MParam.enc xs[i]) (n + 1 + cntRs ((xs.map MParam.enc).take i)) := ⟨_, rfl⟩
    have hrl : row.length = 4 := by rw [hrow, labR_length, MParam.enc_length]
    rw [← hrow] at hTi ⊢
    simp -implicitDefEqProofs (disch := omega) only [go_sem, hrl, mapM_toD]
    (repeat (with_reducible refine And.intro ?_ ?_; focus first | omega | rfl | assumption | exact ⟨_, rfl, rfl⟩ | (simp; omega) | (simp; done)))
    refine inv_at (i + 1, _) (by simp only; omega) rfl rfl ⟨by simp only; omega, p2.step hTi hrl⟩
  · have hi : i = xs.length := by omega
    rw [p2.done (by omega)]
end Go.Proofs.YtokcpelkieeddaaGreatDoor

namespace Go.Proofs.YtokcpelkieeddaaGreatDoor
open Go Go.Ab
theorem toFunction_lab (x : MFunction) : ∀ n : Nat, x.sz ≤ 1048576 → PCall Tryz.prog 22 [x.v] (.agg ((labR x.enc n).map .d)) := by
  intro n hsz S
  simp only [MFunction.sz, MFunction.enc_eq, szRow, szRow_append, D.sz, List.length_map, MExpr.sz_def, MType.sz_def] at hsz
  refine acall_cw (rs := [.cell 2 57]) Tryz.checked.mixed Tryz.func22 Tryz.ntmps22 rfl rfl rfl rfl rfl ?_
  simp only [MExpr.enc_eq, MFunction.enc_eq, MType.enc_eq, encS, encI, List.cons_append, List.nil_append, labR, labD, cntR, cntD, List.map_cons, List.map_nil, Nat.add_zero]
  simp -implicitDefEqProofs (disch := omega) only [go_sem]
  refine call_w (toStringS_lab x.fVars (n) (by omega)) ?_
  simp -implicitDefEqProofs (disch := omega) only [go_sem, labD]
  refine call_w (toBoundS_lab x.fWhere (n + (cntRs (x.fVars.map encS) + 1)) (by omega)) ?_
  simp -implicitDefEqProofs (disch := omega) only [go_sem, labD]
  refine call_w (toParamS_lab x.fParams (n + (cntRs (x.fVars.map encS) + 1) + (cntRs (x.fWhere.map MBound.enc) + 1)) (by omega)) ?_
  simp -implicitDefEqProofs (disch := omega) only [go_sem, labD]
  refine call_w (toType_lab x.fResult (n + (cntRs (x.fVars.map encS) + 1) + (cntRs (x.fWhere.map MBound.enc) + 1) + (cntRs (x.fParams.map MParam.enc) + 1)) (by omega)) ?_
  simp -implicitDefEqProofs (disch := omega) only [go_sem, MType.enc_eq, encS, encI, List.cons_append, List.nil_append, labR, labD, cntR, cntD, List.map_cons, List.map_nil, Nat.add_zero]
  refine call_w (toExpr_lab x.fBody (n + (cntRs (x.fVars.map encS) + 1) + (cntRs (x.fWhere.map MBound.enc) + 1) + (cntRs (x.fParams.map MParam.enc) + 1) + (cntRs (x.fResult.fArgs.map MType.enc) + 1)) (by omega)) ?_
  simp -implicitDefEqProofs (disch := omega) only [go_sem, MExpr.enc_eq, MType.enc_eq, encS, encI, List.cons_append, List.nil_append, labR, labD, cntR, cntD, List.map_cons, List.map_nil, Nat.add_zero]
  all_goals (first | rfl | (simp only [Nat.add_assoc]; done))
end Go.Proofs.YtokcpelkieeddaaGreatDoor

namespace Go.Proofs.YtokcpelkieeddaaGreatDoor
open Go Go.Ab
theorem markStringS_ok (xs : List (List UInt8)) : ∀ (k : Int) (l j r : Nat) (p : List (Nat × Nat)) (S : Store) (rs : List (List (List D))), getO S (l, j) = some (.xf rs) → atR rs r p = some (xs.map encS) → 0 ≤ k ∧ k + mcRs (xs.map encS) ≤ 4611686018427387904 → ACall Tryz.prog 92 [.c (.xp (l, j) r p), .c (.d (.i .i64 k))] S (fun res S' => res = .c (.d (.i .i64 (k + mcRs (xs.map encS)))) ∧ S' = setO S (l, j) (.xf (updR rs r p (mkRs (xs.map encS) k)))) := by
  intro k l j r p S rs hS hp hk
  have hlen := len_mc (f := encS) (fun x => by simp only [encS, List.cons_append, List.nil_append, mcR, mcD]; omega) xs
  obtain ⟨rows, hr⟩ : ∃ rows, rows = xs.map encS := ⟨_, rfl⟩
  have hl : rows.length = xs.length := by rw [hr, List.length_map]
  rw [← hr] at hp hk hlen ⊢
  have ht : ∀ x : Ab.Obj, getO (setO S (l, j) x) (l, j) = some x := fun x => getO_setO_eq _ _ _ _ hS
  have hA : ∀ new, atR (updR rs r p new) r p = some new := fun new => atR_updR hp
  have hU : ∀ a b, updR (updR rs r p a) r p b = updR rs r p b := fun a b => updR_updR hp
  refine acall_cw (rs := [.tmp 4]) Tryz.checked.mixed Tryz.func92 Tryz.ntmps92 rfl rfl rfl rfl rfl ?_
  simp -implicitDefEqProofs (disch := omega) only [go_sem]
  refine loop_at (ι := Nat) Tryz.checked.mixed rfl [0, 1, 5] (fun i => [.c (.xp (1 + l, j) r p), .c (.d (.i .i64 (k + mcRs (rows.take i)))), .c (.d (.i .i64 i))])
    (fun i => [] :: setO S (l, j) (.xf (updR rs r p (mkTo rows k i)))) (fun i => i ≤ xs.length) (fun i => xs.length - i) 0 ?_ ?_ (Nat.zero_le _) ?_
  · have z0 : k + ((mcRs (rows.take 0) : Nat) : Int) = k := by simp [mcRs]
    rw [z0]
    rfl
  · rw [mkTo_zero, updR_same hp, setO_self _ _ hS]
  intro i hi
  simp -implicitDefEqProofs (disch := omega) only [go_sem, ht, hA, mkTo_length, hl]
  with_reducible refine split2 (fun hb => ?_) (fun hb => ?_) <;> have h := hb <;> try simp only [wf_preprocess] at h
  · have hi : i < xs.length := by omega
    have hir : i < rows.length := by omega
    obtain ⟨x, hx⟩ : ∃ x, x = xs[i] := ⟨_, rfl⟩
    have e1 : rows[i] = [.s x] := by
      simp only [hr, List.getElem_map, ← hx]
      simp only [encS, List.cons_append, List.nil_append]
    have hm := mcRs_take hir
    have hle := mcRs_le (rows := rows) (i := i + 1)
    rw [hm, e1] at hle
    rw [e1] at hm
    simp only [mcR, mcD] at hle hm
    have hK : k + ((mcRs (rows.take (i + 1)) : Nat) : Int) = k + ((mcRs (rows.take i) : Nat) : Int) + 1 := by rw [hm]; omega
    have e2 := mkTo_at (k := k) hir
    rw [e1] at e2
    have hC : ∀ row o, cellAt (mkAt rows k i row) i o = row[o]? := fun row o => mkAt_cell hir
    have hG : ∀ row, (mkAt rows k i row).getD i [] = row := fun row => mkAt_get hir
    simp -implicitDefEqProofs (disch := omega) only [go_sem, hb, ht, hA, hU, e2, hC, hG, mkAt_set, mkAt_length, hl, setO_twice, isSD]
    (repeat (with_reducible refine And.intro ?_ ?_; focus first | omega | rfl | assumption | exact ⟨_, rfl, rfl⟩ | (simp; omega) | (simp; done)))
    refine call_w (markText_ok (k + ((mcRs (rows.take i) : Nat) : Int)) (by omega)) ?_
    simp -implicitDefEqProofs (disch := omega) only [go_sem, hb, ht, hA, hU, e2, hC, hG, mkAt_set, mkAt_length, hl, setO_twice, isSD]
    (repeat (with_reducible refine And.intro ?_ ?_; focus first | omega | rfl | assumption | exact ⟨_, rfl, rfl⟩ | (simp; omega) | (simp; done)))
    refine inv_at (i + 1) (by omega) (by rw [hK]; rfl) ?_ (by omega)
    have h3 := mkAt_to (k := k) hir
    rw [e1] at h3
    simp only [mkR, mkD] at h3
    rw [← h3]
    all_goals rfl
  · simp -implicitDefEqProofs (disch := omega) only [go_sem, hb]
    have hi : i = xs.length := by omega
    rw [mkTo_all (by omega), List.take_of_length_le (by omega)]
    all_goals (first | rfl | exact ⟨rfl, rfl⟩)
end Go.Proofs.YtokcpelkieeddaaGreatDoor

namespace Go.Proofs.YtokcpelkieeddaaGreatDoor
open Go Go.Ab
end Go.Proofs.YtokcpelkieeddaaGreatDoor

namespace Go.Proofs.YtokcpelkieeddaaGreatDoor
open Go Go.Ab
theorem markType_all : ∀ n : Nat, (∀ xs : List MType, SizeOf.sizeOf xs < n → ∀ (k : Int) (l j r : Nat) (p : List (Nat × Nat)) (S : Store) (rs : List (List (List D))), getO S (l, j) = some (.xf rs) → atR rs r p = some (xs.map MType.enc) → 0 ≤ k ∧ k + mcRs (xs.map MType.enc) ≤ 4611686018427387904 → ACall Tryz.prog 165 [.c (.xp (l, j) r p), .c (.d (.i .i64 k))] S (fun res S' => res = .c (.d (.i .i64 (k + mcRs (xs.map MType.enc)))) ∧ S' = setO S (l, j) (.xf (updR rs r p (mkRs (xs.map MType.enc) k)))))
  | 0 => fun xs h => by omega
  | n + 1 => by
    have ihType := markType_all n
    refine fun xs hn k l j r p S rs hS hp hk => ?_
    · have hlen := len_mc (f := MType.enc) (fun x => by simp only [MType.enc_eq, encS, encI, List.cons_append, List.nil_append, mcR, mcD]; omega) xs
      obtain ⟨rows, hr⟩ : ∃ rows, rows = xs.map MType.enc := ⟨_, rfl⟩
      have hl : rows.length = xs.length := by rw [hr, List.length_map]
      rw [← hr] at hp hk hlen ⊢
      have ht : ∀ x : Ab.Obj, getO (setO S (l, j) x) (l, j) = some x := fun x => getO_setO_eq _ _ _ _ hS
      have hA : ∀ new, atR (updR rs r p new) r p = some new := fun new => atR_updR hp
      have hU : ∀ a b, updR (updR rs r p a) r p b = updR rs r p b := fun a b => updR_updR hp
      refine acall_cw (rs := [.tmp 4]) Tryz.checked.mixed Tryz.func165 Tryz.ntmps165 rfl rfl rfl rfl rfl ?_
      simp -implicitDefEqProofs (disch := omega) only [go_sem]
      refine loop_at (ι := Nat) Tryz.checked.mixed rfl [0, 1, 5] (fun i => [.c (.xp (1 + l, j) r p), .c (.d (.i .i64 (k + mcRs (rows.take i)))), .c (.d (.i .i64 i))])
        (fun i => [] :: setO S (l, j) (.xf (updR rs r p (mkTo rows k i)))) (fun i => i ≤ xs.length) (fun i => xs.length - i) 0 ?_ ?_ (Nat.zero_le _) ?_
      · have z0 : k + ((mcRs (rows.take 0) : Nat) : Int) = k := by simp [mcRs]
        rw [z0]
        rfl
      · rw [mkTo_zero, updR_same hp, setO_self _ _ hS]
      intro i hi
      simp -implicitDefEqProofs (disch := omega) only [go_sem, ht, hA, mkTo_length, hl]
      with_reducible refine split2 (fun hb => ?_) (fun hb => ?_) <;> have h := hb <;> try simp only [wf_preprocess] at h
      · have hi : i < xs.length := by omega
        have hir : i < rows.length := by omega
        obtain ⟨x, hx⟩ : ∃ x, x = xs[i] := ⟨_, rfl⟩
        have e1 : rows[i] = [.i .i64 x.fKind, .s x.fName, .sl (x.fArgs.map MType.enc)] := by
          simp only [hr, List.getElem_map, ← hx]
          simp only [MType.enc_eq, encS, encI, List.cons_append, List.nil_append]
        have hm := mcRs_take hir
        have hle := mcRs_le (rows := rows) (i := i + 1)
        rw [hm, e1] at hle
        rw [e1] at hm
        simp only [mcR, mcD] at hle hm
        have hK : k + ((mcRs (rows.take (i + 1)) : Nat) : Int) = k + ((mcRs (rows.take i) : Nat) : Int) + 1 + 1 + ((mcRs (x.fArgs.map MType.enc) : Nat) : Int) := by rw [hm]; omega
        have e2 := mkTo_at (k := k) hir
        rw [e1] at e2
        have hC : ∀ row o, cellAt (mkAt rows k i row) i o = row[o]? := fun row o => mkAt_cell hir
        have hG : ∀ row, (mkAt rows k i row).getD i [] = row := fun row => mkAt_get hir
        simp -implicitDefEqProofs (disch := omega) only [go_sem, hb, ht, hA, hU, e2, hC, hG, mkAt_set, mkAt_length, hl, setO_twice, isSD]
        (repeat (with_reducible refine And.intro ?_ ?_; focus first | omega | rfl | assumption | exact ⟨_, rfl, rfl⟩ | (simp; omega) | (simp; done)))
        refine call_w (markText_ok (k + ((mcRs (rows.take i) : Nat) : Int) + 1) (by omega)) ?_
        simp -implicitDefEqProofs (disch := omega) only [go_sem, hb, ht, hA, hU, e2, hC, hG, mkAt_set, mkAt_length, hl, setO_twice, isSD]
        (repeat (with_reducible refine And.intro ?_ ?_; focus first | omega | rfl | assumption | exact ⟨_, rfl, rfl⟩ | (simp; omega) | (simp; done)))
        refine call_d rfl (sub_mk hS hp hir (by rfl) (fun S' rs' g1 g2 => ihType x.fArgs (by have := List.sizeOf_lt_of_mem (List.getElem_mem hi); rw [← hx] at this; have := MType.lt_Args x; omega) (k + ((mcRs (rows.take i) : Nat) : Int) + 1 + 1) (1 + l) j r _ S' rs' g1 g2 (by omega))) ?_
        simp -implicitDefEqProofs (disch := omega) only [go_sem, hb, ht, hA, hU, e2, hC, hG, mkAt_set, mkAt_length, hl, setO_twice, isSD]
        (repeat (with_reducible refine And.intro ?_ ?_; focus first | omega | rfl | assumption | exact ⟨_, rfl, rfl⟩ | (simp; omega) | (simp; done)))
        refine inv_at (i + 1) (by omega) (by rw [hK]; rfl) ?_ (by omega)
        have h3 := mkAt_to (k := k) hir
        rw [e1] at h3
        simp only [mkR, mkD] at h3
        rw [← h3]
        all_goals rfl
      · simp -implicitDefEqProofs (disch := omega) only [go_sem, hb]
        have hi : i = xs.length := by omega
        rw [mkTo_all (by omega), List.take_of_length_le (by omega)]
        all_goals (first | rfl | exact ⟨rfl, rfl⟩)
theorem markTypeS_ok (xs : List MType) : ∀ (k : Int) (l j r : Nat) (p : List (Nat × Nat)) (S : Store) (rs : List (List (List D))), getO S (l, j) = some (.xf rs) → atR rs r p = some (xs.map MType.enc) → 0 ≤ k ∧ k + mcRs (xs.map MType.enc) ≤ 4611686018427387904 → ACall Tryz.prog 165 [.c (.xp (l, j) r p), .c (.d (.i .i64 k))] S (fun res S' => res = .c (.d (.i .i64 (k + mcRs (xs.map MType.enc)))) ∧ S' = setO S (l, j) (.xf (updR rs r p (mkRs (xs.map MType.enc) k)))) := (markType_all _) xs (Nat.lt_succ_self _)
theorem markType_ok (x : MType) (k : Int) (l j b : Nat) (S : Store) (rs : List (List (List D))) (hS : getO S (l, j) = some (.xf rs)) (h2 : atR rs (b + 2) [] = some (x.fArgs.map MType.enc)) (hk : 0 ≤ k ∧ k + ((mcRs (x.fArgs.map MType.enc) : Nat) : Int) ≤ 4611686018427387904) : ACall Tryz.prog 69 [.agg [.d (.i .i64 x.fKind), .d (.s x.fName), .xp (l, j) (b + 2) []], .c (.d (.i .i64 k))] S (fun res S' => res = .c (.d (.i .i64 (k + ((mcRs (x.fArgs.map MType.enc) : Nat) : Int)))) ∧ S' = setO S (l, j) (.xf (updR (rs) (b + 2) [] (mkRs (x.fArgs.map MType.enc) (k))))) := by
  have ht : ∀ x : Ab.Obj, getO (setO S (l, j) x) (l, j) = some x := fun x => getO_setO_eq _ _ _ _ hS
  refine acall_cw (rs := [.tmp 4]) Tryz.checked.mixed Tryz.func69 Tryz.ntmps69 rfl rfl rfl rfl rfl ?_
  simp -implicitDefEqProofs (disch := omega) only [go_sem]
  refine call_d rfl (markTypeS_ok x.fArgs (k) (1 + l) j (b + 2) [] _ _ (by rw [getO_up1]; first | exact hS | exact ht _) (by first | assumption | (simp (disch := omega) only [ne_eq, atR_ne]; assumption)) (by omega)) ?_
  simp -implicitDefEqProofs (disch := omega) only [go_sem, setO_twice, setO_up1]
  try exact ⟨rfl, rfl⟩
end Go.Proofs.YtokcpelkieeddaaGreatDoor

namespace Go.Proofs.YtokcpelkieeddaaGreatDoor
open Go Go.Ab
end Go.Proofs.YtokcpelkieeddaaGreatDoor

namespace Go.Proofs.YtokcpelkieeddaaGreatDoor
open Go Go.Ab
set_option maxHeartbeats 4000000 in
theorem markBoundS_ok (xs : List MBound) : ∀ (k : Int) (l j r : Nat) (p : List (Nat × Nat)) (S : Store) (rs : List (List (List D))), getO S (l, j) = some (.xf rs) → atR rs r p = some (xs.map MBound.enc) → 0 ≤ k ∧ k + mcRs (xs.map MBound.enc) ≤ 4611686018427387904 → ACall Tryz.prog 93 [.c (.xp (l, j) r p), .c (.d (.i .i64 k))] S (fun res S' => res = .c (.d (.i .i64 (k + mcRs (xs.map MBound.enc)))) ∧ S' = setO S (l, j) (.xf (updR rs r p (mkRs (xs.map MBound.enc) k)))) := by
  intro k l j r p S rs hS hp hk
  have hlen := len_mc (f := MBound.enc) (fun x => by simp only [MBound.enc_eq, MType.enc_eq, encS, encI, List.cons_append, List.nil_append, mcR, mcD]; omega) xs
  obtain ⟨rows, hr⟩ : ∃ rows, rows = xs.map MBound.enc := ⟨_, rfl⟩
  have hl : rows.length = xs.length := by rw [hr, List.length_map]
  rw [← hr] at hp hk hlen ⊢
  have ht : ∀ x : Ab.Obj, getO (setO S (l, j) x) (l, j) = some x := fun x => getO_setO_eq _ _ _ _ hS
  have hA : ∀ new, atR (updR rs r p new) r p = some new := fun new => atR_updR hp
  have hU : ∀ a b, updR (updR rs r p a) r p b = updR rs r p b := fun a b => updR_updR hp
  refine acall_cw (rs := [.tmp 4]) Tryz.checked.mixed Tryz.func93 Tryz.ntmps93 rfl rfl rfl rfl rfl ?_
  simp -implicitDefEqProofs (disch := omega) only [go_sem]
  refine loop_at (ι := Nat) Tryz.checked.mixed rfl [0, 1, 5] (fun i => [.c (.xp (1 + l, j) r p), .c (.d (.i .i64 (k + mcRs (rows.take i)))), .c (.d (.i .i64 i))])
    (fun i => [] :: setO S (l, j) (.xf (updR rs r p (mkTo rows k i)))) (fun i => i ≤ xs.length) (fun i => xs.length - i) 0 ?_ ?_ (Nat.zero_le _) ?_
  · have z0 : k + ((mcRs (rows.take 0) : Nat) : Int) = k := by simp [mcRs]
    rw [z0]
    rfl
  · rw [mkTo_zero, updR_same hp, setO_self _ _ hS]
  intro i hi
  simp -implicitDefEqProofs (disch := omega) only [go_sem, ht, hA, mkTo_length, hl]
  with_reducible refine split2 (fun hb => ?_) (fun hb => ?_) <;> have h := hb <;> try simp only [wf_preprocess] at h
  · have hi : i < xs.length := by omega
    have hir : i < rows.length := by omega
    obtain ⟨x, hx⟩ : ∃ x, x = xs[i] := ⟨_, rfl⟩
    have e1 : rows[i] = [.s x.fTrait, .i .i64 x.fType.fKind, .s x.fType.fName, .sl (x.fType.fArgs.map MType.enc)] := by
      simp only [hr, List.getElem_map, ← hx]
      simp only [MBound.enc_eq, MType.enc_eq, encS, encI, List.cons_append, List.nil_append]
    have hm := mcRs_take hir
    have hle := mcRs_le (rows := rows) (i := i + 1)
    rw [hm, e1] at hle
    rw [e1] at hm
    simp only [mcR, mcD] at hle hm
    have hK : k + ((mcRs (rows.take (i + 1)) : Nat) : Int) = k + ((mcRs (rows.take i) : Nat) : Int) + 1 + 1 + 1 + ((mcRs (x.fType.fArgs.map MType.enc) : Nat) : Int) := by rw [hm]; omega
    have e2 := mkTo_at (k := k) hir
    rw [e1] at e2
    have hC : ∀ row o, cellAt (mkAt rows k i row) i o = row[o]? := fun row o => mkAt_cell hir
    have hG : ∀ row, (mkAt rows k i row).getD i [] = row := fun row => mkAt_get hir
    simp -implicitDefEqProofs (disch := omega) only [go_sem, hb, ht, hA, hU, e2, hC, hG, mkAt_set, mkAt_length, hl, setO_twice, isSD]
    (repeat (with_reducible refine And.intro ?_ ?_; focus first | omega | rfl | assumption | exact ⟨_, rfl, rfl⟩ | (simp; omega) | (simp; done)))
    refine call_w (markText_ok (k + ((mcRs (rows.take i) : Nat) : Int)) (by omega)) ?_
    simp -implicitDefEqProofs (disch := omega) only [go_sem, hb, ht, hA, hU, e2, hC, hG, mkAt_set, mkAt_length, hl, setO_twice, isSD]
    (repeat (with_reducible refine And.intro ?_ ?_; focus first | omega | rfl | assumption | exact ⟨_, rfl, rfl⟩ | (simp; omega) | (simp; done)))
    refine call_w (markText_ok (k + ((mcRs (rows.take i) : Nat) : Int) + 1 + 1) (by omega)) ?_
    simp -implicitDefEqProofs (disch := omega) only [go_sem, hb, ht, hA, hU, e2, hC, hG, mkAt_set, mkAt_length, hl, setO_twice, isSD]
    (repeat (with_reducible refine And.intro ?_ ?_; focus first | omega | rfl | assumption | exact ⟨_, rfl, rfl⟩ | (simp; omega) | (simp; done)))
    refine call_d rfl (sub_mk hS hp hir (by rfl) (fun S' rs' g1 g2 => markTypeS_ok x.fType.fArgs (k + ((mcRs (rows.take i) : Nat) : Int) + 1 + 1 + 1) (1 + l) j r _ S' rs' g1 g2 (by omega))) ?_
    simp -implicitDefEqProofs (disch := omega) only [go_sem, hb, ht, hA, hU, e2, hC, hG, mkAt_set, mkAt_length, hl, setO_twice, isSD]
    (repeat (with_reducible refine And.intro ?_ ?_; focus first | omega | rfl | assumption | exact ⟨_, rfl, rfl⟩ | (simp; omega) | (simp; done)))
    refine inv_at (i + 1) (by omega) (by rw [hK]; rfl) ?_ (by omega)
    have h3 := mkAt_to (k := k) hir
    rw [e1] at h3
    simp only [mkR, mkD] at h3
    rw [← h3]
    all_goals rfl
  · simp -implicitDefEqProofs (disch := omega) only [go_sem, hb]
    have hi : i = xs.length := by omega
    rw [mkTo_all (by omega), List.take_of_length_le (by omega)]
    all_goals (first | rfl | exact ⟨rfl, rfl⟩)
end Go.Proofs.YtokcpelkieeddaaGreatDoor

namespace Go.Proofs.YtokcpelkieeddaaGreatDoor
open Go Go.Ab
theorem markExpr_all : ∀ n : Nat, (∀ xs : List MExpr, SizeOf.sizeOf xs < n → ∀ (k : Int) (l j r : Nat) (p : List (Nat × Nat)) (S : Store) (rs : List (List (List D))), getO S (l, j) = some (.xf rs) → atR rs r p = some (xs.map MExpr.enc) → 0 ≤ k ∧ k + mcRs (xs.map MExpr.enc) ≤ 4611686018427387904 → ACall Tryz.prog 70 [.c (.xp (l, j) r p), .c (.d (.i .i64 k))] S (fun res S' => res = .c (.d (.i .i64 (k + mcRs (xs.map MExpr.enc)))) ∧ S' = setO S (l, j) (.xf (updR rs r p (mkRs (xs.map MExpr.enc) k))))) ∧
    (∀ xs : List MArm, SizeOf.sizeOf xs < n → ∀ (k : Int) (l j r : Nat) (p : List (Nat × Nat)) (S : Store) (rs : List (List (List D))), getO S (l, j) = some (.xf rs) → atR rs r p = some (xs.map MArm.enc) → 0 ≤ k ∧ k + mcRs (xs.map MArm.enc) ≤ 4611686018427387904 → ACall Tryz.prog 71 [.c (.xp (l, j) r p), .c (.d (.i .i64 k))] S (fun res S' => res = .c (.d (.i .i64 (k + mcRs (xs.map MArm.enc)))) ∧ S' = setO S (l, j) (.xf (updR rs r p (mkRs (xs.map MArm.enc) k)))))
  | 0 => ⟨fun xs h => by omega, fun xs h => by omega⟩
  | n + 1 => by
    obtain ⟨ihExpr, ihArm⟩ := markExpr_all n
    refine ⟨fun xs hn k l j r p S rs hS hp hk => ?_, fun xs hn k l j r p S rs hS hp hk => ?_⟩
    · have hlen := len_mc (f := MExpr.enc) (fun x => by simp only [MExpr.enc_eq, MType.enc_eq, encS, encI, List.cons_append, List.nil_append, mcR, mcD]; omega) xs
      obtain ⟨rows, hr⟩ : ∃ rows, rows = xs.map MExpr.enc := ⟨_, rfl⟩
      have hl : rows.length = xs.length := by rw [hr, List.length_map]
      rw [← hr] at hp hk hlen ⊢
      have ht : ∀ x : Ab.Obj, getO (setO S (l, j) x) (l, j) = some x := fun x => getO_setO_eq _ _ _ _ hS
      have hA : ∀ new, atR (updR rs r p new) r p = some new := fun new => atR_updR hp
      have hU : ∀ a b, updR (updR rs r p a) r p b = updR rs r p b := fun a b => updR_updR hp
      refine acall_cw (rs := [.tmp 4]) Tryz.checked.mixed Tryz.func70 Tryz.ntmps70 rfl rfl rfl rfl rfl ?_
      simp -implicitDefEqProofs (disch := omega) only [go_sem]
      refine loop_at (ι := Nat) Tryz.checked.mixed rfl [0, 1, 5] (fun i => [.c (.xp (1 + l, j) r p), .c (.d (.i .i64 (k + mcRs (rows.take i)))), .c (.d (.i .i64 i))])
        (fun i => [] :: setO S (l, j) (.xf (updR rs r p (mkTo rows k i)))) (fun i => i ≤ xs.length) (fun i => xs.length - i) 0 ?_ ?_ (Nat.zero_le _) ?_
      · have z0 : k + ((mcRs (rows.take 0) : Nat) : Int) = k := by simp [mcRs]
        rw [z0]
        rfl
      · rw [mkTo_zero, updR_same hp, setO_self _ _ hS]
      intro i hi
      simp -implicitDefEqProofs (disch := omega) only [go_sem, ht, hA, mkTo_length, hl]
      with_reducible refine split2 (fun hb => ?_) (fun hb => ?_) <;> have h := hb <;> try simp only [wf_preprocess] at h
      · have hi : i < xs.length := by omega
        have hir : i < rows.length := by omega
        obtain ⟨x, hx⟩ : ∃ x, x = xs[i] := ⟨_, rfl⟩
        have e1 : rows[i] = [.i .i64 x.fKind, .s x.fTrait, .s x.fName, .i .i64 x.fN, .i .i64 x.fType.fKind, .s x.fType.fName, .sl (x.fType.fArgs.map MType.enc), .sl (x.fArgs.map MExpr.enc), .sl (x.fArms.map MArm.enc)] := by
          simp only [hr, List.getElem_map, ← hx]
          simp only [MExpr.enc_eq, MType.enc_eq, encS, encI, List.cons_append, List.nil_append]
        have hm := mcRs_take hir
        have hle := mcRs_le (rows := rows) (i := i + 1)
        rw [hm, e1] at hle
        rw [e1] at hm
        simp only [mcR, mcD] at hle hm
        have hK : k + ((mcRs (rows.take (i + 1)) : Nat) : Int) = k + ((mcRs (rows.take i) : Nat) : Int) + 1 + 1 + 1 + 1 + 1 + 1 + ((mcRs (x.fType.fArgs.map MType.enc) : Nat) : Int) + ((mcRs (x.fArgs.map MExpr.enc) : Nat) : Int) + ((mcRs (x.fArms.map MArm.enc) : Nat) : Int) := by rw [hm]; omega
        have e2 := mkTo_at (k := k) hir
        rw [e1] at e2
        have hC : ∀ row o, cellAt (mkAt rows k i row) i o = row[o]? := fun row o => mkAt_cell hir
        have hG : ∀ row, (mkAt rows k i row).getD i [] = row := fun row => mkAt_get hir
        simp -implicitDefEqProofs (disch := omega) only [go_sem, hb, ht, hA, hU, e2, hC, hG, mkAt_set, mkAt_length, hl, setO_twice, isSD]
        (repeat (with_reducible refine And.intro ?_ ?_; focus first | omega | rfl | assumption | exact ⟨_, rfl, rfl⟩ | (simp; omega) | (simp; done)))
        refine call_w (markText_ok (k + ((mcRs (rows.take i) : Nat) : Int) + 1) (by omega)) ?_
        simp -implicitDefEqProofs (disch := omega) only [go_sem, hb, ht, hA, hU, e2, hC, hG, mkAt_set, mkAt_length, hl, setO_twice, isSD]
        (repeat (with_reducible refine And.intro ?_ ?_; focus first | omega | rfl | assumption | exact ⟨_, rfl, rfl⟩ | (simp; omega) | (simp; done)))
        refine call_w (markText_ok (k + ((mcRs (rows.take i) : Nat) : Int) + 1 + 1) (by omega)) ?_
        simp -implicitDefEqProofs (disch := omega) only [go_sem, hb, ht, hA, hU, e2, hC, hG, mkAt_set, mkAt_length, hl, setO_twice, isSD]
        (repeat (with_reducible refine And.intro ?_ ?_; focus first | omega | rfl | assumption | exact ⟨_, rfl, rfl⟩ | (simp; omega) | (simp; done)))
        refine call_w (markText_ok (k + ((mcRs (rows.take i) : Nat) : Int) + 1 + 1 + 1 + 1 + 1) (by omega)) ?_
        simp -implicitDefEqProofs (disch := omega) only [go_sem, hb, ht, hA, hU, e2, hC, hG, mkAt_set, mkAt_length, hl, setO_twice, isSD]
        (repeat (with_reducible refine And.intro ?_ ?_; focus first | omega | rfl | assumption | exact ⟨_, rfl, rfl⟩ | (simp; omega) | (simp; done)))
        refine call_d rfl (sub_mk hS hp hir (by rfl) (fun S' rs' g1 g2 => markTypeS_ok x.fType.fArgs (k + ((mcRs (rows.take i) : Nat) : Int) + 1 + 1 + 1 + 1 + 1 + 1) (1 + l) j r _ S' rs' g1 g2 (by omega))) ?_
        simp -implicitDefEqProofs (disch := omega) only [go_sem, hb, ht, hA, hU, e2, hC, hG, mkAt_set, mkAt_length, hl, setO_twice, isSD]
        (repeat (with_reducible refine And.intro ?_ ?_; focus first | omega | rfl | assumption | exact ⟨_, rfl, rfl⟩ | (simp; omega) | (simp; done)))
        refine call_d rfl (sub_mk hS hp hir (by rfl) (fun S' rs' g1 g2 => ihExpr x.fArgs (by have := List.sizeOf_lt_of_mem (List.getElem_mem hi); rw [← hx] at this; have := MExpr.lt_Args x; omega) (k + ((mcRs (rows.take i) : Nat) : Int) + 1 + 1 + 1 + 1 + 1 + 1 + ((mcRs (x.fType.fArgs.map MType.enc) : Nat) : Int)) (1 + l) j r _ S' rs' g1 g2 (by omega))) ?_
        simp -implicitDefEqProofs (disch := omega) only [go_sem, hb, ht, hA, hU, e2, hC, hG, mkAt_set, mkAt_length, hl, setO_twice, isSD]
        (repeat (with_reducible refine And.intro ?_ ?_; focus first | omega | rfl | assumption | exact ⟨_, rfl, rfl⟩ | (simp; omega) | (simp; done)))
        refine call_d rfl (sub_mk hS hp hir (by rfl) (fun S' rs' g1 g2 => ihArm x.fArms (by have := List.sizeOf_lt_of_mem (List.getElem_mem hi); rw [← hx] at this; have := MExpr.lt_Arms x; omega) (k + ((mcRs (rows.take i) : Nat) : Int) + 1 + 1 + 1 + 1 + 1 + 1 + ((mcRs (x.fType.fArgs.map MType.enc) : Nat) : Int) + ((mcRs (x.fArgs.map MExpr.enc) : Nat) : Int)) (1 + l) j r _ S' rs' g1 g2 (by omega))) ?_
        simp -implicitDefEqProofs (disch := omega) only [go_sem, hb, ht, hA, hU, e2, hC, hG, mkAt_set, mkAt_length, hl, setO_twice, isSD]
        (repeat (with_reducible refine And.intro ?_ ?_; focus first | omega | rfl | assumption | exact ⟨_, rfl, rfl⟩ | (simp; omega) | (simp; done)))
        refine inv_at (i + 1) (by omega) (by rw [hK]; rfl) ?_ (by omega)
        have h3 := mkAt_to (k := k) hir
        rw [e1] at h3
        simp only [mkR, mkD] at h3
        rw [← h3]
        all_goals rfl
      · simp -implicitDefEqProofs (disch := omega) only [go_sem, hb]
        have hi : i = xs.length := by omega
        rw [mkTo_all (by omega), List.take_of_length_le (by omega)]
        all_goals (first | rfl | exact ⟨rfl, rfl⟩)
    · have hlen := len_mc (f := MArm.enc) (fun x => by simp only [MArm.enc_eq, MExpr.enc_eq, MType.enc_eq, encS, encI, List.cons_append, List.nil_append, mcR, mcD]; omega) xs
      obtain ⟨rows, hr⟩ : ∃ rows, rows = xs.map MArm.enc := ⟨_, rfl⟩
      have hl : rows.length = xs.length := by rw [hr, List.length_map]
      rw [← hr] at hp hk hlen ⊢
      have ht : ∀ x : Ab.Obj, getO (setO S (l, j) x) (l, j) = some x := fun x => getO_setO_eq _ _ _ _ hS
      have hA : ∀ new, atR (updR rs r p new) r p = some new := fun new => atR_updR hp
      have hU : ∀ a b, updR (updR rs r p a) r p b = updR rs r p b := fun a b => updR_updR hp
      refine acall_cw (rs := [.tmp 4]) Tryz.checked.mixed Tryz.func71 Tryz.ntmps71 rfl rfl rfl rfl rfl ?_
      simp -implicitDefEqProofs (disch := omega) only [go_sem]
      refine loop_at (ι := Nat) Tryz.checked.mixed rfl [0, 1, 5] (fun i => [.c (.xp (1 + l, j) r p), .c (.d (.i .i64 (k + mcRs (rows.take i)))), .c (.d (.i .i64 i))])
        (fun i => [] :: setO S (l, j) (.xf (updR rs r p (mkTo rows k i)))) (fun i => i ≤ xs.length) (fun i => xs.length - i) 0 ?_ ?_ (Nat.zero_le _) ?_
      · have z0 : k + ((mcRs (rows.take 0) : Nat) : Int) = k := by simp [mcRs]
        rw [z0]
        rfl
      · rw [mkTo_zero, updR_same hp, setO_self _ _ hS]
      intro i hi
      simp -implicitDefEqProofs (disch := omega) only [go_sem, ht, hA, mkTo_length, hl]
      with_reducible refine split2 (fun hb => ?_) (fun hb => ?_) <;> have h := hb <;> try simp only [wf_preprocess] at h
      · have hi : i < xs.length := by omega
        have hir : i < rows.length := by omega
        obtain ⟨x, hx⟩ : ∃ x, x = xs[i] := ⟨_, rfl⟩
        have e1 : rows[i] = [.s x.fConstructor, .sl (x.fVars.map encS), .i .i64 x.fBody.fKind, .s x.fBody.fTrait, .s x.fBody.fName, .i .i64 x.fBody.fN, .i .i64 x.fBody.fType.fKind, .s x.fBody.fType.fName, .sl (x.fBody.fType.fArgs.map MType.enc), .sl (x.fBody.fArgs.map MExpr.enc), .sl (x.fBody.fArms.map MArm.enc)] := by
          simp only [hr, List.getElem_map, ← hx]
          simp only [MArm.enc_eq, MExpr.enc_eq, MType.enc_eq, encS, encI, List.cons_append, List.nil_append]
        have hm := mcRs_take hir
        have hle := mcRs_le (rows := rows) (i := i + 1)
        rw [hm, e1] at hle
        rw [e1] at hm
        simp only [mcR, mcD] at hle hm
        have hK : k + ((mcRs (rows.take (i + 1)) : Nat) : Int) = k + ((mcRs (rows.take i) : Nat) : Int) + 1 + ((mcRs (x.fVars.map encS) : Nat) : Int) + 1 + 1 + 1 + 1 + 1 + 1 + ((mcRs (x.fBody.fType.fArgs.map MType.enc) : Nat) : Int) + ((mcRs (x.fBody.fArgs.map MExpr.enc) : Nat) : Int) + ((mcRs (x.fBody.fArms.map MArm.enc) : Nat) : Int) := by rw [hm]; omega
        have e2 := mkTo_at (k := k) hir
        rw [e1] at e2
        have hC : ∀ row o, cellAt (mkAt rows k i row) i o = row[o]? := fun row o => mkAt_cell hir
        have hG : ∀ row, (mkAt rows k i row).getD i [] = row := fun row => mkAt_get hir
        simp -implicitDefEqProofs (disch := omega) only [go_sem, hb, ht, hA, hU, e2, hC, hG, mkAt_set, mkAt_length, hl, setO_twice, isSD]
        (repeat (with_reducible refine And.intro ?_ ?_; focus first | omega | rfl | assumption | exact ⟨_, rfl, rfl⟩ | (simp; omega) | (simp; done)))
        refine call_w (markText_ok (k + ((mcRs (rows.take i) : Nat) : Int)) (by omega)) ?_
        simp -implicitDefEqProofs (disch := omega) only [go_sem, hb, ht, hA, hU, e2, hC, hG, mkAt_set, mkAt_length, hl, setO_twice, isSD]
        (repeat (with_reducible refine And.intro ?_ ?_; focus first | omega | rfl | assumption | exact ⟨_, rfl, rfl⟩ | (simp; omega) | (simp; done)))
        refine call_d rfl (sub_mk hS hp hir (by rfl) (fun S' rs' g1 g2 => markStringS_ok x.fVars (k + ((mcRs (rows.take i) : Nat) : Int) + 1) (1 + l) j r _ S' rs' g1 g2 (by omega))) ?_
        simp -implicitDefEqProofs (disch := omega) only [go_sem, hb, ht, hA, hU, e2, hC, hG, mkAt_set, mkAt_length, hl, setO_twice, isSD]
        (repeat (with_reducible refine And.intro ?_ ?_; focus first | omega | rfl | assumption | exact ⟨_, rfl, rfl⟩ | (simp; omega) | (simp; done)))
        refine call_w (markText_ok (k + ((mcRs (rows.take i) : Nat) : Int) + 1 + ((mcRs (x.fVars.map encS) : Nat) : Int) + 1) (by omega)) ?_
        simp -implicitDefEqProofs (disch := omega) only [go_sem, hb, ht, hA, hU, e2, hC, hG, mkAt_set, mkAt_length, hl, setO_twice, isSD]
        (repeat (with_reducible refine And.intro ?_ ?_; focus first | omega | rfl | assumption | exact ⟨_, rfl, rfl⟩ | (simp; omega) | (simp; done)))
        refine call_w (markText_ok (k + ((mcRs (rows.take i) : Nat) : Int) + 1 + ((mcRs (x.fVars.map encS) : Nat) : Int) + 1 + 1) (by omega)) ?_
        simp -implicitDefEqProofs (disch := omega) only [go_sem, hb, ht, hA, hU, e2, hC, hG, mkAt_set, mkAt_length, hl, setO_twice, isSD]
        (repeat (with_reducible refine And.intro ?_ ?_; focus first | omega | rfl | assumption | exact ⟨_, rfl, rfl⟩ | (simp; omega) | (simp; done)))
        refine call_w (markText_ok (k + ((mcRs (rows.take i) : Nat) : Int) + 1 + ((mcRs (x.fVars.map encS) : Nat) : Int) + 1 + 1 + 1 + 1 + 1) (by omega)) ?_
        simp -implicitDefEqProofs (disch := omega) only [go_sem, hb, ht, hA, hU, e2, hC, hG, mkAt_set, mkAt_length, hl, setO_twice, isSD]
        (repeat (with_reducible refine And.intro ?_ ?_; focus first | omega | rfl | assumption | exact ⟨_, rfl, rfl⟩ | (simp; omega) | (simp; done)))
        refine call_d rfl (sub_mk hS hp hir (by rfl) (fun S' rs' g1 g2 => markTypeS_ok x.fBody.fType.fArgs (k + ((mcRs (rows.take i) : Nat) : Int) + 1 + ((mcRs (x.fVars.map encS) : Nat) : Int) + 1 + 1 + 1 + 1 + 1 + 1) (1 + l) j r _ S' rs' g1 g2 (by omega))) ?_
        simp -implicitDefEqProofs (disch := omega) only [go_sem, hb, ht, hA, hU, e2, hC, hG, mkAt_set, mkAt_length, hl, setO_twice, isSD]
        (repeat (with_reducible refine And.intro ?_ ?_; focus first | omega | rfl | assumption | exact ⟨_, rfl, rfl⟩ | (simp; omega) | (simp; done)))
        refine call_d rfl (sub_mk hS hp hir (by rfl) (fun S' rs' g1 g2 => ihExpr x.fBody.fArgs (by have := List.sizeOf_lt_of_mem (List.getElem_mem hi); rw [← hx] at this; have := MArm.lt_Body x; have := MExpr.lt_Args x.fBody; omega) (k + ((mcRs (rows.take i) : Nat) : Int) + 1 + ((mcRs (x.fVars.map encS) : Nat) : Int) + 1 + 1 + 1 + 1 + 1 + 1 + ((mcRs (x.fBody.fType.fArgs.map MType.enc) : Nat) : Int)) (1 + l) j r _ S' rs' g1 g2 (by omega))) ?_
        simp -implicitDefEqProofs (disch := omega) only [go_sem, hb, ht, hA, hU, e2, hC, hG, mkAt_set, mkAt_length, hl, setO_twice, isSD]
        (repeat (with_reducible refine And.intro ?_ ?_; focus first | omega | rfl | assumption | exact ⟨_, rfl, rfl⟩ | (simp; omega) | (simp; done)))
        refine call_d rfl (sub_mk hS hp hir (by rfl) (fun S' rs' g1 g2 => ihArm x.fBody.fArms (by have := List.sizeOf_lt_of_mem (List.getElem_mem hi); rw [← hx] at this; have := MArm.lt_Body x; have := MExpr.lt_Arms x.fBody; omega) (k + ((mcRs (rows.take i) : Nat) : Int) + 1 + ((mcRs (x.fVars.map encS) : Nat) : Int) + 1 + 1 + 1 + 1 + 1 + 1 + ((mcRs (x.fBody.fType.fArgs.map MType.enc) : Nat) : Int) + ((mcRs (x.fBody.fArgs.map MExpr.enc) : Nat) : Int)) (1 + l) j r _ S' rs' g1 g2 (by omega))) ?_
        simp -implicitDefEqProofs (disch := omega) only [go_sem, hb, ht, hA, hU, e2, hC, hG, mkAt_set, mkAt_length, hl, setO_twice, isSD]
        (repeat (with_reducible refine And.intro ?_ ?_; focus first | omega | rfl | assumption | exact ⟨_, rfl, rfl⟩ | (simp; omega) | (simp; done)))
        refine inv_at (i + 1) (by omega) (by rw [hK]; rfl) ?_ (by omega)
        have h3 := mkAt_to (k := k) hir
        rw [e1] at h3
        simp only [mkR, mkD] at h3
        rw [← h3]
        all_goals rfl
      · simp -implicitDefEqProofs (disch := omega) only [go_sem, hb]
        have hi : i = xs.length := by omega
        rw [mkTo_all (by omega), List.take_of_length_le (by omega)]
        all_goals (first | rfl | exact ⟨rfl, rfl⟩)
theorem markExprS_ok (xs : List MExpr) : ∀ (k : Int) (l j r : Nat) (p : List (Nat × Nat)) (S : Store) (rs : List (List (List D))), getO S (l, j) = some (.xf rs) → atR rs r p = some (xs.map MExpr.enc) → 0 ≤ k ∧ k + mcRs (xs.map MExpr.enc) ≤ 4611686018427387904 → ACall Tryz.prog 70 [.c (.xp (l, j) r p), .c (.d (.i .i64 k))] S (fun res S' => res = .c (.d (.i .i64 (k + mcRs (xs.map MExpr.enc)))) ∧ S' = setO S (l, j) (.xf (updR rs r p (mkRs (xs.map MExpr.enc) k)))) := (markExpr_all _).1 xs (Nat.lt_succ_self _)
theorem markArmS_ok (xs : List MArm) : ∀ (k : Int) (l j r : Nat) (p : List (Nat × Nat)) (S : Store) (rs : List (List (List D))), getO S (l, j) = some (.xf rs) → atR rs r p = some (xs.map MArm.enc) → 0 ≤ k ∧ k + mcRs (xs.map MArm.enc) ≤ 4611686018427387904 → ACall Tryz.prog 71 [.c (.xp (l, j) r p), .c (.d (.i .i64 k))] S (fun res S' => res = .c (.d (.i .i64 (k + mcRs (xs.map MArm.enc)))) ∧ S' = setO S (l, j) (.xf (updR rs r p (mkRs (xs.map MArm.enc) k)))) := (markExpr_all _).2 xs (Nat.lt_succ_self _)
theorem markExpr_ok (x : MExpr) (k : Int) (l j b : Nat) (S : Store) (rs : List (List (List D))) (hS : getO S (l, j) = some (.xf rs)) (h6 : atR rs (b + 6) [] = some (x.fType.fArgs.map MType.enc)) (h7 : atR rs (b + 7) [] = some (x.fArgs.map MExpr.enc)) (h8 : atR rs (b + 8) [] = some (x.fArms.map MArm.enc)) (hk : 0 ≤ k ∧ k + ((mcRs (x.fType.fArgs.map MType.enc) : Nat) : Int) + ((mcRs (x.fArgs.map MExpr.enc) : Nat) : Int) + ((mcRs (x.fArms.map MArm.enc) : Nat) : Int) ≤ 4611686018427387904) : ACall Tryz.prog 17 [.agg [.d (.i .i64 x.fKind), .d (.s x.fTrait), .d (.s x.fName), .d (.i .i64 x.fN), .d (.i .i64 x.fType.fKind), .d (.s x.fType.fName), .xp (l, j) (b + 6) [], .xp (l, j) (b + 7) [], .xp (l, j) (b + 8) []], .c (.d (.i .i64 k))] S (fun res S' => res = .c (.d (.i .i64 (k + ((mcRs (x.fType.fArgs.map MType.enc) : Nat) : Int) + ((mcRs (x.fArgs.map MExpr.enc) : Nat) : Int) + ((mcRs (x.fArms.map MArm.enc) : Nat) : Int)))) ∧ S' = setO S (l, j) (.xf (updR (updR (updR (rs) (b + 6) [] (mkRs (x.fType.fArgs.map MType.enc) (k))) (b + 7) [] (mkRs (x.fArgs.map MExpr.enc) (k + ((mcRs (x.fType.fArgs.map MType.enc) : Nat) : Int)))) (b + 8) [] (mkRs (x.fArms.map MArm.enc) (k + ((mcRs (x.fType.fArgs.map MType.enc) : Nat) : Int) + ((mcRs (x.fArgs.map MExpr.enc) : Nat) : Int)))))) := by
  have ht : ∀ x : Ab.Obj, getO (setO S (l, j) x) (l, j) = some x := fun x => getO_setO_eq _ _ _ _ hS
  refine acall_cw (rs := [.tmp 4]) Tryz.checked.mixed Tryz.func17 Tryz.ntmps17 rfl rfl rfl rfl rfl ?_
  simp -implicitDefEqProofs (disch := omega) only [go_sem]
  refine call_d rfl (markType_ok x.fType (k) (1 + l) j (b + 4) _ _ (by rw [getO_up1]; first | exact hS | exact ht _) (by first | assumption | (simp (disch := omega) only [ne_eq, atR_ne]; assumption)) (by omega)) ?_
  simp -implicitDefEqProofs (disch := omega) only [go_sem, setO_twice, setO_up1, Nat.add_assoc, Nat.reduceAdd]
  refine call_d rfl (markExprS_ok x.fArgs (k + ((mcRs (x.fType.fArgs.map MType.enc) : Nat) : Int)) (1 + l) j (b + 7) [] _ _ (by rw [getO_up1]; first | exact hS | exact ht _) (by first | assumption | (simp (disch := omega) only [ne_eq, atR_ne]; assumption)) (by omega)) ?_
  simp -implicitDefEqProofs (disch := omega) only [go_sem, setO_twice, setO_up1]
  refine call_d rfl (markArmS_ok x.fArms (k + ((mcRs (x.fType.fArgs.map MType.enc) : Nat) : Int) + ((mcRs (x.fArgs.map MExpr.enc) : Nat) : Int)) (1 + l) j (b + 8) [] _ _ (by rw [getO_up1]; first | exact hS | exact ht _) (by first | assumption | (simp (disch := omega) only [ne_eq, atR_ne]; assumption)) (by omega)) ?_
  simp -implicitDefEqProofs (disch := omega) only [go_sem, setO_twice, setO_up1]
  try exact ⟨rfl, rfl⟩
end Go.Proofs.YtokcpelkieeddaaGreatDoor

namespace Go.Proofs.YtokcpelkieeddaaGreatDoor
open Go Go.Ab
theorem markSExpr_all : ∀ n : Nat, (∀ xs : List MSExpr, SizeOf.sizeOf xs < n → ∀ (k : Int) (l j r : Nat) (p : List (Nat × Nat)) (S : Store) (rs : List (List (List D))), getO S (l, j) = some (.xf rs) → atR rs r p = some (xs.map MSExpr.enc) → 0 ≤ k ∧ k + mcRs (xs.map MSExpr.enc) ≤ 4611686018427387904 → ACall Tryz.prog 72 [.c (.xp (l, j) r p), .c (.d (.i .i64 k))] S (fun res S' => res = .c (.d (.i .i64 (k + mcRs (xs.map MSExpr.enc)))) ∧ S' = setO S (l, j) (.xf (updR rs r p (mkRs (xs.map MSExpr.enc) k)))))
  | 0 => fun xs h => by omega
  | n + 1 => by
    have ihSExpr := markSExpr_all n
    refine fun xs hn k l j r p S rs hS hp hk => ?_
    · have hlen := len_mc (f := MSExpr.enc) (fun x => by simp only [MSExpr.enc_eq, encS, encI, List.cons_append, List.nil_append, mcR, mcD]; omega) xs
      obtain ⟨rows, hr⟩ : ∃ rows, rows = xs.map MSExpr.enc := ⟨_, rfl⟩
      have hl : rows.length = xs.length := by rw [hr, List.length_map]
      rw [← hr] at hp hk hlen ⊢
      have ht : ∀ x : Ab.Obj, getO (setO S (l, j) x) (l, j) = some x := fun x => getO_setO_eq _ _ _ _ hS
      have hA : ∀ new, atR (updR rs r p new) r p = some new := fun new => atR_updR hp
      have hU : ∀ a b, updR (updR rs r p a) r p b = updR rs r p b := fun a b => updR_updR hp
      refine acall_cw (rs := [.tmp 4]) Tryz.checked.mixed Tryz.func72 Tryz.ntmps72 rfl rfl rfl rfl rfl ?_
      simp -implicitDefEqProofs (disch := omega) only [go_sem]
      refine loop_at (ι := Nat) Tryz.checked.mixed rfl [0, 1, 5] (fun i => [.c (.xp (1 + l, j) r p), .c (.d (.i .i64 (k + mcRs (rows.take i)))), .c (.d (.i .i64 i))])
        (fun i => [] :: setO S (l, j) (.xf (updR rs r p (mkTo rows k i)))) (fun i => i ≤ xs.length) (fun i => xs.length - i) 0 ?_ ?_ (Nat.zero_le _) ?_
      · have z0 : k + ((mcRs (rows.take 0) : Nat) : Int) = k := by simp [mcRs]
        rw [z0]
        rfl
      · rw [mkTo_zero, updR_same hp, setO_self _ _ hS]
      intro i hi
      simp -implicitDefEqProofs (disch := omega) only [go_sem, ht, hA, mkTo_length, hl]
      with_reducible refine split2 (fun hb => ?_) (fun hb => ?_) <;> have h := hb <;> try simp only [wf_preprocess] at h
      · have hi : i < xs.length := by omega
        have hir : i < rows.length := by omega
        obtain ⟨x, hx⟩ : ∃ x, x = xs[i] := ⟨_, rfl⟩
        have e1 : rows[i] = [.s x.fAtom, .sl (x.fList.map MSExpr.enc)] := by
          simp only [hr, List.getElem_map, ← hx]
          simp only [MSExpr.enc_eq, encS, encI, List.cons_append, List.nil_append]
        have hm := mcRs_take hir
        have hle := mcRs_le (rows := rows) (i := i + 1)
        rw [hm, e1] at hle
        rw [e1] at hm
        simp only [mcR, mcD] at hle hm
        have hK : k + ((mcRs (rows.take (i + 1)) : Nat) : Int) = k + ((mcRs (rows.take i) : Nat) : Int) + 1 + ((mcRs (x.fList.map MSExpr.enc) : Nat) : Int) := by rw [hm]; omega
        have e2 := mkTo_at (k := k) hir
        rw [e1] at e2
        have hC : ∀ row o, cellAt (mkAt rows k i row) i o = row[o]? := fun row o => mkAt_cell hir
        have hG : ∀ row, (mkAt rows k i row).getD i [] = row := fun row => mkAt_get hir
        simp -implicitDefEqProofs (disch := omega) only [go_sem, hb, ht, hA, hU, e2, hC, hG, mkAt_set, mkAt_length, hl, setO_twice, isSD]
        (repeat (with_reducible refine And.intro ?_ ?_; focus first | omega | rfl | assumption | exact ⟨_, rfl, rfl⟩ | (simp; omega) | (simp; done)))
        refine call_w (markText_ok (k + ((mcRs (rows.take i) : Nat) : Int)) (by omega)) ?_
        simp -implicitDefEqProofs (disch := omega) only [go_sem, hb, ht, hA, hU, e2, hC, hG, mkAt_set, mkAt_length, hl, setO_twice, isSD]
        (repeat (with_reducible refine And.intro ?_ ?_; focus first | omega | rfl | assumption | exact ⟨_, rfl, rfl⟩ | (simp; omega) | (simp; done)))
        refine call_d rfl (sub_mk hS hp hir (by rfl) (fun S' rs' g1 g2 => ihSExpr x.fList (by have := List.sizeOf_lt_of_mem (List.getElem_mem hi); rw [← hx] at this; have := MSExpr.lt_List x; omega) (k + ((mcRs (rows.take i) : Nat) : Int) + 1) (1 + l) j r _ S' rs' g1 g2 (by omega))) ?_
        simp -implicitDefEqProofs (disch := omega) only [go_sem, hb, ht, hA, hU, e2, hC, hG, mkAt_set, mkAt_length, hl, setO_twice, isSD]
        (repeat (with_reducible refine And.intro ?_ ?_; focus first | omega | rfl | assumption | exact ⟨_, rfl, rfl⟩ | (simp; omega) | (simp; done)))
        refine inv_at (i + 1) (by omega) (by rw [hK]; rfl) ?_ (by omega)
        have h3 := mkAt_to (k := k) hir
        rw [e1] at h3
        simp only [mkR, mkD] at h3
        rw [← h3]
        all_goals rfl
      · simp -implicitDefEqProofs (disch := omega) only [go_sem, hb]
        have hi : i = xs.length := by omega
        rw [mkTo_all (by omega), List.take_of_length_le (by omega)]
        all_goals (first | rfl | exact ⟨rfl, rfl⟩)
theorem markSExprS_ok (xs : List MSExpr) : ∀ (k : Int) (l j r : Nat) (p : List (Nat × Nat)) (S : Store) (rs : List (List (List D))), getO S (l, j) = some (.xf rs) → atR rs r p = some (xs.map MSExpr.enc) → 0 ≤ k ∧ k + mcRs (xs.map MSExpr.enc) ≤ 4611686018427387904 → ACall Tryz.prog 72 [.c (.xp (l, j) r p), .c (.d (.i .i64 k))] S (fun res S' => res = .c (.d (.i .i64 (k + mcRs (xs.map MSExpr.enc)))) ∧ S' = setO S (l, j) (.xf (updR rs r p (mkRs (xs.map MSExpr.enc) k)))) := (markSExpr_all _) xs (Nat.lt_succ_self _)
theorem markSExpr_ok (x : MSExpr) (k : Int) (l j b : Nat) (S : Store) (rs : List (List (List D))) (hS : getO S (l, j) = some (.xf rs)) (h1 : atR rs (b + 1) [] = some (x.fList.map MSExpr.enc)) (hk : 0 ≤ k ∧ k + ((mcRs (x.fList.map MSExpr.enc) : Nat) : Int) ≤ 4611686018427387904) : ACall Tryz.prog 18 [.agg [.d (.s x.fAtom), .xp (l, j) (b + 1) []], .c (.d (.i .i64 k))] S (fun res S' => res = .c (.d (.i .i64 (k + ((mcRs (x.fList.map MSExpr.enc) : Nat) : Int)))) ∧ S' = setO S (l, j) (.xf (updR (rs) (b + 1) [] (mkRs (x.fList.map MSExpr.enc) (k))))) := by
  have ht : ∀ x : Ab.Obj, getO (setO S (l, j) x) (l, j) = some x := fun x => getO_setO_eq _ _ _ _ hS
  refine acall_cw (rs := [.tmp 4]) Tryz.checked.mixed Tryz.func18 Tryz.ntmps18 rfl rfl rfl rfl rfl ?_
  simp -implicitDefEqProofs (disch := omega) only [go_sem]
  refine call_d rfl (markSExprS_ok x.fList (k) (1 + l) j (b + 1) [] _ _ (by rw [getO_up1]; first | exact hS | exact ht _) (by first | assumption | (simp (disch := omega) only [ne_eq, atR_ne]; assumption)) (by omega)) ?_
  simp -implicitDefEqProofs (disch := omega) only [go_sem, setO_twice, setO_up1]
  try exact ⟨rfl, rfl⟩
theorem heldSExpr_all : ∀ n : Nat, (∀ xs : List MSExpr, SizeOf.sizeOf xs < n → ∀ (k : Int) (l j r : Nat) (p : List (Nat × Nat)) (S : Store) (rs : List (List (List D))), getO S (l, j) = some (.xf rs) → atR rs r p = some (mkRs (xs.map MSExpr.enc) k) → 0 ≤ k ∧ k + mcRs (xs.map MSExpr.enc) ≤ 4611686018427387904 → ACall Tryz.prog 73 [.c (.xp (l, j) r p), .c (.d (.i .i64 k))] S (fun res S' => res = .c (.d (.i .i64 (k + mcRs (xs.map MSExpr.enc)))) ∧ S' = S))
  | 0 => fun xs h => by omega
  | n + 1 => by
    have ihSExpr := heldSExpr_all n
    refine fun xs hn k l j r p S rs hS hp hk => ?_
    · have hlen := len_mc (f := MSExpr.enc) (fun x => by simp only [MSExpr.enc_eq, encS, encI, List.cons_append, List.nil_append, mcR, mcD]; omega) xs
      obtain ⟨rows, hr⟩ : ∃ rows, rows = xs.map MSExpr.enc := ⟨_, rfl⟩
      have hl : rows.length = xs.length := by rw [hr, List.length_map]
      rw [← hr] at hp hk hlen ⊢
      refine acall_cw (rs := [.tmp 4]) Tryz.checked.mixed Tryz.func73 Tryz.ntmps73 rfl rfl rfl rfl rfl ?_
      simp -implicitDefEqProofs (disch := omega) only [go_sem]
      refine loop_at (ι := Nat) Tryz.checked.mixed rfl [0, 1, 5] (fun i => [.c (.xp (1 + l, j) r p), .c (.d (.i .i64 (k + mcRs (rows.take i)))), .c (.d (.i .i64 i))])
        (fun i => [] :: S) (fun i => i ≤ xs.length) (fun i => xs.length - i) 0 ?_ rfl (Nat.zero_le _) ?_
      · have z0 : k + ((mcRs (rows.take 0) : Nat) : Int) = k := by simp [mcRs]
        rw [z0]
        rfl
      intro i hi
      simp -implicitDefEqProofs (disch := omega) only [go_sem, hS, hp, mkRs_length, hl]
      with_reducible refine split2 (fun hb => ?_) (fun hb => ?_) <;> have h := hb <;> try simp only [wf_preprocess] at h
      · have hi : i < xs.length := by omega
        have hir : i < rows.length := by omega
        obtain ⟨x, hx⟩ : ∃ x, x = xs[i] := ⟨_, rfl⟩
        have e1 : rows[i] = [.s x.fAtom, .sl (x.fList.map MSExpr.enc)] := by
          simp only [hr, List.getElem_map, ← hx]
          simp only [MSExpr.enc_eq, encS, encI, List.cons_append, List.nil_append]
        have hm := mcRs_take hir
        have hle := mcRs_le (rows := rows) (i := i + 1)
        rw [hm, e1] at hle
        rw [e1] at hm
        simp only [mcR, mcD] at hle hm
        have hK : k + ((mcRs (rows.take (i + 1)) : Nat) : Int) = k + ((mcRs (rows.take i) : Nat) : Int) + 1 + ((mcRs (x.fList.map MSExpr.enc) : Nat) : Int) := by rw [hm]; omega
        have e2 : mkR rows[i] (k + ((mcRs (rows.take i) : Nat) : Int)) = [.s (mtext (k + ((mcRs (rows.take i) : Nat) : Int))), .sl (mkRs (x.fList.map MSExpr.enc) (k + ((mcRs (rows.take i) : Nat) : Int) + 1))] := by
          rw [e1]
          simp only [mkR, mkD]
          all_goals rfl
        have hC : ∀ o, cellAt (mkRs rows k) i o = ([.s (mtext (k + ((mcRs (rows.take i) : Nat) : Int))), .sl (mkRs (x.fList.map MSExpr.enc) (k + ((mcRs (rows.take i) : Nat) : Int) + 1))] : List D)[o]? := fun o => by
          have h1 : (mkRs rows k)[i]? = some (mkR rows[i] (k + ((mcRs (rows.take i) : Nat) : Int))) := by
            have h2 := mkRs_get (k := k) hir
            have h3 : i < (mkRs rows k).length := by rw [mkRs_length]; exact hir
            rw [List.getD_eq_getElem?_getD, List.getElem?_eq_getElem h3, Option.getD_some] at h2
            rw [List.getElem?_eq_getElem h3, h2]
          unfold cellAt
          rw [h1, Option.bind_some, e2]
        have hG := mkRs_get (k := k) hir
        rw [e2] at hG
        simp -implicitDefEqProofs (disch := omega) only [go_sem, hb, hS, hp, hC, hG, mkRs_length, hl, isSD]
        (repeat (with_reducible refine And.intro ?_ ?_; focus first | omega | rfl | assumption | exact ⟨_, rfl, rfl⟩ | (simp; omega) | (simp; done)))
        refine call_w (markText_ok (k + ((mcRs (rows.take i) : Nat) : Int)) (by omega)) ?_
        simp -implicitDefEqProofs (disch := omega) only [go_sem, hb, hS, hp, hC, hG, mkRs_length, hl, isSD]
        (repeat (with_reducible refine And.intro ?_ ?_; focus first | omega | rfl | assumption | exact ⟨_, rfl, rfl⟩ | (simp; omega) | (simp; done)))
        refine call_d rfl (ihSExpr x.fList (by have := List.sizeOf_lt_of_mem (List.getElem_mem hi); rw [← hx] at this; have := MSExpr.lt_List x; omega) (k + ((mcRs (rows.take i) : Nat) : Int) + 1) (1 + l) j r _ _ _ (by rw [getO_up1]; exact hS) (atR_snoc hp (by rw [hC]; rfl)) (by omega)) ?_
        simp -implicitDefEqProofs (disch := omega) only [go_sem, hb, hS, hp, hC, hG, mkRs_length, hl, isSD, dec_neg]
        (repeat (with_reducible refine And.intro ?_ ?_; focus first | omega | rfl | assumption | exact ⟨_, rfl, rfl⟩ | (simp; omega) | (simp; done)))
        refine inv_at (i + 1) (by omega) (by rw [hK]; rfl) rfl (by omega)
      · simp -implicitDefEqProofs (disch := omega) only [go_sem, hb]
        have hi : i = xs.length := by omega
        rw [List.take_of_length_le (by omega)]
        all_goals (first | rfl | exact ⟨rfl, rfl⟩)
theorem heldSExprS_ok (xs : List MSExpr) : ∀ (k : Int) (l j r : Nat) (p : List (Nat × Nat)) (S : Store) (rs : List (List (List D))), getO S (l, j) = some (.xf rs) → atR rs r p = some (mkRs (xs.map MSExpr.enc) k) → 0 ≤ k ∧ k + mcRs (xs.map MSExpr.enc) ≤ 4611686018427387904 → ACall Tryz.prog 73 [.c (.xp (l, j) r p), .c (.d (.i .i64 k))] S (fun res S' => res = .c (.d (.i .i64 (k + mcRs (xs.map MSExpr.enc)))) ∧ S' = S) := (heldSExpr_all _) xs (Nat.lt_succ_self _)
theorem heldSExpr_ok (x : MSExpr) (k : Int) (l j b : Nat) (S : Store) (rs : List (List (List D))) (hS : getO S (l, j) = some (.xf rs)) (h1 : atR rs (b + 1) [] = some (mkRs (x.fList.map MSExpr.enc) (k))) (hk : 0 ≤ k ∧ k + ((mcRs (x.fList.map MSExpr.enc) : Nat) : Int) ≤ 4611686018427387904) : ACall Tryz.prog 19 [.agg [.d (.s x.fAtom), .xp (l, j) (b + 1) []], .c (.d (.i .i64 k))] S (fun res S' => res = .c (.d (.i .i64 (k + ((mcRs (x.fList.map MSExpr.enc) : Nat) : Int)))) ∧ S' = S) := by
  refine acall_cw (rs := [.tmp 4]) Tryz.checked.mixed Tryz.func19 Tryz.ntmps19 rfl rfl rfl rfl rfl ?_
  simp -implicitDefEqProofs (disch := omega) only [go_sem]
  refine call_d rfl (heldSExprS_ok x.fList (k) (1 + l) j (b + 1) [] _ _ (by rw [getO_up1]; first | exact hS | exact ht _) (by first | assumption | (simp (disch := omega) only [ne_eq, atR_ne]; assumption)) (by omega)) ?_
  simp -implicitDefEqProofs (disch := omega) only [go_sem, dec_neg]
  try exact ⟨rfl, rfl⟩
end Go.Proofs.YtokcpelkieeddaaGreatDoor

namespace Go.Proofs.YtokcpelkieeddaaGreatDoor
open Go Go.Ab
end Go.Proofs.YtokcpelkieeddaaGreatDoor

namespace Go.Proofs.YtokcpelkieeddaaGreatDoor
open Go Go.Ab
end Go.Proofs.YtokcpelkieeddaaGreatDoor

namespace Go.Proofs.YtokcpelkieeddaaGreatDoor
open Go Go.Ab
end Go.Proofs.YtokcpelkieeddaaGreatDoor

namespace Go.Proofs.YtokcpelkieeddaaGreatDoor
open Go Go.Ab
end Go.Proofs.YtokcpelkieeddaaGreatDoor

namespace Go.Proofs.YtokcpelkieeddaaGreatDoor
open Go Go.Ab
end Go.Proofs.YtokcpelkieeddaaGreatDoor

namespace Go.Proofs.YtokcpelkieeddaaGreatDoor
open Go Go.Ab
end Go.Proofs.YtokcpelkieeddaaGreatDoor

namespace Go.Proofs.YtokcpelkieeddaaGreatDoor
open Go Go.Ab
set_option maxHeartbeats 4000000 in
theorem markParamS_ok (xs : List MParam) : ∀ (k : Int) (l j r : Nat) (p : List (Nat × Nat)) (S : Store) (rs : List (List (List D))), getO S (l, j) = some (.xf rs) → atR rs r p = some (xs.map MParam.enc) → 0 ≤ k ∧ k + mcRs (xs.map MParam.enc) ≤ 4611686018427387904 → ACall Tryz.prog 94 [.c (.xp (l, j) r p), .c (.d (.i .i64 k))] S (fun res S' => res = .c (.d (.i .i64 (k + mcRs (xs.map MParam.enc)))) ∧ S' = setO S (l, j) (.xf (updR rs r p (mkRs (xs.map MParam.enc) k)))) := by
  intro k l j r p S rs hS hp hk
  have hlen := len_mc (f := MParam.enc) (fun x => by simp only [MParam.enc_eq, MType.enc_eq, encS, encI, List.cons_append, List.nil_append, mcR, mcD]; omega) xs
  obtain ⟨rows, hr⟩ : ∃ rows, rows = xs.map MParam.enc := ⟨_, rfl⟩
  have hl : rows.length = xs.length := by rw [hr, List.length_map]
  rw [← hr] at hp hk hlen ⊢
  have ht : ∀ x : Ab.Obj, getO (setO S (l, j) x) (l, j) = some x := fun x => getO_setO_eq _ _ _ _ hS
  have hA : ∀ new, atR (updR rs r p new) r p = some new := fun new => atR_updR hp
  have hU : ∀ a b, updR (updR rs r p a) r p b = updR rs r p b := fun a b => updR_updR hp
  refine acall_cw (rs := [.tmp 4]) Tryz.checked.mixed Tryz.func94 Tryz.ntmps94 rfl rfl rfl rfl rfl ?_
  simp -implicitDefEqProofs (disch := omega) only [go_sem]
  refine loop_at (ι := Nat) Tryz.checked.mixed rfl [0, 1, 5] (fun i => [.c (.xp (1 + l, j) r p), .c (.d (.i .i64 (k + mcRs (rows.take i)))), .c (.d (.i .i64 i))])
    (fun i => [] :: setO S (l, j) (.xf (updR rs r p (mkTo rows k i)))) (fun i => i ≤ xs.length) (fun i => xs.length - i) 0 ?_ ?_ (Nat.zero_le _) ?_
  · have z0 : k + ((mcRs (rows.take 0) : Nat) : Int) = k := by simp [mcRs]
    rw [z0]
    rfl
  · rw [mkTo_zero, updR_same hp, setO_self _ _ hS]
  intro i hi
  simp -implicitDefEqProofs (disch := omega) only [go_sem, ht, hA, mkTo_length, hl]
  with_reducible refine split2 (fun hb => ?_) (fun hb => ?_) <;> have h := hb <;> try simp only [wf_preprocess] at h
  · have hi : i < xs.length := by omega
    have hir : i < rows.length := by omega
    obtain ⟨x, hx⟩ : ∃ x, x = xs[i] := ⟨_, rfl⟩
    have e1 : rows[i] = [.s x.fName, .i .i64 x.fType.fKind, .s x.fType.fName, .sl (x.fType.fArgs.map MType.enc)] := by
      simp only [hr, List.getElem_map, ← hx]
      simp only [MParam.enc_eq, MType.enc_eq, encS, encI, List.cons_append, List.nil_append]
    have hm := mcRs_take hir
    have hle := mcRs_le (rows := rows) (i := i + 1)
    rw [hm, e1] at hle
    rw [e1] at hm
    simp only [mcR, mcD] at hle hm
    have hK : k + ((mcRs (rows.take (i + 1)) : Nat) : Int) = k + ((mcRs (rows.take i) : Nat) : Int) + 1 + 1 + 1 + ((mcRs (x.fType.fArgs.map MType.enc) : Nat) : Int) := by rw [hm]; omega
    have e2 := mkTo_at (k := k) hir
    rw [e1] at e2
    have hC : ∀ row o, cellAt (mkAt rows k i row) i o = row[o]? := fun row o => mkAt_cell hir
    have hG : ∀ row, (mkAt rows k i row).getD i [] = row := fun row => mkAt_get hir
    simp -implicitDefEqProofs (disch := omega) only [go_sem, hb, ht, hA, hU, e2, hC, hG, mkAt_set, mkAt_length, hl, setO_twice, isSD]
    (repeat (with_reducible refine And.intro ?_ ?_; focus first | omega | rfl | assumption | exact ⟨_, rfl, rfl⟩ | (simp; omega) | (simp; done)))
    refine call_w (markText_ok (k + ((mcRs (rows.take i) : Nat) : Int)) (by omega)) ?_
    simp -implicitDefEqProofs (disch := omega) only [go_sem, hb, ht, hA, hU, e2, hC, hG, mkAt_set, mkAt_length, hl, setO_twice, isSD]
    (repeat (with_reducible refine And.intro ?_ ?_; focus first | omega | rfl | assumption | exact ⟨_, rfl, rfl⟩ | (simp; omega) | (simp; done)))
    refine call_w (markText_ok (k + ((mcRs (rows.take i) : Nat) : Int) + 1 + 1) (by omega)) ?_
    simp -implicitDefEqProofs (disch := omega) only [go_sem, hb, ht, hA, hU, e2, hC, hG, mkAt_set, mkAt_length, hl, setO_twice, isSD]
    (repeat (with_reducible refine And.intro ?_ ?_; focus first | omega | rfl | assumption | exact ⟨_, rfl, rfl⟩ | (simp; omega) | (simp; done)))
    refine call_d rfl (sub_mk hS hp hir (by rfl) (fun S' rs' g1 g2 => markTypeS_ok x.fType.fArgs (k + ((mcRs (rows.take i) : Nat) : Int) + 1 + 1 + 1) (1 + l) j r _ S' rs' g1 g2 (by omega))) ?_
    simp -implicitDefEqProofs (disch := omega) only [go_sem, hb, ht, hA, hU, e2, hC, hG, mkAt_set, mkAt_length, hl, setO_twice, isSD]
    (repeat (with_reducible refine And.intro ?_ ?_; focus first | omega | rfl | assumption | exact ⟨_, rfl, rfl⟩ | (simp; omega) | (simp; done)))
    refine inv_at (i + 1) (by omega) (by rw [hK]; rfl) ?_ (by omega)
    have h3 := mkAt_to (k := k) hir
    rw [e1] at h3
    simp only [mkR, mkD] at h3
    rw [← h3]
    all_goals rfl
  · simp -implicitDefEqProofs (disch := omega) only [go_sem, hb]
    have hi : i = xs.length := by omega
    rw [mkTo_all (by omega), List.take_of_length_le (by omega)]
    all_goals (first | rfl | exact ⟨rfl, rfl⟩)
end Go.Proofs.YtokcpelkieeddaaGreatDoor

namespace Go.Proofs.YtokcpelkieeddaaGreatDoor
open Go Go.Ab
theorem markFunction_ok (x : MFunction) (k : Int) (l j b : Nat) (S : Store) (rs : List (List (List D))) (hS : getO S (l, j) = some (.xf rs)) (h1 : atR rs (b + 1) [] = some (x.fVars.map encS)) (h2 : atR rs (b + 2) [] = some (x.fWhere.map MBound.enc)) (h3 : atR rs (b + 3) [] = some (x.fParams.map MParam.enc)) (h6 : atR rs (b + 6) [] = some (x.fResult.fArgs.map MType.enc)) (h13 : atR rs (b + 13) [] = some (x.fBody.fType.fArgs.map MType.enc)) (h14 : atR rs (b + 14) [] = some (x.fBody.fArgs.map MExpr.enc)) (h15 : atR rs (b + 15) [] = some (x.fBody.fArms.map MArm.enc)) (hk : 0 ≤ k ∧ k + ((mcRs (x.fVars.map encS) : Nat) : Int) + ((mcRs (x.fWhere.map MBound.enc) : Nat) : Int) + ((mcRs (x.fParams.map MParam.enc) : Nat) : Int) + ((mcRs (x.fResult.fArgs.map MType.enc) : Nat) : Int) + ((mcRs (x.fBody.fType.fArgs.map MType.enc) : Nat) : Int) + ((mcRs (x.fBody.fArgs.map MExpr.enc) : Nat) : Int) + ((mcRs (x.fBody.fArms.map MArm.enc) : Nat) : Int) ≤ 4611686018427387904) : ACall Tryz.prog 25 [.agg [.d (.s x.fName), .xp (l, j) (b + 1) [], .xp (l, j) (b + 2) [], .xp (l, j) (b + 3) [], .d (.i .i64 x.fResult.fKind), .d (.s x.fResult.fName), .xp (l, j) (b + 6) [], .d (.i .i64 x.fBody.fKind), .d (.s x.fBody.fTrait), .d (.s x.fBody.fName), .d (.i .i64 x.fBody.fN), .d (.i .i64 x.fBody.fType.fKind), .d (.s x.fBody.fType.fName), .xp (l, j) (b + 13) [], .xp (l, j) (b + 14) [], .xp (l, j) (b + 15) []], .c (.d (.i .i64 k))] S (fun res S' => res = .c (.d (.i .i64 (k + ((mcRs (x.fVars.map encS) : Nat) : Int) + ((mcRs (x.fWhere.map MBound.enc) : Nat) : Int) + ((mcRs (x.fParams.map MParam.enc) : Nat) : Int) + ((mcRs (x.fResult.fArgs.map MType.enc) : Nat) : Int) + ((mcRs (x.fBody.fType.fArgs.map MType.enc) : Nat) : Int) + ((mcRs (x.fBody.fArgs.map MExpr.enc) : Nat) : Int) + ((mcRs (x.fBody.fArms.map MArm.enc) : Nat) : Int)))) ∧ S' = setO S (l, j) (.xf (updR (updR (updR (updR (updR (updR (updR (rs) (b + 1) [] (mkRs (x.fVars.map encS) (k))) (b + 2) [] (mkRs (x.fWhere.map MBound.enc) (k + ((mcRs (x.fVars.map encS) : Nat) : Int)))) (b + 3) [] (mkRs (x.fParams.map MParam.enc) (k + ((mcRs (x.fVars.map encS) : Nat) : Int) + ((mcRs (x.fWhere.map MBound.enc) : Nat) : Int)))) (b + 6) [] (mkRs (x.fResult.fArgs.map MType.enc) (k + ((mcRs (x.fVars.map encS) : Nat) : Int) + ((mcRs (x.fWhere.map MBound.enc) : Nat) : Int) + ((mcRs (x.fParams.map MParam.enc) : Nat) : Int)))) (b + 13) [] (mkRs (x.fBody.fType.fArgs.map MType.enc) (k + ((mcRs (x.fVars.map encS) : Nat) : Int) + ((mcRs (x.fWhere.map MBound.enc) : Nat) : Int) + ((mcRs (x.fParams.map MParam.enc) : Nat) : Int) + ((mcRs (x.fResult.fArgs.map MType.enc) : Nat) : Int)))) (b + 14) [] (mkRs (x.fBody.fArgs.map MExpr.enc) (k + ((mcRs (x.fVars.map encS) : Nat) : Int) + ((mcRs (x.fWhere.map MBound.enc) : Nat) : Int) + ((mcRs (x.fParams.map MParam.enc) : Nat) : Int) + ((mcRs (x.fResult.fArgs.map MType.enc) : Nat) : Int) + ((mcRs (x.fBody.fType.fArgs.map MType.enc) : Nat) : Int)))) (b + 15) [] (mkRs (x.fBody.fArms.map MArm.enc) (k + ((mcRs (x.fVars.map encS) : Nat) : Int) + ((mcRs (x.fWhere.map MBound.enc) : Nat) : Int) + ((mcRs (x.fParams.map MParam.enc) : Nat) : Int) + ((mcRs (x.fResult.fArgs.map MType.enc) : Nat) : Int) + ((mcRs (x.fBody.fType.fArgs.map MType.enc) : Nat) : Int) + ((mcRs (x.fBody.fArgs.map MExpr.enc) : Nat) : Int)))))) := by
  have ht : ∀ x : Ab.Obj, getO (setO S (l, j) x) (l, j) = some x := fun x => getO_setO_eq _ _ _ _ hS
  refine acall_cw (rs := [.tmp 4]) Tryz.checked.mixed Tryz.func25 Tryz.ntmps25 rfl rfl rfl rfl rfl ?_
  simp -implicitDefEqProofs (disch := omega) only [go_sem]
  refine call_d rfl (markStringS_ok x.fVars (k) (1 + l) j (b + 1) [] _ _ (by rw [getO_up1]; first | exact hS | exact ht _) (by first | assumption | (simp (disch := omega) only [ne_eq, atR_ne]; assumption)) (by omega)) ?_
  simp -implicitDefEqProofs (disch := omega) only [go_sem, setO_twice, setO_up1]
  refine call_d rfl (markBoundS_ok x.fWhere (k + ((mcRs (x.fVars.map encS) : Nat) : Int)) (1 + l) j (b + 2) [] _ _ (by rw [getO_up1]; first | exact hS | exact ht _) (by first | assumption | (simp (disch := omega) only [ne_eq, atR_ne]; assumption)) (by omega)) ?_
  simp -implicitDefEqProofs (disch := omega) only [go_sem, setO_twice, setO_up1]
  refine call_d rfl (markParamS_ok x.fParams (k + ((mcRs (x.fVars.map encS) : Nat) : Int) + ((mcRs (x.fWhere.map MBound.enc) : Nat) : Int)) (1 + l) j (b + 3) [] _ _ (by rw [getO_up1]; first | exact hS | exact ht _) (by first | assumption | (simp (disch := omega) only [ne_eq, atR_ne]; assumption)) (by omega)) ?_
  simp -implicitDefEqProofs (disch := omega) only [go_sem, setO_twice, setO_up1]
  refine call_d rfl (markType_ok x.fResult (k + ((mcRs (x.fVars.map encS) : Nat) : Int) + ((mcRs (x.fWhere.map MBound.enc) : Nat) : Int) + ((mcRs (x.fParams.map MParam.enc) : Nat) : Int)) (1 + l) j (b + 4) _ _ (by rw [getO_up1]; first | exact hS | exact ht _) (by first | assumption | (simp (disch := omega) only [ne_eq, atR_ne]; assumption)) (by omega)) ?_
  simp -implicitDefEqProofs (disch := omega) only [go_sem, setO_twice, setO_up1, Nat.add_assoc, Nat.reduceAdd]
  refine call_d rfl (markExpr_ok x.fBody (k + ((mcRs (x.fVars.map encS) : Nat) : Int) + ((mcRs (x.fWhere.map MBound.enc) : Nat) : Int) + ((mcRs (x.fParams.map MParam.enc) : Nat) : Int) + ((mcRs (x.fResult.fArgs.map MType.enc) : Nat) : Int)) (1 + l) j (b + 7) _ _ (by rw [getO_up1]; first | exact hS | exact ht _) (by first | assumption | (simp (disch := omega) only [ne_eq, atR_ne]; assumption)) (by first | assumption | (simp (disch := omega) only [ne_eq, atR_ne]; assumption)) (by first | assumption | (simp (disch := omega) only [ne_eq, atR_ne]; assumption)) (by omega)) ?_
  simp -implicitDefEqProofs (disch := omega) only [go_sem, setO_twice, setO_up1, Nat.add_assoc, Nat.reduceAdd]
  try exact ⟨rfl, rfl⟩
end Go.Proofs.YtokcpelkieeddaaGreatDoor

namespace Go.Proofs.YtokcpelkieeddaaGreatDoor.fnExactFunctionToSExpr
open Go Go.Ab
set_option maxHeartbeats 4000000 in
theorem law (x0 : MFunction) (f0 : FitL x0.enc) : ACall Tryz.prog 4 [x0.v] [] (fun r _ => r = .c (.d (.b true))) := by
  have hmx := mcr_sz x0.enc x0.plw.2
  rw [MFunction.enc_length, MFunction.sz_def] at hmx
  simp only [MFunction.enc_eq, MType.enc_eq, MExpr.enc_eq, List.cons_append, List.nil_append, mcR, mcD] at hmx
  refine acall_cw (rs := [.tmp 2]) Tryz.checked.mixed Tryz.func4 Tryz.ntmps4 rfl rfl rfl rfl rfl ?_
  simp -implicitDefEqProofs (disch := omega) only [go_sem]
  refine call_w (szFunction_ok x0 _ (by omega) (by omega) f0) ?_
  simp -implicitDefEqProofs (disch := omega) only [go_sem] <;> (repeat (with_reducible refine And.intro ?_ ?_; focus first | omega | rfl | assumption | exact ⟨_, rfl, rfl⟩ | (simp; omega) | (simp; done)))
  with_reducible refine split2 (fun hb => ?_) (fun hb => ?_) <;> have h := hb <;> (try simp only [wf_preprocess] at h) <;> simp -implicitDefEqProofs (disch := omega) only [go_sem, hb] <;> (repeat (with_reducible refine And.intro ?_ ?_; focus first | omega | rfl | assumption | exact ⟨_, rfl, rfl⟩ | (simp; omega) | (simp; done)))
  have h0 := sub1_nn h
  have c1 := specFn_ok x0 (by omega)
  have c2 := fun n => implFn_lab x0 n (by omega)
  have hd : (outF x0).sz ≤ 1048576 := outF_sz (by omega)
  obtain ⟨X, hX⟩ : ∃ X, X = outF x0 := ⟨_, rfl⟩
  rw [← hX] at hd c1
  simp only [← hX] at c2
  have hmd := mcr_sz X.enc X.plw.2
  rw [MSExpr.enc_length, MSExpr.sz_def] at hmd
  simp only [MSExpr.enc_eq, List.cons_append, List.nil_append, mcR, mcD] at hmd
  have c2' : ∀ n, PCall Tryz.prog 23 [x0.v] (.agg ((labR X.enc n).map .d)) := fun n => by
    have := c2 n
    first | exact this | (rw [labX_eq]; exact this)
  have c3 : PCall Tryz.prog 23 [x0.v] X.v := by
    have := PCall.less (c2' 0) less_lab
    rw [MSExpr.v_eq] at this
    exact this
  refine call_w (toFunction_ok x0 (by omega)) ?_
  simp -implicitDefEqProofs (disch := omega) only [go_sem] <;> (repeat (with_reducible refine And.intro ?_ ?_; focus first | omega | rfl | assumption | exact ⟨_, rfl, rfl⟩ | (simp; omega) | (simp; done)))
  refine call_w c1 ?_
  simp -implicitDefEqProofs (disch := omega) only [go_sem]
  refine call_d rfl (ACall.own (mk := V.agg) (r := x0.enc) holder_agg x0.plw.1 (fun n => toFunction_lab x0 n (by omega))) ?_
  simp -implicitDefEqProofs (disch := omega) only [go_sem, MFunction.enc_eq, MType.enc_eq, MExpr.enc_eq, List.cons_append, List.nil_append, rowX, cellX, rootD]
  refine call_d rfl (ACall.ownL (k := (0, 2)) rfl (mk := V.agg) (r := X.enc) holder_agg X.plw.1 (fun n => c2' n)) ?_
  simp -implicitDefEqProofs (disch := omega) only [go_sem, MSExpr.enc_eq, List.cons_append, List.nil_append, rowX, cellX, rootD]
  refine call_d rfl (ACall.lend (k := (0, 4)) rfl (stay_plain rfl) (eqSExpr_ok X X (by omega))) ?_
  simp -implicitDefEqProofs (disch := omega) only [go_sem, dec_true rfl, Bool.not_true]
  refine call_w (toFunction_ok x0 (by omega)) ?_
  simp -implicitDefEqProofs (disch := omega) only [go_sem] <;> (repeat (with_reducible refine And.intro ?_ ?_; focus first | omega | rfl | assumption | exact ⟨_, rfl, rfl⟩ | (simp; omega) | (simp; done)))
  refine call_a rfl (DS.refl _) (ACall.lend (k := (0, 2)) rfl (stay_plain rfl) (eqFunction_ok x0 x0 (by omega))) ?_
  simp -implicitDefEqProofs (disch := omega) only [go_sem, dec_true rfl, Bool.not_true]
  refine call_d rfl (markFunction_ok x0 1 0 2 0 _ _ rfl rfl rfl rfl rfl rfl rfl rfl ⟨by omega, by omega⟩) ?_
  simp -implicitDefEqProofs (disch := omega) only [go_sem, dec_neg]
  refine call_d rfl (ACall.lend (k := (0, 4)) rfl (stay_plain rfl) (eqSExpr_ok X X (by omega))) ?_
  simp -implicitDefEqProofs (disch := omega) only [go_sem, dec_true rfl, Bool.not_true]
  refine call_d rfl (markSExpr_ok X 1 0 4 0 _ _ rfl rfl ⟨by omega, by omega⟩) ?_
  simp -implicitDefEqProofs (disch := omega) only [go_sem]
  refine call_d rfl (heldSExpr_ok X 1 0 4 0 _ _ rfl rfl ⟨by omega, by omega⟩) ?_
  simp -implicitDefEqProofs (disch := omega) only [go_sem, dec_neg, Bool.not_true]
  refine call_w (toFunction_ok x0 (by omega)) ?_
  simp -implicitDefEqProofs (disch := omega) only [go_sem] <;> (repeat (with_reducible refine And.intro ?_ ?_; focus first | omega | rfl | assumption | exact ⟨_, rfl, rfl⟩ | (simp; omega) | (simp; done)))
  refine call_w c3 ?_
  simp -implicitDefEqProofs (disch := omega) only [go_sem]
  refine call_w (eqSExpr_ok X X (by omega)) ?_
  simp -implicitDefEqProofs (disch := omega) only [go_sem, dec_true rfl, Bool.not_true]
  refine call_d rfl (heldSExpr_ok X 1 0 4 0 _ _ rfl rfl ⟨by omega, by omega⟩) ?_
  simp -implicitDefEqProofs (disch := omega) only [go_sem, dec_neg, Bool.not_true]
end Go.Proofs.YtokcpelkieeddaaGreatDoor.fnExactFunctionToSExpr

namespace Go.Ab
open Go
theorem ints_of_array {H : Type} {enc : TypeId × Value → H} {P : Program} {w : World} {base : Nat} {sp : Nat → Bool} {held : Bool} {fuel n : Nat} {t e : TypeId} {k : IntKind} {cs : List Value} {ns : List Int} {p : List MemPlace}
    (ht : P.underlying t = some (.array n e)) (he : P.underlying e = some (.int k)) (ce : P.cellsOf e = 1) (ct : P.cellsOf t = n)
    (h : DataW.trod enc P w base sp held fuel t cs = some (.agg (ns.map fun z => .lit (.int k z)), p)) : cs = ns.map (Value.int k ·) := by
  obtain ⟨xs, m, _, ex, hlen, hl, hel⟩ := DataW.trod_array ht h
  rw [ct] at hlen
  have e3 := DataW.agg.inj (Prod.mk.inj ex).1
  have hns : ns.length = n := by have := congrArg List.length e3; simpa [hl] using this
  refine List.ext_getElem (by rw [hlen, List.length_map, hns]) fun i h1 h2 => ?_
  have k0 := hel i (by omega)
  rw [ce, Nat.mul_one] at k0
  have hd : (cs.drop i).take 1 = [cs[i]] := by
    rw [List.drop_eq_getElem_cons h1]; rfl
  rw [hd, List.getElem?_eq_getElem (by omega)] at k0
  obtain ⟨z, a, b, _⟩ := DataW.trod_int he k0
  have e4 : (ns.map fun z => (DataW.lit (Lit.int k z) : DataW H))[i]'(by rw [List.length_map]; omega) = (xs.map (·.1))[i]'(by rw [List.length_map]; omega) := by simp only [e3]
  rw [List.getElem_map, List.getElem_map, b] at e4
  simp only [DataW.lit.injEq, Lit.int.injEq, true_and] at e4
  rw [List.getElem_map, e4]
  simpa using a
theorem var_cells {P : Program} {w : World} {n : String} {g : Nat} {cs : Array Value} (hg : P.globalNamed n = some g) (h : w.var? P n = some cs) : ∃ t fz, w.heap[g]? = some (.cells cs t fz) := by
  unfold World.var? at h
  rw [hg] at h
  simp only [Option.bind_some] at h
  split at h
  · rename_i c t fz hh
    cases h
    exact ⟨t, fz, hh⟩
  · cases h
end Go.Ab
namespace Go.Proofs.YtokcpelkieeddaaGreatDoor
open Go Go.Ab
theorem glob_of_laid {W : World} {r : List (String × DataW Unit)} (hr : (r.all fun x => x.2.handleName?.isNone) = true)
    (h : laidMetH Tryz.prog (("math/bits.deBruijn32tab", Rows.laid_math_bits_deBruijn32tab) :: ("math/bits.deBruijn64tab", Rows.laid_math_bits_deBruijn64tab) :: ("internal/strconv.uint64pow10", Rows.laid_internal_strconv_uint64pow10) :: r) W) : Glob W (allFast W) := by
  rw [MakeChecks.laidMetH_plain _ _ _ (by
    rw [List.all_cons, List.all_cons, List.all_cons, hr]; kernel_rfl)] at h
  obtain ⟨ps, ⟨_, _, _, _, _, _, _, _, _, _, ⟨_, _, _, _, _, _, _, _, _, _, ⟨g, t, cs, fuel, p, q, hg, ht, hv, hd, _, _⟩, _⟩, _⟩, _, _⟩ := h
  have hn : Tryz.prog.globalNamed "internal/strconv.uint64pow10" = some 0 := by kernel_rfl
  obtain rfl := Option.some.inj (hn.symm.trans hg)
  obtain rfl := Option.some.inj ((show (Tryz.prog.globals[0]?).map (·.type) = some 360 by kernel_rfl).symm.trans ht)
  have hl : (Rows.laid_internal_strconv_uint64pow10 : DataW Unit) = .agg (((List.range 20).map fun i => ((10 ^ i : Nat) : Int)).map fun z => .lit (.int .u64 z)) := by kernel_rfl
  rw [hl] at hd
  have e := ints_of_array Tryz.underlying360 Tryz.underlying344 (by kernel_rfl) (by kernel_rfl) hd
  obtain ⟨t', fz, hh⟩ := var_cells hg hv
  intro g' p' hm
  have hm' := List.eq_of_mem_singleton hm
  cases hm'
  refine ⟨cs, t', fz, hh, ?_, ?_⟩
  · show cs.toList = _
    rw [e, List.map_map]; rfl
  · unfold allFast; rw [hh]
    exact Nat.le_refl _
end Go.Proofs.YtokcpelkieeddaaGreatDoor

namespace Go.Ab
theorem wt_pos {P : Program} {n : Nat} {t : TypeId} {ds : List D} (h : WT P n t ds) : ∃ m, n = m + 1 := by
  cases n with
  | zero => exact h.elim
  | succ m => exact ⟨m, rfl⟩
theorem wt_int {P : Program} {n : Nat} {t : TypeId} {k : IntKind} {ds : List D} (ht : P.underlying t = some (.int k)) (h : WT P n t ds) : ∃ x, ds = [.i k x] ∧ (Lit.int k x).wf = true := by
  obtain ⟨m, rfl⟩ := wt_pos h
  simp only [WT, ht] at h; exact h
theorem wt_string {P : Program} {n : Nat} {t : TypeId} {ds : List D} (ht : P.underlying t = some .string) (h : WT P n t ds) : ∃ l, ds = [.s l] := by
  obtain ⟨m, rfl⟩ := wt_pos h
  simp only [WT, ht] at h; exact ⟨h.choose, h.choose_spec.1⟩
theorem wt_slice {P : Program} {n : Nat} {t e : TypeId} {ds : List D} (ht : P.underlying t = some (.slice e)) (h : WT P n t ds) : ∃ es m, m < n ∧ ds = [.sl es] ∧ ∀ x ∈ es, WT P m e x := by
  obtain ⟨m, rfl⟩ := wt_pos h
  simp only [WT, ht] at h
  obtain ⟨es, h1, _, h2⟩ := h
  exact ⟨es, m, by omega, h1, fun x hx => (h2 x hx).2⟩
theorem wt_struct {P : Program} {n : Nat} {t : TypeId} {fs : Array Field} {ds : List D} (ht : P.underlying t = some (.struct fs)) (h : WT P n t ds) : ∃ m, m < n ∧ WTF P (WT P m) fs.toList ds := by
  obtain ⟨m, rfl⟩ := wt_pos h
  simp only [WT, ht] at h
  exact ⟨m, by omega, h⟩
theorem list_enc {α : Type} {enc : α → List D} : ∀ {es : List (List D)}, (∀ x ∈ es, ∃ m, x = enc m) → ∃ ms : List α, es = ms.map enc
  | [], _ => ⟨[], rfl⟩
  | e :: es, h => by
    obtain ⟨m, hm⟩ := h e (by simp)
    obtain ⟨ms, hms⟩ := list_enc (es := es) fun x hx => h x (by simp [hx])
    exact ⟨m :: ms, by rw [List.map_cons, ← hm, ← hms]⟩
theorem wtf_fit {P : Program} {W : TypeId → List D → Prop} (hW : ∀ t ds, W t ds → FitL ds) : ∀ (fs : List Field) (ds : List D), WTF P W fs ds → FitL ds
  | [], ds, h => by
    have h : ds = [] := h
    rw [h]; exact fitL_nil
  | f :: fs, ds, h => by
    obtain ⟨a, b, rfl, _, h1, h2⟩ := h
    exact fitL_append.2 ⟨hW _ _ h1, wtf_fit hW fs b h2⟩
theorem wt_fit {P : Program} : ∀ (n : Nat) (t : TypeId) (ds : List D), WT P n t ds → FitL ds
  | 0, t, ds, h => h.elim
  | n + 1, t, ds, h => by
    simp only [WT] at h
    split at h
    · obtain ⟨b, rfl⟩ := h; exact fitL_cons.2 ⟨.b _, fitL_nil⟩
    · obtain ⟨b, rfl, _⟩ := h; exact fitL_cons.2 ⟨.i _ _, fitL_nil⟩
    · obtain ⟨l, rfl, hl⟩ := h; exact fitL_cons.2 ⟨.s _ hl, fitL_nil⟩
    · obtain ⟨es, rfl, hl, hh⟩ := h
      exact fitL_cons.2 ⟨.sl _ hl fun e he d hd => wt_fit n _ e (hh e he).2 d hd, fitL_nil⟩
    · exact wtf_fit (wt_fit n) _ _ h
    · exact h.elim
end Go.Ab
namespace Go.Proofs.YtokcpelkieeddaaGreatDoor
open Go Go.Ab
theorem wt_Type : ∀ (n : Nat) (ds : List D), WT Tryz.prog n 24 ds → ∃ x : MType, ds = x.enc := by
  intro n
  induction n using Nat.strongRecOn with
  | _ n ih =>
    intro ds h
    obtain ⟨m, hm, h⟩ := wt_struct Tryz.underlying24 h
    simp only [WTF] at h
    obtain ⟨a0, r0, rfl, l0, h0, a1, r1, rfl, l1, h1, a2, r2, rfl, l2, h2, rfl⟩ := h
    obtain ⟨x0, rfl, _⟩ := wt_int Tryz.underlying3 h0
    obtain ⟨x1, rfl⟩ := wt_string Tryz.underlying9 h1
    obtain ⟨es2, m2, hm2, rfl, hs2⟩ := wt_slice Tryz.underlying22 h2
    obtain ⟨x2, rfl⟩ := list_enc (enc := MType.enc) fun y hy => ih m2 (by omega) y (hs2 y hy)
    refine ⟨MType.mk x0 x1 x2, ?_⟩
    rw [MType.enc_eq]
    simp [MType.fKind, MType.fName, MType.fArgs]
theorem wt_Bound : ∀ (n : Nat) (ds : List D), WT Tryz.prog n 210 ds → ∃ x : MBound, ds = x.enc := by
  intro n
  induction n using Nat.strongRecOn with
  | _ n ih =>
    intro ds h
    obtain ⟨m, hm, h⟩ := wt_struct Tryz.underlying210 h
    simp only [WTF] at h
    obtain ⟨a0, r0, rfl, l0, h0, a1, r1, rfl, l1, h1, rfl⟩ := h
    obtain ⟨x0, rfl⟩ := wt_string Tryz.underlying9 h0
    obtain ⟨x1, rfl⟩ := wt_Type m a1 h1
    refine ⟨MBound.mk x0 x1, ?_⟩
    rw [MBound.enc_eq]
    simp
theorem wt_ExprArm : ∀ (n : Nat), (∀ ds : List D, WT Tryz.prog n 28 ds → ∃ x : MExpr, ds = x.enc) ∧ (∀ ds : List D, WT Tryz.prog n 194 ds → ∃ x : MArm, ds = x.enc) := by
  intro n
  induction n using Nat.strongRecOn with
  | _ n ih =>
    refine ⟨fun ds h => ?_, fun ds h => ?_⟩
    · obtain ⟨m, hm, h⟩ := wt_struct Tryz.underlying28 h
      simp only [WTF] at h
      obtain ⟨a0, r0, rfl, l0, h0, a1, r1, rfl, l1, h1, a2, r2, rfl, l2, h2, a3, r3, rfl, l3, h3, a4, r4, rfl, l4, h4, a5, r5, rfl, l5, h5, a6, r6, rfl, l6, h6, rfl⟩ := h
      obtain ⟨x0, rfl, _⟩ := wt_int Tryz.underlying3 h0
      obtain ⟨x1, rfl⟩ := wt_string Tryz.underlying9 h1
      obtain ⟨x2, rfl⟩ := wt_string Tryz.underlying9 h2
      obtain ⟨x3, rfl, _⟩ := wt_int Tryz.underlying3 h3
      obtain ⟨x4, rfl⟩ := wt_Type m a4 h4
      obtain ⟨es5, m5, hm5, rfl, hs5⟩ := wt_slice Tryz.underlying25 h5
      obtain ⟨x5, rfl⟩ := list_enc (enc := MExpr.enc) fun y hy => (ih m5 (by omega)).1 y (hs5 y hy)
      obtain ⟨es6, m6, hm6, rfl, hs6⟩ := wt_slice Tryz.underlying26 h6
      obtain ⟨x6, rfl⟩ := list_enc (enc := MArm.enc) fun y hy => (ih m6 (by omega)).2 y (hs6 y hy)
      refine ⟨MExpr.mk x0 x1 x2 x3 x4 x5 x6, ?_⟩
      rw [MExpr.enc_eq]
      simp [MExpr.fKind, MExpr.fTrait, MExpr.fName, MExpr.fN, MExpr.fType, MExpr.fArgs, MExpr.fArms]
    · obtain ⟨m, hm, h⟩ := wt_struct Tryz.underlying194 h
      simp only [WTF] at h
      obtain ⟨a0, r0, rfl, l0, h0, a1, r1, rfl, l1, h1, a2, r2, rfl, l2, h2, rfl⟩ := h
      obtain ⟨x0, rfl⟩ := wt_string Tryz.underlying9 h0
      obtain ⟨es1, m1, hm1, rfl, hs1⟩ := wt_slice Tryz.underlying47 h1
      obtain ⟨x1, rfl⟩ := list_enc (enc := encS) fun y hy => wt_string Tryz.underlying9 (hs1 y hy)
      obtain ⟨x2, rfl⟩ := (ih m (by omega)).1 a2 h2
      refine ⟨MArm.mk x0 x1 x2, ?_⟩
      rw [MArm.enc_eq]
      simp [MArm.fConstructor, MArm.fVars, MArm.fBody]
theorem wt_Expr (n : Nat) (ds : List D) (h : WT Tryz.prog n 28 ds) : ∃ x : MExpr, ds = x.enc := (wt_ExprArm n).1 ds h
theorem wt_Param : ∀ (n : Nat) (ds : List D), WT Tryz.prog n 213 ds → ∃ x : MParam, ds = x.enc := by
  intro n
  induction n using Nat.strongRecOn with
  | _ n ih =>
    intro ds h
    obtain ⟨m, hm, h⟩ := wt_struct Tryz.underlying213 h
    simp only [WTF] at h
    obtain ⟨a0, r0, rfl, l0, h0, a1, r1, rfl, l1, h1, rfl⟩ := h
    obtain ⟨x0, rfl⟩ := wt_string Tryz.underlying9 h0
    obtain ⟨x1, rfl⟩ := wt_Type m a1 h1
    refine ⟨MParam.mk x0 x1, ?_⟩
    rw [MParam.enc_eq]
    simp
theorem wt_Function : ∀ (n : Nat) (ds : List D), WT Tryz.prog n 51 ds → ∃ x : MFunction, ds = x.enc := by
  intro n
  induction n using Nat.strongRecOn with
  | _ n ih =>
    intro ds h
    obtain ⟨m, hm, h⟩ := wt_struct Tryz.underlying51 h
    simp only [WTF] at h
    obtain ⟨a0, r0, rfl, l0, h0, a1, r1, rfl, l1, h1, a2, r2, rfl, l2, h2, a3, r3, rfl, l3, h3, a4, r4, rfl, l4, h4, a5, r5, rfl, l5, h5, rfl⟩ := h
    obtain ⟨x0, rfl⟩ := wt_string Tryz.underlying9 h0
    obtain ⟨es1, m1, hm1, rfl, hs1⟩ := wt_slice Tryz.underlying47 h1
    obtain ⟨x1, rfl⟩ := list_enc (enc := encS) fun y hy => wt_string Tryz.underlying9 (hs1 y hy)
    obtain ⟨es2, m2, hm2, rfl, hs2⟩ := wt_slice Tryz.underlying48 h2
    obtain ⟨x2, rfl⟩ := list_enc (enc := MBound.enc) fun y hy => wt_Bound m2 y (hs2 y hy)
    obtain ⟨es3, m3, hm3, rfl, hs3⟩ := wt_slice Tryz.underlying49 h3
    obtain ⟨x3, rfl⟩ := list_enc (enc := MParam.enc) fun y hy => wt_Param m3 y (hs3 y hy)
    obtain ⟨x4, rfl⟩ := wt_Type m a4 h4
    obtain ⟨x5, rfl⟩ := wt_Expr m a5 h5
    refine ⟨MFunction.mk x0 x1 x2 x3 x4 x5, ?_⟩
    rw [MFunction.enc_eq]
    simp
end Go.Proofs.YtokcpelkieeddaaGreatDoor

