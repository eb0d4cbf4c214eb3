/-
  SEVERAL TEXTS IN ONE (merged by program): contracts and models, each with its own heading.
-/
import Derived.Test.YtnleocfkdidhoaaGreatPartPfC
import Derived.WalkKit
import Derived.ProofKit
import Derived.Lib.AppendZeros
import Derived.Laws.Cover3
set_option linter.unusedSimpArgs false
set_option linter.unusedVariables false
set_option maxRecDepth 4000
namespace Go.Ab
theorem run_app_make {P : Program} {w : World} {t u ty e : TypeId} {base : Option Addr} {n : Nat} {i : TypeInfo} {z : Value} (ht : P.underlying t = some (.slice e)) (hu : P.underlying u = some (.int .i64)) (hi : P.info? e = some i)
    (hz : i.zero = some z) (h1 : 1 ≤ n) (hn : n ≤ 1073741824) (hb : i.bytes ≤ 4096) (hs : i.size = z.cells.size) :
    ∃ (cap : Nat) (row : Array Value), n ≤ cap ∧ row.size = cap * z.cells.size ∧ (Builtin.append_ #[t, u] ty #[.slice base 0 0, .int .i64 n]).run P w =
      .ok (.slice (some ⟨w.heap.size, 0, none⟩) n cap) { w.drew with heap := w.heap.push (.cells row e) } := by
  have hn1 := nextcap_le n 0 (by omega)
  have h48 : ¬ (281474976710656 < Builtin.nextslicecap n 0 * i.bytes) := by
    have : Builtin.nextslicecap n 0 * i.bytes ≤ (2 * n + 512) * 4096 := Nat.mul_le_mul hn1 hb
    omega
  have h49 : ¬ (281474976710656 < (n : Int) * (i.bytes : Int)) := by
    have h2 : n * i.bytes ≤ 1073741824 * 4096 := Nat.mul_le_mul hn hb
    have : (n : Int) * (i.bytes : Int) = ((n * i.bytes : Nat) : Int) := by simp
    rw [this]; omega
  have h63' : ¬ (9223372036854775807 < (n : Int)) := by omega
  have hroom' : ¬ (n ≤ 0) := by omega
  have hneg : ¬ ((n : Int) < 0) := by omega
  have hn0 : ¬ n = 0 := by omega
  have hw : IntKind.i64.wrap (n : Int) = n := wrap_in _ (by omega)
  have hmax : IntKind.i64.max = 9223372036854775807 := by decide
  have ha : ∀ w : World, (asInt (.int .i64 (n : Int))).run P w = .ok (n : Int) w := fun w => by simp [asInt, asIntOf]
  let cap := (Question.appendCap n 0 e).cut (w.tape w.drawn (Question.appendCap n 0 e))
  have hcap : n ≤ cap := by simp [cap, Question.cut]
  refine ⟨cap, #[] ++ (if n * i.size = 0 then #[] else Builtin.zeroCells z.cells n) ++ Builtin.zeroCells z.cells (cap - n), hcap, ?_, ?_⟩
  · by_cases h0 : n * i.size = 0
    · rw [if_pos h0]
      have hsz : z.cells.size = 0 := by
        rcases Nat.mul_eq_zero.1 h0 with h | h
        · omega
        · omega
      simp [Builtin.zeroCells, hsz]
    · rw [if_neg h0]
      simp only [Builtin.zeroCells, Array.size_append, Array.size_map, Array.size_range, Array.size_empty, Nat.zero_add]
      rw [← Nat.add_mul]
      congr 1
      omega
  · by_cases h0 : n * i.size = 0
    · rw [if_pos h0]
      cases base <;> simp [Builtin.append_, run_underlying ht, run_underlying hu, sizeOf, typeInfo, zeroValue, hi, hz, hroom', h48, h49, h63', hneg, hw, hmax, Question.forced, newRow, ha, hn0, loadCellsFrom, h0, Builtin.firstCells, loadCells] <;> exact ⟨rfl, rfl⟩
    · rw [if_neg h0]
      cases base <;> simp [Builtin.append_, run_underlying ht, run_underlying hu, sizeOf, typeInfo, zeroValue, hi, hz, hroom', h48, h49, h63', hneg, hw, hmax, Question.forced, newRow, ha, hn0, loadCellsFrom, h0, Builtin.firstCells, loadCells] <;> exact ⟨rfl, rfl⟩
end Go.Ab
namespace Go.Proofs.YtnleocfkdidhoaaGreat
open Go Go.Ab
theorem growS_run (base : Option Addr) (n : Nat) (h1 : 1 ≤ n) (hn : n ≤ 1073741824) (w : World) : Calls Tryz.prog 322 #[.slice base 0 0, .int .i64 n] w fun e w' =>
    ∃ cap row, n ≤ cap ∧ row.size = cap ∧ e = .returned (.slice (some ⟨w.heap.size, 0, none⟩) 0 cap) ∧ w' = { w.drew with heap := w.heap.push (.cells row 9) } := by
  obtain ⟨cap, row, hc, hr, hm⟩ := run_app_make (P := Tryz.prog) (w := w) (t := 50) (u := 3) (ty := 50) (e := 9) (base := base) (n := n) Tryz.underlying50 Tryz.underlying3 rfl rfl h1 hn (by decide +kernel) rfl
  have h0 : ¬ ((n : Int) < 0) := by omega
  have h2 : (0 : Int) < n := by omega
  go_enter Tryz.func322, Tryz.ntmps322
  go_wp2_with (at_builtin; refine Lib.wpList_append_run _ rfl _ _ _ _ rfl _ _ rfl rfl _ _ hm ?_)
  all_goals go_ret
  exact ⟨cap, hc, row, hr.trans (Nat.mul_one _), rfl, rfl⟩
theorem growS_run0 (base : Option Addr) (w : World) : Calls Tryz.prog 322 #[.slice base 0 0, .int .i64 0] w fun e w' => e = .returned (.slice base 0 0) ∧ w' = w := by
  go_enter Tryz.func322, Tryz.ntmps322
  go_wp2
  all_goals go_ret
  exact ⟨rfl, rfl⟩
theorem growS_ok (n : Nat) (hn : n ≤ 1073741824) (own0 : List Ab.Obj) (Ω : Store) : ACall Tryz.prog 322 [.c (.fsl []), .c (.d (.i .i64 n))] (own0 :: Ω)
    (fun r S' => r = .c (.tsl (0, own0.length) []) ∧ S' = (own0 ++ [.tok 1 []]) :: Ω) := by
  refine ⟨⟨_, Tryz.func322, by kernel_rfl, by kernel_rfl⟩, fun w σ β vs hS hv => ?_⟩
  obtain ⟨hl, h⟩ := hv
  obtain ⟨v0, e0, ⟨h0, a, m, h00⟩, _⟩ := h 0 _ rfl
  obtain ⟨v1, e1, h1, _⟩ := h 1 _ rfl
  have h1' : v1 = .int .i64 n := by cases h1; rfl
  subst h1'
  have hm : m = 0 := by rw [h00] at h0; cases h0 <;> rfl
  subst hm
  subst h00
  have hvs : vs = [.slice a 0 0, .int .i64 n] := by
    match vs, hl, e0, e1 with
    | [x, y], _, e0, e1 => simp at e0 e1; rw [e0, e1]
  subst hvs
  cases β with
  | nil => have := hS.shape.1; simp at this
  | cons bo bΩ =>
  have hlen : bo.length = own0.length := by
    obtain ⟨gr, g1, g2⟩ := hS.shape.2 0 own0 rfl
    simp at g1; rw [g1]; exact g2
  by_cases hz : n = 0
  · subst hz
    refine (growS_run0 a w).mono fun e w' ⟨he, hw⟩ => ?_
    subst hw
    obtain ⟨hS', hk, hst⟩ := hS.push (o := .tok 1 []) (h := .slice a 0 0) (Grow.refl hS.live) hlen ⟨h0, by simp, a, 0, rfl, by simp, .inl rfl⟩ (fun b hb => by cases a <;> simp [blk] at hb)
    refine ⟨_, .c (.tsl (0, own0.length) []), _, _, _, he, hS', hk, hst, ⟨⟨h0, .tok 1 [], ?_, fun esz es e => ?_⟩, rfl⟩, rfl, rfl⟩
    · rw [getO_push_new]
    · cases e; exact ⟨Nat.le_refl _, fun _ => by rw [← hlen, getO_push_new]⟩
  · refine (growS_run a n (by omega) hn w).mono fun e w' ⟨cap, row, hc, hr, he, hw⟩ => ?_
    subst hw
    have hσ : σ w.heap.size = 0 := (hS.live w.heap.size).resolve_left (by omega)
    have hg : Grow w σ { w.drew with heap := w.heap.push (.cells row 9) } σ := by
      refine ⟨by simp, rfl, rfl, fun b hb => ⟨?_, rfl⟩, fun b => ?_⟩
      · simp only [Array.getElem?_push]
        rw [if_neg (by omega)]
      · rcases hS.live b with hb | hb
        · left; simp; omega
        · exact .inr hb
    obtain ⟨hS', hk, hst⟩ := hS.push (o := .tok 1 []) (h := .slice (some ⟨w.heap.size, 0, none⟩) 0 cap) hg hlen ⟨.nil _ _, by simp, _, cap, rfl, by simp, .inr ⟨w.heap.size, 0, row, 9, rfl, by simp, by simp [hσ], by omega⟩⟩ (fun b hb => by
      simp only [blk] at hb
      split at hb
      · cases hb
      · cases hb; exact Nat.le_refl _)
    refine ⟨_, .c (.tsl (0, own0.length) []), _, _, _, he, hS', hk, hst, ⟨⟨.nil _ _, .tok 1 [], ?_, fun esz es e => ?_⟩, rfl⟩, rfl, rfl⟩
    · rw [getO_push_new]
    · cases e; exact ⟨Nat.le_refl _, fun _ => by rw [← hlen, getO_push_new]⟩
theorem encS_len {xs : List (List UInt8)} : ∀ y ∈ xs.map encS, y.length = 1 := fun y hy => by
  obtain ⟨z, _, rfl⟩ := List.mem_map.1 hy
  rfl
theorem flat_sum {α : Type} (xss : List (List α)) {i : Nat} (hi : i < xss.length) : (xss.take (i + 1)).flatten.length = (xss.take i).flatten.length + xss[i].length := by
  rw [List.take_succ_eq_append_getElem hi, List.flatten_append, List.length_append]
  simp only [List.flatten_cons, List.flatten_nil, List.append_nil]
theorem flat_le {α : Type} (xss : List (List α)) (i : Nat) : (xss.take i).flatten.length ≤ xss.flatten.length := by
  conv => rhs; rw [← List.take_append_drop i xss]
  rw [List.flatten_append, List.length_append]
  omega
theorem concatS_ok (xss : List (List (List UInt8))) (hl : xss.length ≤ 1073741824) (hf : xss.flatten.length ≤ 1073741824) : PCall Tryz.prog 308 [.c (.d (.sl (xss.map fun a => [.sl (a.map encS)])))] (.c (.d (.sl (xss.flatten.map encS)))) := fun S => by
  refine acall_cw (rs := [.tmp 2]) Tryz.checked.mixed Tryz.func308 Tryz.ntmps308 rfl rfl rfl rfl rfl ?_
  simp -implicitDefEqProofs (disch := omega) only [go_sem]
  refine loop_at (ι := Nat) Tryz.checked.mixed rfl [0, 3, 9, 10, 11] (fun i => [.c (.d (.sl (xss.map fun a => [.sl (a.map encS)]))), .c (.d (.i .i64 (xss.take i).flatten.length)), .c (.d (.sl (xss.map fun a => [.sl (a.map encS)]))), .c (.d (.i .i64 xss.length)), .c (.d (.i .i64 i))]) (fun _ => [] :: S)
    (fun i => i ≤ xss.length) (fun i => xss.length - i) 0 rfl rfl (Nat.zero_le _) ?_
  rintro i p1
  have hfi := flat_le xss i
  by_cases hi : i < xss.length
  · have hs := flat_sum xss hi
    have hfi' := flat_le xss (i + 1)
    simp -implicitDefEqProofs (disch := omega) only [go_sem]
    with_reducible refine split2 (fun hb => ?_) (fun hb => ?_) <;> have h := hb <;> (try simp only [wf_preprocess] at h) <;> simp -implicitDefEqProofs (disch := omega) only [go_sem, hb] <;> (repeat (with_reducible refine And.intro ?_ ?_; focus first | omega | rfl | assumption | exact ⟨_, rfl, rfl⟩ | (simp; omega) | (simp; done)))
    · (repeat (with_reducible refine And.intro ?_ ?_; focus first | omega | rfl | assumption | exact ⟨_, rfl, rfl⟩ | (simp; omega) | (simp; done)))
      with_reducible refine split2 (fun hb => ?_) (fun hb => ?_) <;> have h := hb <;> (try simp only [wf_preprocess] at h) <;> simp -implicitDefEqProofs (disch := omega) only [go_sem, hb] <;> (repeat (with_reducible refine And.intro ?_ ?_; focus first | omega | rfl | assumption | exact ⟨_, rfl, rfl⟩ | (simp; omega) | (simp; done)))
      · omega
      · refine inv_at (i + 1) (by omega) ?_ rfl (by omega)
        rw [hs]; rfl
    · omega
  have hi : i = xss.length := by omega
  subst hi
  simp -implicitDefEqProofs (disch := omega) only [go_sem]
  with_reducible refine split2 (fun hb => ?_) (fun hb => ?_) <;> have h := hb <;> (try simp only [wf_preprocess] at h) <;> simp -implicitDefEqProofs (disch := omega) only [go_sem, hb] <;> (repeat (with_reducible refine And.intro ?_ ?_; focus first | omega | rfl | assumption | exact ⟨_, rfl, rfl⟩ | (simp; omega) | (simp; done)))
  · omega
  rw [List.take_length]
  clear hfi
  refine call_d rfl (growS_ok xss.flatten.length hf [] S) ?_
  simp -implicitDefEqProofs (disch := omega) only [go_sem]
  refine loop_at (ι := Nat) Tryz.checked.mixed rfl [6, 25, 26, 27] (fun i => [.c (.tsl (0, 0) ((xss.take i).flatten.map encS)), .c (.d (.sl (xss.map fun a => [.sl (a.map encS)]))), .c (.d (.i .i64 xss.length)), .c (.d (.i .i64 i))]) (fun i => [.tok 1 ((xss.take i).flatten.map encS)] :: S)
    (fun i => i ≤ xss.length) (fun i => xss.length - i) 0 rfl rfl (Nat.zero_le _) ?_
  rintro i p1
  have hfi := flat_le xss i
  by_cases hi : i < xss.length
  · have hs := flat_sum xss hi
    have hfi' := flat_le xss (i + 1)
    have e : (xss.take (i + 1)).flatten.map encS = (xss.take i).flatten.map encS ++ xss[i].map encS := by
      rw [List.take_succ_eq_append_getElem hi, List.flatten_append, List.map_append]
      simp only [List.flatten_cons, List.flatten_nil, List.append_nil]
    simp -implicitDefEqProofs (disch := omega) only [go_sem]
    with_reducible refine split2 (fun hb => ?_) (fun hb => ?_) <;> have h := hb <;> (try simp only [wf_preprocess] at h) <;> simp -implicitDefEqProofs (disch := omega) only [go_sem, hb] <;> (repeat (with_reducible refine And.intro ?_ ?_; focus first | omega | rfl | assumption | exact ⟨_, rfl, rfl⟩ | (simp; omega) | (simp; done)))
    · (repeat (with_reducible refine And.intro ?_ ?_; focus first | omega | rfl | assumption | exact ⟨_, rfl, rfl⟩ | (simp; omega) | (simp; done)))
      refine ⟨encS_len, ⟨_, rfl, rfl⟩, by omega, ?_⟩
      exact inv_at (i + 1) (by omega) (by rw [e]; rfl) (by rw [e]) (by omega)
    · omega
  · have hi : i = xss.length := by omega
    subst hi
    simp -implicitDefEqProofs (disch := omega) only [go_sem]
    with_reducible refine split2 (fun hb => ?_) (fun hb => ?_) <;> have h := hb <;> (try simp only [wf_preprocess] at h) <;> simp -implicitDefEqProofs (disch := omega) only [go_sem, hb] <;> (repeat (with_reducible refine And.intro ?_ ?_; focus first | omega | rfl | assumption | exact ⟨_, rfl, rfl⟩ | (simp; omega) | (simp; done)))
    · omega
    rw [List.take_length]
theorem cloneS_nil (c : Nat) (w : World) : Calls Tryz.prog 307 #[.slice none 0 c] w fun e w' => e = .returned (.slice none 0 0) ∧ w' = w := by
  have hb : (binOp .eql 50 (.slice none 0 c) (.slice none 0 0)).run Tryz.prog w = .ok (.bool true) w := by
    simp [binOp, run_equal_slice_nil w _ _ _ _ _ Tryz.underlying50]
  go_enter Tryz.func307, Tryz.ntmps307
  go_wp2
  all_goals go_ret
  exact ⟨rfl, rfl⟩
theorem cloneS_run (w w' : World) (a : Addr) (n c : Nat) (r : Value) (hm : (Builtin.append_ #[50, 50] 50 #[.slice (some ⟨w.heap.size, 0, none⟩) 0 0, .slice (some a) n c]).run Tryz.prog (w.alloc (.cells #[] 9)) = .ok r w') :
    Calls Tryz.prog 307 #[.slice (some a) n c] w fun e w'' => e = .returned r ∧ w'' = w' := by
  have hb : (binOp .eql 50 (.slice (some a) n c) (.slice none 0 0)).run Tryz.prog w = .ok (.bool false) w := by
    simp [binOp, run_equal_slice_nil w _ _ _ _ _ Tryz.underlying50]
  go_enter Tryz.func307, Tryz.ntmps307
  go_wp2_with (at_builtin; refine Lib.wpList_append_run _ rfl _ _ _ _ rfl _ _ rfl rfl _ _ hm ?_)
  all_goals go_ret
  exact ⟨rfl, rfl⟩
theorem cloneS_ok (xs : List (List UInt8)) (hx : xs.length ≤ 1073741824) (own0 : List Ab.Obj) (Ω : Store) : ACall Tryz.prog 307 [.c (.d (.sl (xs.map encS)))] (own0 :: Ω)
    (fun r S' => r = .c (.tsl (0, own0.length) (xs.map encS)) ∧ S' = (own0 ++ [.tok 1 (xs.map encS)]) :: Ω) := by
  have hlen0 : (xs.map encS).length ≤ 1073741824 := by simpa using hx
  have h1 := encS_len (xs := xs)
  generalize xs.map encS = es at *
  refine ⟨⟨_, Tryz.func307, by kernel_rfl, by kernel_rfl⟩, fun w σ β vs hS hv => ?_⟩
  obtain ⟨hl, h⟩ := hv
  obtain ⟨v, e0, hd, _⟩ := h 0 _ rfl
  have hd : RepD w σ (.sl es) v := hd
  have hvs : vs = [v] := by
    match vs, hl, e0 with
    | [x], _, e0 => simp at e0; rw [e0]
  subst hvs
  cases β with
  | nil => have := hS.shape.1; simp at this
  | cons bo bΩ =>
  have hlen : bo.length = own0.length := by
    obtain ⟨gr, g1, g2⟩ := hS.shape.2 0 own0 rfl
    simp at g1; rw [g1]; exact g2
  have hv : ∃ a c, v = .slice a es.length c ∧ (a = none → es = []) := by
    cases hd with
    | nil a cap => exact ⟨a, cap, rfl, fun _ => rfl⟩
    | sl b off cap esz es vals c t fz => exact ⟨_, _, rfl, fun h => by cases h⟩
  obtain ⟨a, c, rfl, ha⟩ := hv
  cases a with
  | none =>
    have := ha rfl
    subst this
    refine (cloneS_nil c w).mono fun e w' ⟨he, hw⟩ => ?_
    subst hw
    obtain ⟨hS', hk, hst⟩ := hS.push (o := .tok 1 []) (h := .slice none 0 0) (Grow.refl hS.live) hlen ⟨.nil _ _, by simp, none, 0, rfl, by simp, .inl rfl⟩ (fun b hb => by simp [blk] at hb)
    refine ⟨_, .c (.tsl (0, own0.length) []), _, _, _, he, hS', hk, hst, ⟨⟨.nil _ _, .tok 1 [], ?_, fun esz es e => ?_⟩, rfl⟩, rfl, rfl⟩
    · rw [getO_push_new]
    · cases e; exact ⟨Nat.le_refl _, fun _ => by rw [← hlen, getO_push_new]⟩
  | some a =>
    have hσ : σ w.heap.size = 0 := (hS.live w.heap.size).resolve_left (by omega)
    have hg : Grow w σ (w.alloc (.cells #[] 9)) σ := by
      have hh : (w.alloc (.cells #[] 9)).heap = w.heap.push (.cells #[] 9) := rfl
      refine ⟨by rw [hh]; simp, rfl, rfl, fun b hb => ⟨?_, rfl⟩, fun b => ?_⟩
      · rw [hh, Array.getElem?_push]
        rw [if_neg (by omega)]
      · rcases hS.live b with hb | hb
        · left; rw [hh]; simp; omega
        · exact .inr hb
    have hobj : RepObj (w.alloc (.cells #[] 9)) σ [] [] (.tok 1 []) (.slice (some ⟨w.heap.size, 0, none⟩) 0 0) := ⟨.nil _ _, by simp, _, 0, rfl, by simp, .inl rfl⟩
    obtain ⟨r, w', σ', hr, hro, hsz, hos, hout, hn, hli, hfar, hbk, hzero, h1c⟩ := append_run (P := Tryz.prog) (w := w.alloc (.cells #[] 9)) (σ := σ) (S := []) (β := []) (t := 50) (u := 50) (ty := 50) (e := 9) (size := 1) (es := []) (ys := es) hg.live Tryz.underlying50 (.inl ⟨_, Tryz.underlying50⟩) ⟨[.d (.s [])], by kernel_rfl, rfl⟩ rfl (by decide +kernel) hobj (srcAll_slice (RepD.mono hg.near hd) h1) (by simpa using hlen0)
    rw [List.nil_append] at hro hbk
    refine (cloneS_run w w' a es.length c r hr).mono fun e w'' ⟨he, hw⟩ => ?_
    subst hw
    have hg2 : Grow (w.alloc (.cells #[] 9)) σ w'' σ' := ⟨hsz, hos, hout, fun b hb => hfar b hb (by simp [blk]), hli⟩
    have hg3 := hg.trans hg2
    obtain ⟨hS', hk, hst⟩ := hS.push (o := .tok 1 es) (h := r) hg3 hlen (hro _ _) (fun b hb => by
      rcases hbk b hb with h | h
      · simp [blk] at h
      · exact Nat.le_trans hg.size h)
    refine ⟨_, .c (.tsl (0, own0.length) es), _, _, _, he, hS', hk, hst, ⟨⟨(hro [] []).1, .tok 1 es, ?_, fun esz es' e => ?_⟩, h1c⟩, rfl, rfl⟩
    · rw [getO_push_new]
    · cases e; exact ⟨Nat.le_refl _, fun _ => by rw [← hlen, getO_push_new]⟩
end Go.Proofs.YtnleocfkdidhoaaGreat

namespace Go.Ab
noncomputable def addF (k : Int) (n : List UInt8) (bound out : List (List UInt8)) : List (List UInt8) := if k = 3 ∧ n ∉ bound ∧ n ∉ out then out ++ [n] else out
mutual
noncomputable def freeE : MExpr → List (List UInt8) → List (List UInt8) → List (List UInt8)
  | .mk k _ n _ _ a b, bound, out => freeR b bound (freeL a k n 0 bound (addF k n bound out))
noncomputable def freeL : List MExpr → Int → List UInt8 → Nat → List (List UInt8) → List (List UInt8) → List (List UInt8)
  | [], _, _, _, _, out => out
  | x :: xs, k, n, i, bound, out => freeL xs k n (i + 1) bound (freeE x (if k = 8 ∧ i = 1 then bound ++ [n] else bound) out)
noncomputable def freeR : List MArm → List (List UInt8) → List (List UInt8) → List (List UInt8)
  | [], _, out => out
  | x :: xs, bound, out => freeR xs bound (freeM x bound out)
noncomputable def freeM : MArm → List (List UInt8) → List (List UInt8) → List (List UInt8)
  | .mk _ v b, bound, out => freeE b (bound ++ v) out
end
theorem freeE_eq (x : MExpr) (bound out : List (List UInt8)) : freeE x bound out = freeR x.fArms bound (freeL x.fArgs x.fKind x.fName 0 bound (addF x.fKind x.fName bound out)) := by cases x; rw [freeE]; rfl
theorem freeM_eq (x : MArm) (bound out : List (List UInt8)) : freeM x bound out = freeE x.fBody (bound ++ x.fVars) out := by cases x; rw [freeM]; rfl
theorem freeL_drop {xs : List MExpr} {k : Int} {n : List UInt8} {i : Nat} {bound out : List (List UInt8)} (hi : i < xs.length) : freeL (xs.drop i) k n i bound out = freeL (xs.drop (i + 1)) k n (i + 1) bound (freeE xs[i] (if k = 8 ∧ i = 1 then bound ++ [n] else bound) out) := by
  rw [List.drop_eq_getElem_cons hi, freeL]
theorem freeR_drop {xs : List MArm} {i : Nat} {bound out : List (List UInt8)} (hi : i < xs.length) : freeR (xs.drop i) bound out = freeR (xs.drop (i + 1)) bound (freeM xs[i] bound out) := by
  rw [List.drop_eq_getElem_cons hi, freeR]
theorem addF_len (k : Int) (n : List UInt8) (bound out : List (List UInt8)) : (addF k n bound out).length ≤ out.length + 1 := by
  unfold addF; split <;> simp
mutual
theorem freeE_len : ∀ (x : MExpr) (bound out : List (List UInt8)), (freeE x bound out).length ≤ out.length + x.cnt
  | .mk k t n m ty a b, bound, out => by
    have h1 := addF_len k n bound out
    have h2 := freeL_len a k n 0 bound (addF k n bound out)
    have h3 := freeR_len b bound (freeL a k n 0 bound (addF k n bound out))
    rw [freeE, MExpr.cnt]; omega
theorem freeL_len : ∀ (xs : List MExpr) (k : Int) (n : List UInt8) (i : Nat) (bound out : List (List UInt8)), (freeL xs k n i bound out).length ≤ out.length + MExpr.cnts xs
  | [], k, n, i, bound, out => by rw [freeL, MExpr.cnts]; omega
  | x :: xs, k, n, i, bound, out => by
    have h1 := freeE_len x (if k = 8 ∧ i = 1 then bound ++ [n] else bound) out
    have h2 := freeL_len xs k n (i + 1) bound (freeE x (if k = 8 ∧ i = 1 then bound ++ [n] else bound) out)
    rw [freeL, MExpr.cnts]; omega
theorem freeR_len : ∀ (xs : List MArm) (bound out : List (List UInt8)), (freeR xs bound out).length ≤ out.length + MArm.cnts xs
  | [], bound, out => by rw [freeR, MArm.cnts]; omega
  | x :: xs, bound, out => by
    have h1 := freeM_len x bound out
    have h2 := freeR_len xs bound (freeM x bound out)
    rw [freeR, MArm.cnts]; omega
theorem freeM_len : ∀ (x : MArm) (bound out : List (List UInt8)), (freeM x bound out).length ≤ out.length + x.cnt
  | .mk c v b, bound, out => by
    have h1 := freeE_len b (bound ++ v) out
    rw [freeM, MArm.cnt]; omega
end
theorem MExpr.arg_sz {x : MExpr} {i : Nat} (hi : i < x.fArgs.length) : x.fArgs[i].sz + x.fArgs.length ≤ x.sz := by
  have hx : x.fArgs[i].sz ≤ szRows (x.fArgs.map MExpr.enc) := szRows_mem (List.mem_map_of_mem (List.getElem_mem hi))
  have := MExpr.sz_parts x
  omega
theorem MExpr.arm_sz {x : MExpr} {i : Nat} (hi : i < x.fArms.length) : x.fArms[i].sz + x.fArms.length ≤ x.sz := by
  have hx : x.fArms[i].sz ≤ szRows (x.fArms.map MArm.enc) := szRows_mem (List.mem_map_of_mem (List.getElem_mem hi))
  have := MExpr.sz_parts x
  omega
theorem MArm.sz_vars (x : MArm) : x.fVars.length + x.fBody.sz ≤ x.sz := by
  simp only [MArm.sz, MArm.enc_eq, MExpr.sz, szRow, szRow_append, D.sz, List.length_map]
  omega
theorem snocW (xs : List (List UInt8)) (s : List UInt8) : xs.map encS ++ [[D.s s]] = (xs ++ [s]).map encS := by simp [encS]
end Go.Ab
namespace Go.Proofs.YtnleocfkdidhoaaGreat
open Go Go.Ab
set_option maxHeartbeats 2000000 in
theorem implFree_all : ∀ N : Nat, ∀ x : MExpr, SizeOf.sizeOf x < N → x.sz ≤ 4194304 → ∀ (bound out : List (List UInt8)) (l j : Nat) (S : Store), getO S (l, j) = some (.tok 1 (out.map encS)) → out.length + x.cnt ≤ 1073741824 → bound.length + x.sz ≤ 1073741824 →
    ACall Tryz.prog 278 [.c (.tsl (l, j) (out.map encS)), x.v, .c (.d (.sl (bound.map encS)))] S (fun r S' => r = .c (.tsl (l, j) ((freeE x bound out).map encS)) ∧ S' = setO S (l, j) (.tok 1 ((freeE x bound out).map encS)))
  | 0 => fun x h => by omega
  | N + 1 => by
    have ih := implFree_all N
    intro x hn hsz bound out l j S hk hc hbd
    have hb0 := MExpr.sz_parts x
    have lArgs := MExpr.lt_Args x
    have lArms := MExpr.lt_Arms x
    have hcn := MExpr.cnt_eq x
    have hkS : ∀ y : Ab.Obj, getO (setO S (l, j) y) (l, j) = some y := fun y => getO_setO_eq _ _ _ _ hk
    have hS0 : setO S (l, j) (.tok 1 (out.map encS)) = S := setO_self _ _ hk
    have fin := freeE_eq x bound out
    have hal := addF_len x.fKind x.fName bound out
    obtain ⟨o1, ho1⟩ : ∃ o1, addF x.fKind x.fName bound out = o1 := ⟨_, rfl⟩
    rw [ho1] at fin hal
    refine (show Hold ?T → _ from fun tail => ?main) ?tp
    case' main =>
      refine acall_cw (rs := [.tmp 6]) Tryz.checked.mixed Tryz.func278 Tryz.ntmps278 rfl rfl rfl rfl rfl ?_
      simp -implicitDefEqProofs (disch := omega) only [go_sem, hk]
      repeat' (first
        | (with_reducible refine split2 (fun hb => ?_) (fun hb => ?_) <;> have h := hb <;> (try simp only [wf_preprocess] at h) <;> simp -implicitDefEqProofs (disch := omega) only [go_sem, hb, hk] <;> (repeat (with_reducible refine And.intro ?_ ?_; focus first | omega | rfl | assumption | exact ⟨_, rfl, rfl⟩ | (simp; omega) | (simp; done))))
        | (refine call_w (containsS_ok bound x.fName (by omega)) ?_; simp -implicitDefEqProofs (disch := omega) only [go_sem, hk]; (repeat (with_reducible refine And.intro ?_ ?_; focus first | omega | rfl | assumption | exact ⟨_, rfl, rfl⟩ | (simp; omega) | (simp; done))))
        | (refine call_w (containsS_ok out x.fName (by omega)) ?_; simp -implicitDefEqProofs (disch := omega) only [go_sem, hk]; (repeat (with_reducible refine And.intro ?_ ?_; focus first | omega | rfl | assumption | exact ⟨_, rfl, rfl⟩ | (simp; omega) | (simp; done)))))
      all_goals first
        | (have ha : addF x.fKind x.fName bound out = out ++ [x.fName] := if_pos ⟨by assumption, by assumption, by assumption⟩)
        | (have ha : addF x.fKind x.fName bound out = out := if_neg (fun y => by have := y.1; have := y.2.1; have := y.2.2; contradiction))
      all_goals
        refine aw_canon (st' := [.box (x.enc.map .d)] :: setO S (l, j) (.tok 1 (o1.map encS))) [0, 2, 4, 34, 35, 36] [.c (.tsl (1 + l, j) (o1.map encS)), .c (.d (.sl (bound.map encS))), .c (.ptr (0, 0) 0), .c (.d (.sl (x.fArgs.map MExpr.enc))), .c (.d (.i .i64 x.fArgs.length)), .c (.d (.i .i64 0))] ?_ ?_ ?_
        · first | (rw [← ho1, ha]; rfl) | (rw [← ho1, ha, ← snocW]; rfl)
        · first | (rw [← ho1, ha, hS0]; simp -implicitDefEqProofs (disch := omega) only [go_sem]; done) | (rw [← ho1, ha, ← snocW]; simp -implicitDefEqProofs (disch := omega) only [go_sem]; done)
        · exact tail.out
    refine ⟨?_⟩
    clear ho1
    refine loop_at (ι := Nat × List (List UInt8)) Tryz.checked.mixed rfl [0, 2, 4, 34, 35, 36] (fun y => [.c (.tsl (1 + l, j) (y.2.map encS)), .c (.d (.sl (bound.map encS))), .c (.ptr (0, 0) 0), .c (.d (.sl (x.fArgs.map MExpr.enc))), .c (.d (.i .i64 x.fArgs.length)), .c (.d (.i .i64 y.1))]) (fun y => [.box (x.enc.map .d)] :: setO S (l, j) (.tok 1 (y.2.map encS)))
      (fun y => y.1 ≤ x.fArgs.length ∧ y.2.length + MExpr.cnts (x.fArgs.drop y.1) + MArm.cnts x.fArms ≤ 1073741824 ∧ freeL (x.fArgs.drop y.1) x.fKind x.fName y.1 bound y.2 = freeL x.fArgs x.fKind x.fName 0 bound o1) (fun y => x.fArgs.length - y.1) (0, o1) rfl rfl ⟨Nat.zero_le _, by simp only [List.drop_zero]; omega, rfl⟩ ?_
    rintro ⟨i, o⟩ ⟨p1, p2, p3⟩
    have refs : ∀ {a b}, tmRefs 1 (zipTm [0, 2, 4, 34, 35, 36] [.c (.tsl (1 + l, j) a), .c (.d (.sl (bound.map encS))), .c (.ptr (0, 0) 0), .c (.d (.sl (x.fArgs.map MExpr.enc))), .c (.d (.i .i64 x.fArgs.length)), .c (.d (.i .i64 b))]) = true := fun {a b} => by simp [tmRefs, zipTm, V.refs, C.refs, refK]; omega
    simp only at p1 p2 p3
    simp -implicitDefEqProofs (disch := omega) only [go_sem]
    with_reducible refine split2 (fun hb => ?_) (fun hb => ?_) <;> have h := hb <;> (try simp only [wf_preprocess] at h) <;> simp -implicitDefEqProofs (disch := omega) only [go_sem, hb] <;> (repeat (with_reducible refine And.intro ?_ ?_; focus first | omega | rfl | assumption | exact ⟨_, rfl, rfl⟩ | (simp; omega) | (simp; done)))
    · have hi : i < x.fArgs.length := by omega
      have hs := List.sizeOf_lt_of_mem (List.getElem_mem hi)
      have hz := MExpr.arg_sz hi
      rw [freeL_drop hi] at p3
      rw [MExpr.cnts_drop hi] at p2
      have hlo := freeE_len x.fArgs[i] (if x.fKind = 8 ∧ i = 1 then bound ++ [x.fName] else bound) o
      (repeat (with_reducible refine And.intro ?_ ?_; focus first | omega | rfl | assumption | exact ⟨_, rfl, rfl⟩ | (simp; omega) | (simp; done)))
      have two : x.fArgs[i].sz + (bound.length + 1) ≤ 1073741824 := by omega
      repeat' (first | with_reducible refine split2 (fun hb => ?_) (fun hb => ?_) <;> have h := hb <;> (try simp only [wf_preprocess] at h) <;> simp -implicitDefEqProofs (disch := omega) only [go_sem, hb] <;> (repeat (with_reducible refine And.intro ?_ ?_; focus first | omega | rfl | assumption | exact ⟨_, rfl, rfl⟩ | (simp; omega) | (simp; done))))
      · -- a let's second argument
        have e1 : x.fKind = 8 ∧ i = 1 := ⟨by omega, by omega⟩
        rw [if_pos e1] at p3 hlo
        refine call_a rfl DS.push (cloneS_ok bound (by omega) _ _) ?_
        simp -implicitDefEqProofs (disch := omega) only [go_sem]
        (repeat (with_reducible refine And.intro ?_ ?_; focus first | omega | rfl | assumption | exact ⟨_, rfl, rfl⟩ | (simp; omega) | (simp; done)))
        rw [snocW]
        refine call_m [true, true, false] rfl (ih x.fArgs[i] (by omega) (by omega) (bound ++ [x.fName]) o (1 + l) j _ (by simp -implicitDefEqProofs (disch := omega) only [go_sem]; exact hkS _) (by omega) (by simp only [List.length_append, List.length_cons, List.length_nil]; omega)) ?_
        simp -implicitDefEqProofs (disch := omega) only [go_sem, setO_twice]
        exact inv_drop 1 (by decide) (i + 1, freeE x.fArgs[i] (bound ++ [x.fName]) o) (by simp only; omega) rfl rfl refs rfl ⟨by simp only; omega, by simp only; omega, p3⟩
      all_goals
        have e1 : ¬ (x.fKind = 8 ∧ i = 1) := fun h => by omega
        rw [if_neg e1] at p3 hlo
        refine call_d rfl (ih x.fArgs[i] (by omega) (by omega) bound o (1 + l) j _ (by simp -implicitDefEqProofs (disch := omega) only [go_sem]; exact hkS _) (by omega) (by omega)) ?_
        simp -implicitDefEqProofs (disch := omega) only [go_sem, setO_twice]
        exact inv_drop 1 (by decide) (i + 1, freeE x.fArgs[i] bound o) (by simp only; omega) rfl rfl refs rfl ⟨by simp only; omega, by simp only; omega, p3⟩
    have hi : i = x.fArgs.length := by omega
    rw [hi, List.drop_length] at p2 p3
    rw [MExpr.cnts] at p2
    rw [freeL] at p3
    rw [← p3] at fin
    clear p3 refs
    refine loop_at (ι := Nat × List (List UInt8)) Tryz.checked.mixed rfl [0, 2, 63, 64, 65] (fun y => [.c (.tsl (1 + l, j) (y.2.map encS)), .c (.d (.sl (bound.map encS))), .c (.d (.sl (x.fArms.map MArm.enc))), .c (.d (.i .i64 x.fArms.length)), .c (.d (.i .i64 y.1))]) (fun y => [.box (x.enc.map .d)] :: setO S (l, j) (.tok 1 (y.2.map encS)))
      (fun y => y.1 ≤ x.fArms.length ∧ y.2.length + MArm.cnts (x.fArms.drop y.1) ≤ 1073741824 ∧ freeR (x.fArms.drop y.1) bound y.2 = freeE x bound out) (fun y => x.fArms.length - y.1) (0, o) rfl ?_ ⟨Nat.zero_le _, by simp only [List.drop_zero]; omega, fin.symm⟩ ?_
    · simp -implicitDefEqProofs (disch := omega) only [go_sem]
    clear p1 p2 fin hal
    rintro ⟨i, o⟩ ⟨p1, p2, p3⟩
    have refs : ∀ a b, tmRefs 1 (zipTm [0, 2, 63, 64, 65] [.c (.tsl (1 + l, j) a), .c (.d (.sl (bound.map encS))), .c (.d (.sl (x.fArms.map MArm.enc))), .c (.d (.i .i64 x.fArms.length)), .c (.d (.i .i64 b))]) = true := fun a b => by simp [tmRefs, zipTm, V.refs, C.refs, refK]; omega
    simp only at p1 p2 p3
    simp -implicitDefEqProofs (disch := omega) only [go_sem]
    with_reducible refine split2 (fun hb => ?_) (fun hb => ?_) <;> have h := hb <;> (try simp only [wf_preprocess] at h) <;> simp -implicitDefEqProofs (disch := omega) only [go_sem, hb] <;> (repeat (with_reducible refine And.intro ?_ ?_; focus first | omega | rfl | assumption | exact ⟨_, rfl, rfl⟩ | (simp; omega) | (simp; done)))
    · have hi : i < x.fArms.length := by omega
      have hs := List.sizeOf_lt_of_mem (List.getElem_mem hi)
      have hs' := MArm.lt_Body x.fArms[i]
      have hz := MExpr.arm_sz hi
      have hz' := MArm.sz_vars x.fArms[i]
      rw [freeR_drop hi, freeM_eq] at p3
      rw [MArm.cnts_drop hi] at p2
      have hlo := freeE_len x.fArms[i].fBody (bound ++ x.fArms[i].fVars) o
      have hcc := concatS_ok [bound, x.fArms[i].fVars] (by simp) (by simp only [List.flatten_cons, List.flatten_nil, List.append_nil, List.length_append]; omega)
      simp only [List.map_cons, List.map_nil, List.flatten_cons, List.flatten_nil, List.append_nil] at hcc
      (repeat (with_reducible refine And.intro ?_ ?_; focus first | omega | rfl | assumption | exact ⟨_, rfl, rfl⟩ | (simp; omega) | (simp; done)))
      refine call_w hcc ?_
      simp -implicitDefEqProofs (disch := omega) only [go_sem]
      refine call_d rfl (ih x.fArms[i].fBody (by omega) (by omega) (bound ++ x.fArms[i].fVars) o (1 + l) j _ (by simp -implicitDefEqProofs (disch := omega) only [go_sem]; exact hkS _) (by omega) (by simp only [List.length_append]; omega)) ?_
      simp -implicitDefEqProofs (disch := omega) only [go_sem, setO_twice]
      exact inv_drop 1 (by decide) (i + 1, freeE x.fArms[i].fBody (bound ++ x.fArms[i].fVars) o) (by simp only; omega) rfl rfl (refs _ _) rfl ⟨by simp only; omega, by simp only; omega, p3⟩
    · have hi : i = x.fArms.length := by omega
      rw [hi, List.drop_length, freeR] at p3
      rw [← p3]
      exact ⟨rfl, rfl⟩
theorem implFreeVars_ok (x : MExpr) (hsz : x.sz ≤ 4194304) : PCall Tryz.prog 236 [x.v] (.c (.d (.sl ((freeE x [] []).map encS)))) := fun S => by
  have hc := MExpr.cnt_le x
  have h0 : ∀ S, ACall Tryz.prog 278 [.c (.fsl []), x.v, .c (.d (.sl []))] S (fun r S' => r = .c (.d (.sl ((freeE x [] []).map encS))) ∧ S' = S) := fun S => by
    refine ACall.tok0 0 (es := []) (esz := 1) rfl (by simp) (implFree_all _ x (Nat.lt_succ_self _) hsz [] [] 0 0 ([.tok 1 []] :: S) rfl (by simp; omega) (by simp; omega)) ?_
    rintro r fr S' ⟨rfl, h2⟩
    injection h2 with h2 h3
    exact ⟨_, rfl, rfl, h3⟩
  refine acall_cw (rs := [.tmp 2]) Tryz.checked.mixed Tryz.func236 Tryz.ntmps236 rfl rfl rfl rfl rfl ?_
  simp -implicitDefEqProofs (disch := omega) only [go_sem]
  (repeat (with_reducible refine And.intro ?_ ?_; focus first | omega | rfl | assumption | exact ⟨_, rfl, rfl⟩ | (simp; omega) | (simp; done)))
  refine call_m [true, true, false] rfl (h0 _) ?_
  simp -implicitDefEqProofs (disch := omega) only [go_sem]
set_option maxHeartbeats 2000000 in
theorem specFree_all : ∀ N : Nat, ∀ x : MExpr, SizeOf.sizeOf x < N → x.sz ≤ 4194304 → ∀ (bound out : List (List UInt8)) (l j : Nat) (S : Store), getO S (l, j) = some (.tok 1 (out.map encS)) → out.length + x.cnt ≤ 1073741824 → bound.length + x.sz ≤ 1073741824 →
    ACall Tryz.prog 293 [x.v, .c (.d (.sl (bound.map encS))), .c (.tsl (l, j) (out.map encS))] S (fun r S' => r = .c (.tsl (l, j) ((freeE x bound out).map encS)) ∧ S' = setO S (l, j) (.tok 1 ((freeE x bound out).map encS)))
  | 0 => fun x h => by omega
  | N + 1 => by
    have ih := specFree_all N
    intro x hn hsz bound out l j S hk hc hbd
    have hb0 := MExpr.sz_parts x
    have lArgs := MExpr.lt_Args x
    have lArms := MExpr.lt_Arms x
    have hcn := MExpr.cnt_eq x
    have hkS : ∀ y : Ab.Obj, getO (setO S (l, j) y) (l, j) = some y := fun y => getO_setO_eq _ _ _ _ hk
    have hS0 : setO S (l, j) (.tok 1 (out.map encS)) = S := setO_self _ _ hk
    have fin := freeE_eq x bound out
    have hal := addF_len x.fKind x.fName bound out
    obtain ⟨o1, ho1⟩ : ∃ o1, addF x.fKind x.fName bound out = o1 := ⟨_, rfl⟩
    rw [ho1] at fin hal
    refine (show Hold ?T → _ from fun tail => ?main) ?tp
    case' main =>
      refine acall_cw (rs := [.tmp 6]) Tryz.checked.mixed Tryz.func293 Tryz.ntmps293 rfl rfl rfl rfl rfl ?_
      simp -implicitDefEqProofs (disch := omega) only [go_sem, hk]
      repeat' (first
        | (with_reducible refine split2 (fun hb => ?_) (fun hb => ?_) <;> have h := hb <;> (try simp only [wf_preprocess] at h) <;> simp -implicitDefEqProofs (disch := omega) only [go_sem, hb, hk] <;> (repeat (with_reducible refine And.intro ?_ ?_; focus first | omega | rfl | assumption | exact ⟨_, rfl, rfl⟩ | (simp; omega) | (simp; done))))
        | (refine call_w (l1Has_ok bound x.fName (by omega)) ?_; simp -implicitDefEqProofs (disch := omega) only [go_sem, hk]; (repeat (with_reducible refine And.intro ?_ ?_; focus first | omega | rfl | assumption | exact ⟨_, rfl, rfl⟩ | (simp; omega) | (simp; done))))
        | (refine call_w (l1Has_ok out x.fName (by omega)) ?_; simp -implicitDefEqProofs (disch := omega) only [go_sem, hk]; (repeat (with_reducible refine And.intro ?_ ?_; focus first | omega | rfl | assumption | exact ⟨_, rfl, rfl⟩ | (simp; omega) | (simp; done)))))
      all_goals first
        | (have ha : addF x.fKind x.fName bound out = out ++ [x.fName] := if_pos ⟨by assumption, by assumption, by assumption⟩)
        | (have ha : addF x.fKind x.fName bound out = out := if_neg (fun y => by have := y.1; have := y.2.1; have := y.2.2; contradiction))
      all_goals
        refine aw_canon (st' := [.box (x.enc.map .d)] :: setO S (l, j) (.tok 1 (o1.map encS))) [1, 2, 3, 7] [.c (.d (.sl (bound.map encS))), .c (.tsl (1 + l, j) (o1.map encS)), .c (.ptr (0, 0) 0), .c (.d (.i .i64 0))] ?_ ?_ ?_
        · first | (rw [← ho1, ha]; rfl) | (rw [← ho1, ha, ← snocW]; rfl)
        · first | (rw [← ho1, ha, hS0]; simp -implicitDefEqProofs (disch := omega) only [go_sem]; done) | (rw [← ho1, ha, ← snocW]; simp -implicitDefEqProofs (disch := omega) only [go_sem]; done)
        · exact tail.out
    refine ⟨?_⟩
    clear ho1
    refine loop_at (ι := Nat × List (List UInt8)) Tryz.checked.mixed rfl [1, 2, 3, 7] (fun y => [.c (.d (.sl (bound.map encS))), .c (.tsl (1 + l, j) (y.2.map encS)), .c (.ptr (0, 0) 0), .c (.d (.i .i64 y.1))]) (fun y => [.box (x.enc.map .d)] :: setO S (l, j) (.tok 1 (y.2.map encS)))
      (fun y => y.1 ≤ x.fArgs.length ∧ y.2.length + MExpr.cnts (x.fArgs.drop y.1) + MArm.cnts x.fArms ≤ 1073741824 ∧ freeL (x.fArgs.drop y.1) x.fKind x.fName y.1 bound y.2 = freeL x.fArgs x.fKind x.fName 0 bound o1) (fun y => x.fArgs.length - y.1) (0, o1) rfl rfl ⟨Nat.zero_le _, by simp only [List.drop_zero]; omega, rfl⟩ ?_
    rintro ⟨i, o⟩ ⟨p1, p2, p3⟩
    have refs : ∀ {a b}, tmRefs 1 (zipTm [1, 2, 3, 7] [.c (.d (.sl (bound.map encS))), .c (.tsl (1 + l, j) a), .c (.ptr (0, 0) 0), .c (.d (.i .i64 b))]) = true := fun {a b} => by simp [tmRefs, zipTm, V.refs, C.refs, refK]; omega
    simp only at p1 p2 p3
    simp -implicitDefEqProofs (disch := omega) only [go_sem]
    with_reducible refine split2 (fun hb => ?_) (fun hb => ?_) <;> have h := hb <;> (try simp only [wf_preprocess] at h) <;> simp -implicitDefEqProofs (disch := omega) only [go_sem, hb] <;> (repeat (with_reducible refine And.intro ?_ ?_; focus first | omega | rfl | assumption | exact ⟨_, rfl, rfl⟩ | (simp; omega) | (simp; done)))
    · have hi : i < x.fArgs.length := by omega
      have hs := List.sizeOf_lt_of_mem (List.getElem_mem hi)
      have hz := MExpr.arg_sz hi
      rw [freeL_drop hi] at p3
      rw [MExpr.cnts_drop hi] at p2
      have hlo := freeE_len x.fArgs[i] (if x.fKind = 8 ∧ i = 1 then bound ++ [x.fName] else bound) o
      have two : x.fArgs[i].sz + (bound.length + 1) ≤ 1073741824 := by omega
      repeat' (first | with_reducible refine split2 (fun hb => ?_) (fun hb => ?_) <;> have h := hb <;> (try simp only [wf_preprocess] at h) <;> simp -implicitDefEqProofs (disch := omega) only [go_sem, hb] <;> (repeat (with_reducible refine And.intro ?_ ?_; focus first | omega | rfl | assumption | exact ⟨_, rfl, rfl⟩ | (simp; omega) | (simp; done))))
      · have e1 : x.fKind = 8 ∧ i = 1 := ⟨by omega, by omega⟩
        rw [if_pos e1] at p3 hlo
        refine ⟨encS_len, ⟨_, rfl, rfl⟩, fun y hy => (by cases hy), by omega, ?_⟩
        (repeat (with_reducible refine And.intro ?_ ?_; focus first | omega | rfl | assumption | exact ⟨_, rfl, rfl⟩ | (simp; omega) | (simp; done)))
        rw [snocW]
        refine call_m [true, false, true] rfl (ih x.fArgs[i] (by omega) (by omega) (bound ++ [x.fName]) o (1 + l) j _ (by simp -implicitDefEqProofs (disch := omega) only [go_sem]; exact hkS _) (by omega) (by simp only [List.length_append, List.length_cons, List.length_nil]; omega)) ?_
        simp -implicitDefEqProofs (disch := omega) only [go_sem, setO_twice]
        exact inv_drop 1 (by decide) (i + 1, freeE x.fArgs[i] (bound ++ [x.fName]) o) (by simp only; omega) rfl rfl refs rfl ⟨by simp only; omega, by simp only; omega, p3⟩
      all_goals
        have e1 : ¬ (x.fKind = 8 ∧ i = 1) := fun h => by omega
        rw [if_neg e1] at p3 hlo
        (repeat (with_reducible refine And.intro ?_ ?_; focus first | omega | rfl | assumption | exact ⟨_, rfl, rfl⟩ | (simp; omega) | (simp; done)))
        refine call_d rfl (ih x.fArgs[i] (by omega) (by omega) bound o (1 + l) j _ (by simp -implicitDefEqProofs (disch := omega) only [go_sem]; exact hkS _) (by omega) (by omega)) ?_
        simp -implicitDefEqProofs (disch := omega) only [go_sem, setO_twice]
        exact inv_drop 1 (by decide) (i + 1, freeE x.fArgs[i] bound o) (by simp only; omega) rfl rfl refs rfl ⟨by simp only; omega, by simp only; omega, p3⟩
    have hi : i = x.fArgs.length := by omega
    rw [hi, List.drop_length] at p2 p3
    rw [MExpr.cnts] at p2
    rw [freeL] at p3
    rw [← p3] at fin
    clear p3 refs
    refine loop_at (ι := Nat × List (List UInt8)) Tryz.checked.mixed rfl [1, 2, 3, 9] (fun y => [.c (.d (.sl (bound.map encS))), .c (.tsl (1 + l, j) (y.2.map encS)), .c (.ptr (0, 0) 0), .c (.d (.i .i64 y.1))]) (fun y => [.box (x.enc.map .d)] :: setO S (l, j) (.tok 1 (y.2.map encS)))
      (fun y => y.1 ≤ x.fArms.length ∧ y.2.length + MArm.cnts (x.fArms.drop y.1) ≤ 1073741824 ∧ freeR (x.fArms.drop y.1) bound y.2 = freeE x bound out) (fun y => x.fArms.length - y.1) (0, o) rfl ?_ ⟨Nat.zero_le _, by simp only [List.drop_zero]; omega, fin.symm⟩ ?_
    · simp -implicitDefEqProofs (disch := omega) only [go_sem]
    clear p1 p2 fin hal
    rintro ⟨i, o⟩ ⟨p1, p2, p3⟩
    have refs : ∀ a b, tmRefs 1 (zipTm [1, 2, 3, 9] [.c (.d (.sl (bound.map encS))), .c (.tsl (1 + l, j) a), .c (.ptr (0, 0) 0), .c (.d (.i .i64 b))]) = true := fun a b => by simp [tmRefs, zipTm, V.refs, C.refs, refK]; omega
    simp only at p1 p2 p3
    simp -implicitDefEqProofs (disch := omega) only [go_sem]
    with_reducible refine split2 (fun hb => ?_) (fun hb => ?_) <;> have h := hb <;> (try simp only [wf_preprocess] at h) <;> simp -implicitDefEqProofs (disch := omega) only [go_sem, hb] <;> (repeat (with_reducible refine And.intro ?_ ?_; focus first | omega | rfl | assumption | exact ⟨_, rfl, rfl⟩ | (simp; omega) | (simp; done)))
    · have hi : i < x.fArms.length := by omega
      have hs := List.sizeOf_lt_of_mem (List.getElem_mem hi)
      have hs' := MArm.lt_Body x.fArms[i]
      have hz := MExpr.arm_sz hi
      have hz' := MArm.sz_vars x.fArms[i]
      rw [freeR_drop hi, freeM_eq] at p3
      rw [MArm.cnts_drop hi] at p2
      have hlo := freeE_len x.fArms[i].fBody (bound ++ x.fArms[i].fVars) o
      refine ⟨encS_len, ⟨_, rfl, rfl⟩, fun y hy => (by cases hy), by omega, ⟨by omega, hi⟩, encS_len, ⟨_, rfl, rfl⟩, by omega, ?_⟩
      rw [← List.map_append]
      refine call_m [true, false, true] rfl (ih x.fArms[i].fBody (by omega) (by omega) (bound ++ x.fArms[i].fVars) o (1 + l) j _ (by simp -implicitDefEqProofs (disch := omega) only [go_sem]; exact hkS _) (by omega) (by simp only [List.length_append]; omega)) ?_
      simp -implicitDefEqProofs (disch := omega) only [go_sem, setO_twice]
      exact inv_drop 1 (by decide) (i + 1, freeE x.fArms[i].fBody (bound ++ x.fArms[i].fVars) o) (by simp only; omega) rfl rfl (refs _ _) rfl ⟨by simp only; omega, by simp only; omega, p3⟩
    · have hi : i = x.fArms.length := by omega
      rw [hi, List.drop_length, freeR] at p3
      rw [← p3]
      exact ⟨rfl, rfl⟩
theorem specFreeVars_ok (x : MExpr) (hsz : x.sz ≤ 4194304) : PCall Tryz.prog 262 [x.v] (.c (.d (.sl ((freeE x [] []).map encS)))) := fun S => by
  have hc := MExpr.cnt_le x
  have h0 : ∀ S, ACall Tryz.prog 293 [x.v, .c (.d (.sl [])), .c (.fsl [])] S (fun r S' => r = .c (.d (.sl ((freeE x [] []).map encS))) ∧ S' = S) := fun S => by
    refine ACall.tok0 2 (es := []) (esz := 1) rfl (by simp) (specFree_all _ x (Nat.lt_succ_self _) hsz [] [] 0 0 ([.tok 1 []] :: S) rfl (by simp; omega) (by simp; omega)) ?_
    rintro r fr S' ⟨rfl, h2⟩
    injection h2 with h2 h3
    exact ⟨_, rfl, rfl, h3⟩
  refine acall_cw (rs := [.tmp 2]) Tryz.checked.mixed Tryz.func262 Tryz.ntmps262 rfl rfl rfl rfl rfl ?_
  simp -implicitDefEqProofs (disch := omega) only [go_sem]
  (repeat (with_reducible refine And.intro ?_ ?_; focus first | omega | rfl | assumption | exact ⟨_, rfl, rfl⟩ | (simp; omega) | (simp; done)))
  refine call_m [true, false, true] rfl (h0 _) ?_
  simp -implicitDefEqProofs (disch := omega) only [go_sem]
end Go.Proofs.YtnleocfkdidhoaaGreat

namespace Go.Proofs.YtnleocfkdidhoaaGreat
open Go Go.Ab
theorem specEqualType_all : ∀ n : Nat, (∀ x : MType, SizeOf.sizeOf x < n → ∀ y : MType, x.sz ≤ 4194304 → PCall Tryz.prog 313 [x.v, y.v] (.c (.d (.b (dec (x = y)))))) ∧
    (∀ xs : List MType, SizeOf.sizeOf xs < n → ∀ ys : List MType, xs.length + szRows (xs.map MType.enc) ≤ 4194304 → PCall Tryz.prog 324 [.c (.d (.sl (xs.map MType.enc))), .c (.d (.sl (ys.map MType.enc)))] (.c (.d (.b (dec (xs = ys))))))
  | 0 => ⟨fun x h => by omega, fun x h => by omega⟩
  | n + 1 => by
    obtain ⟨ih, ihS⟩ := specEqualType_all n
    refine ⟨fun x hn y hsz S => ?_, fun xs hn ys hsz S => ?_⟩
    · have lArgs := MType.lt_Args x
      simp only [MType.sz, MType.enc_eq, szRow, szRow_append, D.sz, List.length_map] at hsz
      refine acall_cw (rs := [.tmp 4]) Tryz.checked.mixed Tryz.func313 Tryz.ntmps313 rfl rfl rfl rfl rfl ?_
      simp -implicitDefEqProofs (disch := omega) only [go_sem]
      with_reducible refine split2 (fun hb => ?_) (fun hb => ?_) <;> have h := hb <;> (try simp only [wf_preprocess] at h) <;> simp -implicitDefEqProofs (disch := omega) only [go_sem, hb] <;> (repeat (with_reducible refine And.intro ?_ ?_; focus first | omega | rfl | assumption | exact ⟨_, rfl, rfl⟩ | (simp; omega) | (simp; done)))
      · with_reducible refine split2 (fun hb => ?_) (fun hb => ?_) <;> have h := hb <;> (try simp only [wf_preprocess] at h) <;> simp -implicitDefEqProofs (disch := omega) only [go_sem, hb] <;> (repeat (with_reducible refine And.intro ?_ ?_; focus first | omega | rfl | assumption | exact ⟨_, rfl, rfl⟩ | (simp; omega) | (simp; done)))
        · (repeat (with_reducible refine And.intro ?_ ?_; focus first | omega | rfl | assumption | exact ⟨_, rfl, rfl⟩ | (simp; omega) | (simp; done)))
          refine call_w (ihS x.fArgs (by omega) y.fArgs (by omega)) ?_
          simp -implicitDefEqProofs (disch := omega) only [go_sem]
          refine bool_eq (dec_congr ⟨fun e => ?_, fun e => by rw [e]⟩)
          exact MType.ext ‹x.fKind = y.fKind› h e
        · exact bool_eq (dec_false (fun e => h (by rw [e]))).symm
      · exact bool_eq (dec_false (fun e => h (by rw [e]))).symm
    · refine acall_cw (rs := [.tmp 4]) Tryz.checked.mixed Tryz.func324 Tryz.ntmps324 rfl rfl rfl rfl rfl ?_
      simp -implicitDefEqProofs (disch := omega) only [go_sem]
      with_reducible refine split2 (fun hb => ?_) (fun hb => ?_) <;> have h := hb <;> (try simp only [wf_preprocess] at h) <;> simp -implicitDefEqProofs (disch := omega) only [go_sem, hb] <;> (repeat (with_reducible refine And.intro ?_ ?_; focus first | omega | rfl | assumption | exact ⟨_, rfl, rfl⟩ | (simp; omega) | (simp; done)))
      · exact bool_eq (dec_false (fun e => h (by rw [e]))).symm
      have hl : xs.length = ys.length := by omega
      refine loop_at (ι := Nat) Tryz.checked.mixed rfl [0, 1, 5] (fun y => [.c (.d (.sl (xs.map MType.enc))), .c (.d (.sl (ys.map MType.enc))), .c (.d (.i .i64 y))]) (fun y => [] :: S)
        (fun i => i ≤ xs.length ∧ ∀ j, j < i → xs[j]? = ys[j]?) (fun y => xs.length - y) 0 rfl rfl ⟨Nat.zero_le _, fun j h => by omega⟩ ?_
      rintro i ⟨p1, p2⟩
      simp -implicitDefEqProofs (disch := omega) only [go_sem]
      with_reducible refine split2 (fun hb => ?_) (fun hb => ?_) <;> have h := hb <;> (try simp only [wf_preprocess] at h) <;> simp -implicitDefEqProofs (disch := omega) only [go_sem, hb] <;> (repeat (with_reducible refine And.intro ?_ ?_; focus first | omega | rfl | assumption | exact ⟨_, rfl, rfl⟩ | (simp; omega) | (simp; done)))
      · have hi : i < xs.length := by omega
        have hi' : i < ys.length := by omega
        have hx : xs[i].sz ≤ szRows (xs.map MType.enc) := szRows_mem (List.mem_map_of_mem (List.getElem_mem hi))
        (repeat (with_reducible refine And.intro ?_ ?_; focus first | omega | rfl | assumption | exact ⟨_, rfl, rfl⟩ | (simp; omega) | (simp; done)))
        refine call_w (ih xs[i] (by have := List.sizeOf_lt_of_mem (List.getElem_mem hi); omega) ys[i] (by omega)) ?_
        simp -implicitDefEqProofs (disch := omega) only [go_sem]
        with_reducible refine split2 (fun hb => ?_) (fun hb => ?_) <;> have h := hb <;> (try simp only [wf_preprocess] at h) <;> simp -implicitDefEqProofs (disch := omega) only [go_sem, hb] <;> (repeat (with_reducible refine And.intro ?_ ?_; focus first | omega | rfl | assumption | exact ⟨_, rfl, rfl⟩ | (simp; omega) | (simp; done)))
        · exact bool_eq (dec_false (fun e => h (by simp only [e]))).symm
        refine inv_at (i + 1) (by omega) rfl rfl ⟨by omega, fun j hj => ?_⟩
        by_cases e : j = i
        · subst e
          rw [List.getElem?_eq_getElem hi, List.getElem?_eq_getElem hi', h]
        · exact p2 j (by omega)
      · have hi : i = xs.length := by omega
        refine bool_eq (dec_true (List.ext_getElem? fun j => ?_)).symm
        by_cases hj : j < i
        · exact p2 j hj
        · rw [List.getElem?_eq_none (by omega), List.getElem?_eq_none (by omega)]
theorem specEqualType_ok (x y : MType) (h : x.sz ≤ 4194304) : PCall Tryz.prog 313 [x.v, y.v] (.c (.d (.b (dec (x = y))))) := (specEqualType_all _).1 x (Nat.lt_succ_self _) y h
theorem implEqualType_all : ∀ n : Nat, (∀ x : MType, SizeOf.sizeOf x < n → ∀ y : MType, x.sz ≤ 4194304 → PCall Tryz.prog 296 [x.v, y.v] (.c (.d (.b (dec (x = y)))))) ∧
    (∀ xs : List MType, SizeOf.sizeOf xs < n → ∀ ys : List MType, xs.length + szRows (xs.map MType.enc) ≤ 4194304 → PCall Tryz.prog 318 [.c (.d (.sl (xs.map MType.enc))), .c (.d (.sl (ys.map MType.enc))), .c (.fn 296 [])] (.c (.d (.b (dec (xs = ys))))))
  | 0 => ⟨fun x h => by omega, fun x h => by omega⟩
  | n + 1 => by
    obtain ⟨ih, ihS⟩ := implEqualType_all n
    refine ⟨fun x hn y hsz S => ?_, fun xs hn ys hsz S => ?_⟩
    · have lArgs := MType.lt_Args x
      simp only [MType.sz, MType.enc_eq, szRow, szRow_append, D.sz, List.length_map] at hsz
      refine acall_cw (rs := [.tmp 4]) Tryz.checked.mixed Tryz.func296 Tryz.ntmps296 rfl rfl rfl rfl rfl ?_
      simp -implicitDefEqProofs (disch := omega) only [go_sem]
      with_reducible refine split2 (fun hb => ?_) (fun hb => ?_) <;> have h := hb <;> (try simp only [wf_preprocess] at h) <;> simp -implicitDefEqProofs (disch := omega) only [go_sem, hb] <;> (repeat (with_reducible refine And.intro ?_ ?_; focus first | omega | rfl | assumption | exact ⟨_, rfl, rfl⟩ | (simp; omega) | (simp; done)))
      · with_reducible refine split2 (fun hb => ?_) (fun hb => ?_) <;> have h := hb <;> (try simp only [wf_preprocess] at h) <;> simp -implicitDefEqProofs (disch := omega) only [go_sem, hb] <;> (repeat (with_reducible refine And.intro ?_ ?_; focus first | omega | rfl | assumption | exact ⟨_, rfl, rfl⟩ | (simp; omega) | (simp; done)))
        · (repeat (with_reducible refine And.intro ?_ ?_; focus first | omega | rfl | assumption | exact ⟨_, rfl, rfl⟩ | (simp; omega) | (simp; done)))
          refine call_w (ihS x.fArgs (by omega) y.fArgs (by omega)) ?_
          simp -implicitDefEqProofs (disch := omega) only [go_sem]
          refine bool_eq (dec_congr ⟨fun e => ?_, fun e => by rw [e]⟩)
          exact MType.ext ‹x.fKind = y.fKind› h e
        · exact bool_eq (dec_false (fun e => h (by rw [e]))).symm
      · exact bool_eq (dec_false (fun e => h (by rw [e]))).symm
    · refine acall_cw (rs := [.tmp 6]) Tryz.checked.mixed Tryz.func318 Tryz.ntmps318 rfl rfl rfl rfl rfl ?_
      simp -implicitDefEqProofs (disch := omega) only [go_sem]
      with_reducible refine split2 (fun hb => ?_) (fun hb => ?_) <;> have h := hb <;> (try simp only [wf_preprocess] at h) <;> simp -implicitDefEqProofs (disch := omega) only [go_sem, hb] <;> (repeat (with_reducible refine And.intro ?_ ?_; focus first | omega | rfl | assumption | exact ⟨_, rfl, rfl⟩ | (simp; omega) | (simp; done)))
      · exact bool_eq (dec_false (fun e => h (by rw [e]))).symm
      have hl : xs.length = ys.length := by omega
      refine loop_at (ι := Nat) Tryz.checked.mixed rfl [1, 2, 15, 16, 17] (fun y => [.c (.d (.sl (ys.map MType.enc))), .c (.fn 296 []), .c (.d (.sl (xs.map MType.enc))), .c (.d (.i .i64 xs.length)), .c (.d (.i .i64 y))]) (fun y => [] :: S)
        (fun i => i ≤ xs.length ∧ ∀ j, j < i → xs[j]? = ys[j]?) (fun y => xs.length - y) 0 rfl rfl ⟨Nat.zero_le _, fun j h => by omega⟩ ?_
      rintro i ⟨p1, p2⟩
      simp -implicitDefEqProofs (disch := omega) only [go_sem]
      with_reducible refine split2 (fun hb => ?_) (fun hb => ?_) <;> have h := hb <;> (try simp only [wf_preprocess] at h) <;> simp -implicitDefEqProofs (disch := omega) only [go_sem, hb] <;> (repeat (with_reducible refine And.intro ?_ ?_; focus first | omega | rfl | assumption | exact ⟨_, rfl, rfl⟩ | (simp; omega) | (simp; done)))
      · have hi : i < xs.length := by omega
        have hi' : i < ys.length := by omega
        have hx : xs[i].sz ≤ szRows (xs.map MType.enc) := szRows_mem (List.mem_map_of_mem (List.getElem_mem hi))
        (repeat (with_reducible refine And.intro ?_ ?_; focus first | omega | rfl | assumption | exact ⟨_, rfl, rfl⟩ | (simp; omega) | (simp; done)))
        refine call_w (ih xs[i] (by have := List.sizeOf_lt_of_mem (List.getElem_mem hi); omega) ys[i] (by omega)) ?_
        simp -implicitDefEqProofs (disch := omega) only [go_sem]
        with_reducible refine split2 (fun hb => ?_) (fun hb => ?_) <;> have h := hb <;> (try simp only [wf_preprocess] at h) <;> simp -implicitDefEqProofs (disch := omega) only [go_sem, hb] <;> (repeat (with_reducible refine And.intro ?_ ?_; focus first | omega | rfl | assumption | exact ⟨_, rfl, rfl⟩ | (simp; omega) | (simp; done)))
        · exact bool_eq (dec_false (fun e => h (by simp only [e]))).symm
        refine inv_drop 0 (by decide) (i + 1) (by omega) rfl rfl rfl rfl ⟨by omega, fun j hj => ?_⟩
        by_cases e : j = i
        · subst e
          rw [List.getElem?_eq_getElem hi, List.getElem?_eq_getElem hi', h]
        · exact p2 j (by omega)
      · have hi : i = xs.length := by omega
        refine bool_eq (dec_true (List.ext_getElem? fun j => ?_)).symm
        by_cases hj : j < i
        · exact p2 j hj
        · rw [List.getElem?_eq_none (by omega), List.getElem?_eq_none (by omega)]
theorem implEqualType_ok (x y : MType) (h : x.sz ≤ 4194304) : PCall Tryz.prog 296 [x.v, y.v] (.c (.d (.b (dec (x = y))))) := (implEqualType_all _).1 x (Nat.lt_succ_self _) y h
end Go.Proofs.YtnleocfkdidhoaaGreat

namespace Go.Ab
theorem MExpr.bounds_g {x : MExpr} (h : x.sz ≤ 4194304) : x.fTrait.length ≤ 4194304 ∧ x.fName.length ≤ 4194304 ∧ x.fType.sz ≤ 4194304 ∧ x.fArgs.length ≤ 4194304 ∧ x.fArms.length ≤ 4194304 := by
  simp only [MExpr.sz, MExpr.enc_eq, szRow, szRow_append, D.sz, List.length_map, MType.sz_def] at h
  omega
theorem MExpr.arg_g {x : MExpr} {i : Nat} (hi : i < x.fArgs.length) (h : x.sz ≤ 4194304) : x.fArgs[i].sz ≤ 4194304 := by
  have hx : x.fArgs[i].sz ≤ szRows (x.fArgs.map MExpr.enc) := szRows_mem (List.mem_map_of_mem (List.getElem_mem hi))
  simp only [MExpr.sz, MExpr.enc_eq, szRow, szRow_append, D.sz, List.length_map, MType.sz_def] at h
  omega
theorem MExpr.arm_g {x : MExpr} {i : Nat} (hi : i < x.fArms.length) (h : x.sz ≤ 4194304) : x.fArms[i].sz ≤ 4194304 := by
  have hx : x.fArms[i].sz ≤ szRows (x.fArms.map MArm.enc) := szRows_mem (List.mem_map_of_mem (List.getElem_mem hi))
  simp only [MExpr.sz, MExpr.enc_eq, szRow, szRow_append, D.sz, List.length_map, MType.sz_def] at h
  omega
theorem MArm.bounds_g {x : MArm} (h : x.sz ≤ 4194304) : x.fConstructor.length ≤ 4194304 ∧ x.fVars.length ≤ 4194304 ∧ x.fBody.sz ≤ 4194304 := by
  simp only [MArm.sz, MArm.enc_eq, szRow, szRow_append, D.sz, List.length_map, MExpr.sz_def] at h
  omega
end Go.Ab
namespace Go.Proofs.YtnleocfkdidhoaaGreat
open Go Go.Ab
theorem implEqualExpr_all : ∀ n : Nat, ∀ x : MExpr, SizeOf.sizeOf x < n → ∀ y : MExpr, x.sz ≤ 4194304 → PCall Tryz.prog 269 [x.v, y.v] (.c (.d (.b (dec (x = y)))))
  | 0 => fun x h => by omega
  | n + 1 => by
    have ih := implEqualExpr_all n
    intro x hn y hsz S
    have lArgs := MExpr.lt_Args x
    have lArms := MExpr.lt_Arms x
    have hb0 := MExpr.bounds_g hsz
    have hargs := equalFuncExpr_ok 269 x.fArgs y.fArgs (by omega) (fun u hu v => by
      obtain ⟨i, hi, e⟩ := List.getElem_of_mem hu
      have := List.sizeOf_lt_of_mem hu
      exact ih u (by omega) v (by rw [← e]; exact MExpr.arg_g hi hsz))
    have harms := equalFuncArm_ok 299 x.fArms y.fArms (by omega) (fun u hu v => by
      obtain ⟨i, hi, e⟩ := List.getElem_of_mem hu
      have hs := List.sizeOf_lt_of_mem hu
      have hz : u.sz ≤ 4194304 := by rw [← e]; exact MExpr.arm_g hi hsz
      have hz' := MArm.bounds_g hz
      have lBody := MArm.lt_Body u
      intro S
      refine acall_cw (rs := [.tmp 4]) Tryz.checked.mixed Tryz.func299 Tryz.ntmps299 rfl rfl rfl rfl rfl ?_
      simp -implicitDefEqProofs (disch := omega) only [go_sem]
      with_reducible refine split2 (fun hb => ?_) (fun hb => ?_) <;> have h := hb <;> (try simp only [wf_preprocess] at h) <;> simp -implicitDefEqProofs (disch := omega) only [go_sem, hb] <;> (repeat (with_reducible refine And.intro ?_ ?_; focus first | omega | rfl | assumption | exact ⟨_, rfl, rfl⟩ | (simp; omega) | (simp; done)))
      · have h1 := h
        refine call_w (equalS_ok u.fVars v.fVars (by omega)) ?_
        simp -implicitDefEqProofs (disch := omega) only [go_sem] <;> (repeat (with_reducible refine And.intro ?_ ?_; focus first | omega | rfl | assumption | exact ⟨_, rfl, rfl⟩ | (simp; omega) | (simp; done)))
        with_reducible refine split2 (fun hb => ?_) (fun hb => ?_) <;> have h := hb <;> (try simp only [wf_preprocess] at h) <;> simp -implicitDefEqProofs (disch := omega) only [go_sem, hb] <;> (repeat (with_reducible refine And.intro ?_ ?_; focus first | omega | rfl | assumption | exact ⟨_, rfl, rfl⟩ | (simp; omega) | (simp; done)))
        · have h2 := h
          refine call_w (ih u.fBody (by omega) v.fBody (by omega)) ?_
          simp -implicitDefEqProofs (disch := omega) only [go_sem] <;> (repeat (with_reducible refine And.intro ?_ ?_; focus first | omega | rfl | assumption | exact ⟨_, rfl, rfl⟩ | (simp; omega) | (simp; done)))
          exact bool_eq (dec_congr ⟨fun e => MArm.ext h1 h2 e, fun e => by rw [e]⟩)
        · exact bool_eq (dec_false (fun e => h (by rw [e]))).symm
      · exact bool_eq (dec_false (fun e => h (by rw [e]))).symm)
    refine acall_cw (rs := [.tmp 4]) Tryz.checked.mixed Tryz.func269 Tryz.ntmps269 rfl rfl rfl rfl rfl ?_
    simp -implicitDefEqProofs (disch := omega) only [go_sem]
    with_reducible refine split2 (fun hb => ?_) (fun hb => ?_) <;> have h := hb <;> (try simp only [wf_preprocess] at h) <;> simp -implicitDefEqProofs (disch := omega) only [go_sem, hb] <;> (repeat (with_reducible refine And.intro ?_ ?_; focus first | omega | rfl | assumption | exact ⟨_, rfl, rfl⟩ | (simp; omega) | (simp; done)))
    · have h1 := h
      with_reducible refine split2 (fun hb => ?_) (fun hb => ?_) <;> have h := hb <;> (try simp only [wf_preprocess] at h) <;> simp -implicitDefEqProofs (disch := omega) only [go_sem, hb] <;> (repeat (with_reducible refine And.intro ?_ ?_; focus first | omega | rfl | assumption | exact ⟨_, rfl, rfl⟩ | (simp; omega) | (simp; done)))
      · have h2 := h
        with_reducible refine split2 (fun hb => ?_) (fun hb => ?_) <;> have h := hb <;> (try simp only [wf_preprocess] at h) <;> simp -implicitDefEqProofs (disch := omega) only [go_sem, hb] <;> (repeat (with_reducible refine And.intro ?_ ?_; focus first | omega | rfl | assumption | exact ⟨_, rfl, rfl⟩ | (simp; omega) | (simp; done)))
        · have h3 := h
          with_reducible refine split2 (fun hb => ?_) (fun hb => ?_) <;> have h := hb <;> (try simp only [wf_preprocess] at h) <;> simp -implicitDefEqProofs (disch := omega) only [go_sem, hb] <;> (repeat (with_reducible refine And.intro ?_ ?_; focus first | omega | rfl | assumption | exact ⟨_, rfl, rfl⟩ | (simp; omega) | (simp; done)))
          · have h4 := h
            refine call_w (implEqualType_ok x.fType y.fType (by omega)) ?_
            simp -implicitDefEqProofs (disch := omega) only [go_sem] <;> (repeat (with_reducible refine And.intro ?_ ?_; focus first | omega | rfl | assumption | exact ⟨_, rfl, rfl⟩ | (simp; omega) | (simp; done)))
            with_reducible refine split2 (fun hb => ?_) (fun hb => ?_) <;> have h := hb <;> (try simp only [wf_preprocess] at h) <;> simp -implicitDefEqProofs (disch := omega) only [go_sem, hb] <;> (repeat (with_reducible refine And.intro ?_ ?_; focus first | omega | rfl | assumption | exact ⟨_, rfl, rfl⟩ | (simp; omega) | (simp; done)))
            · have h5 := h
              refine call_w (hargs) ?_
              simp -implicitDefEqProofs (disch := omega) only [go_sem] <;> (repeat (with_reducible refine And.intro ?_ ?_; focus first | omega | rfl | assumption | exact ⟨_, rfl, rfl⟩ | (simp; omega) | (simp; done)))
              with_reducible refine split2 (fun hb => ?_) (fun hb => ?_) <;> have h := hb <;> (try simp only [wf_preprocess] at h) <;> simp -implicitDefEqProofs (disch := omega) only [go_sem, hb] <;> (repeat (with_reducible refine And.intro ?_ ?_; focus first | omega | rfl | assumption | exact ⟨_, rfl, rfl⟩ | (simp; omega) | (simp; done)))
              · have h6 := h
                refine call_w (harms) ?_
                simp -implicitDefEqProofs (disch := omega) only [go_sem] <;> (repeat (with_reducible refine And.intro ?_ ?_; focus first | omega | rfl | assumption | exact ⟨_, rfl, rfl⟩ | (simp; omega) | (simp; done)))
                exact bool_eq (dec_congr ⟨fun e => MExpr.ext h1 h2 h3 h4 h5 h6 e, fun e => by rw [e]⟩)
              · exact bool_eq (dec_false (fun e => h (by rw [e]))).symm
            · exact bool_eq (dec_false (fun e => h (by rw [e]))).symm
          · exact bool_eq (dec_false (fun e => h (by rw [e]))).symm
        · exact bool_eq (dec_false (fun e => h (by rw [e]))).symm
      · exact bool_eq (dec_false (fun e => h (by rw [e]))).symm
    · exact bool_eq (dec_false (fun e => h (by rw [e]))).symm
theorem implEqualExpr_ok (x y : MExpr) (h : x.sz ≤ 4194304) : PCall Tryz.prog 269 [x.v, y.v] (.c (.d (.b (dec (x = y))))) := implEqualExpr_all _ x (Nat.lt_succ_self _) y h
theorem specEqualExpr_all : ∀ n : Nat, ∀ x : MExpr, SizeOf.sizeOf x < n → ∀ y : MExpr, x.sz ≤ 4194304 → PCall Tryz.prog 288 [x.v, y.v] (.c (.d (.b (dec (x = y)))))
  | 0 => fun x h => by omega
  | n + 1 => by
    have ih := specEqualExpr_all n
    intro x hn y hsz S
    have lArgs := MExpr.lt_Args x
    have lArms := MExpr.lt_Arms x
    have hb0 := MExpr.bounds_g hsz
    refine acall_cw (rs := [.tmp 4]) Tryz.checked.mixed Tryz.func288 Tryz.ntmps288 rfl rfl rfl rfl rfl ?_
    simp -implicitDefEqProofs (disch := omega) only [go_sem]
    with_reducible refine split2 (fun hb => ?_) (fun hb => ?_) <;> have h := hb <;> (try simp only [wf_preprocess] at h) <;> simp -implicitDefEqProofs (disch := omega) only [go_sem, hb] <;> (repeat (with_reducible refine And.intro ?_ ?_; focus first | omega | rfl | assumption | exact ⟨_, rfl, rfl⟩ | (simp; omega) | (simp; done)))
    · exact bool_eq (dec_false (fun e => h (by rw [e]))).symm
    have h1 := h
    with_reducible refine split2 (fun hb => ?_) (fun hb => ?_) <;> have h := hb <;> (try simp only [wf_preprocess] at h) <;> simp -implicitDefEqProofs (disch := omega) only [go_sem, hb] <;> (repeat (with_reducible refine And.intro ?_ ?_; focus first | omega | rfl | assumption | exact ⟨_, rfl, rfl⟩ | (simp; omega) | (simp; done)))
    · exact bool_eq (dec_false (fun e => h (by rw [e]))).symm
    have h2 := h
    with_reducible refine split2 (fun hb => ?_) (fun hb => ?_) <;> have h := hb <;> (try simp only [wf_preprocess] at h) <;> simp -implicitDefEqProofs (disch := omega) only [go_sem, hb] <;> (repeat (with_reducible refine And.intro ?_ ?_; focus first | omega | rfl | assumption | exact ⟨_, rfl, rfl⟩ | (simp; omega) | (simp; done)))
    · exact bool_eq (dec_false (fun e => h (by rw [e]))).symm
    have h3 := h
    with_reducible refine split2 (fun hb => ?_) (fun hb => ?_) <;> have h := hb <;> (try simp only [wf_preprocess] at h) <;> simp -implicitDefEqProofs (disch := omega) only [go_sem, hb] <;> (repeat (with_reducible refine And.intro ?_ ?_; focus first | omega | rfl | assumption | exact ⟨_, rfl, rfl⟩ | (simp; omega) | (simp; done)))
    · exact bool_eq (dec_false (fun e => h (by rw [e]))).symm
    have h4 := h
    refine call_w (specEqualType_ok x.fType y.fType (by omega)) ?_
    simp -implicitDefEqProofs (disch := omega) only [go_sem] <;> (repeat (with_reducible refine And.intro ?_ ?_; focus first | omega | rfl | assumption | exact ⟨_, rfl, rfl⟩ | (simp; omega) | (simp; done)))
    with_reducible refine split2 (fun hb => ?_) (fun hb => ?_) <;> have h := hb <;> (try simp only [wf_preprocess] at h) <;> simp -implicitDefEqProofs (disch := omega) only [go_sem, hb] <;> (repeat (with_reducible refine And.intro ?_ ?_; focus first | omega | rfl | assumption | exact ⟨_, rfl, rfl⟩ | (simp; omega) | (simp; done)))
    · exact bool_eq (dec_false (fun e => h (by rw [e]))).symm
    have h5 := h
    with_reducible refine split2 (fun hb => ?_) (fun hb => ?_) <;> have h := hb <;> (try simp only [wf_preprocess] at h) <;> simp -implicitDefEqProofs (disch := omega) only [go_sem, hb] <;> (repeat (with_reducible refine And.intro ?_ ?_; focus first | omega | rfl | assumption | exact ⟨_, rfl, rfl⟩ | (simp; omega) | (simp; done)))
    · exact bool_eq (dec_false (fun e => h (by rw [e]))).symm
    have h6 : x.fArgs.length = y.fArgs.length := by omega
    with_reducible refine split2 (fun hb => ?_) (fun hb => ?_) <;> have h := hb <;> (try simp only [wf_preprocess] at h) <;> simp -implicitDefEqProofs (disch := omega) only [go_sem, hb] <;> (repeat (with_reducible refine And.intro ?_ ?_; focus first | omega | rfl | assumption | exact ⟨_, rfl, rfl⟩ | (simp; omega) | (simp; done)))
    · exact bool_eq (dec_false (fun e => h (by rw [e]))).symm
    have h7 : x.fArms.length = y.fArms.length := by omega
    refine loop_at (ι := Nat) Tryz.checked.mixed rfl [2, 3, 5] (fun i => [.c (.ptr (0, 0) 0), .c (.ptr (0, 1) 0), .c (.d (.i .i64 i))]) (fun _ => [.box (x.enc.map .d), .box (y.enc.map .d)] :: S)
      (fun i => i ≤ x.fArgs.length ∧ ∀ j, j < i → x.fArgs[j]? = y.fArgs[j]?) (fun i => x.fArgs.length - i) 0 rfl ?_ ⟨Nat.zero_le _, fun j h => by omega⟩ ?_
    · simp -implicitDefEqProofs (disch := omega) only [go_sem]
    rintro i ⟨p1, p2⟩
    simp -implicitDefEqProofs (disch := omega) only [go_sem]
    with_reducible refine split2 (fun hb => ?_) (fun hb => ?_) <;> have h := hb <;> (try simp only [wf_preprocess] at h) <;> simp -implicitDefEqProofs (disch := omega) only [go_sem, hb] <;> (repeat (with_reducible refine And.intro ?_ ?_; focus first | omega | rfl | assumption | exact ⟨_, rfl, rfl⟩ | (simp; omega) | (simp; done)))
    · have hi : i < x.fArgs.length := by omega
      have hi' : i < y.fArgs.length := by omega
      (repeat (with_reducible refine And.intro ?_ ?_; focus first | omega | rfl | assumption | exact ⟨_, rfl, rfl⟩ | (simp; omega) | (simp; done)))
      refine call_w (ih x.fArgs[i] (by have := List.sizeOf_lt_of_mem (List.getElem_mem hi); omega) y.fArgs[i] (MExpr.arg_g hi hsz)) ?_
      simp -implicitDefEqProofs (disch := omega) only [go_sem] <;> (repeat (with_reducible refine And.intro ?_ ?_; focus first | omega | rfl | assumption | exact ⟨_, rfl, rfl⟩ | (simp; omega) | (simp; done)))
      with_reducible refine split2 (fun hb => ?_) (fun hb => ?_) <;> have h := hb <;> (try simp only [wf_preprocess] at h) <;> simp -implicitDefEqProofs (disch := omega) only [go_sem, hb] <;> (repeat (with_reducible refine And.intro ?_ ?_; focus first | omega | rfl | assumption | exact ⟨_, rfl, rfl⟩ | (simp; omega) | (simp; done)))
      · exact bool_eq (dec_false (fun e => h (by simp only [e]))).symm
      refine inv_at (i + 1) (by omega) rfl rfl ⟨by omega, fun j hj => ?_⟩
      by_cases e : j = i
      · subst e
        rw [List.getElem?_eq_getElem hi, List.getElem?_eq_getElem hi', h]
      · exact p2 j (by omega)
    have hi : i = x.fArgs.length := by omega
    have h8 : x.fArgs = y.fArgs := List.ext_getElem? fun j => by
      by_cases hj : j < i
      · exact p2 j hj
      · rw [List.getElem?_eq_none (by omega), List.getElem?_eq_none (by omega)]
    refine loop_at (ι := Nat) Tryz.checked.mixed rfl [2, 3, 6] (fun i => [.c (.ptr (0, 0) 0), .c (.ptr (0, 1) 0), .c (.d (.i .i64 i))]) (fun _ => [.box (x.enc.map .d), .box (y.enc.map .d)] :: S)
      (fun i => i ≤ x.fArms.length ∧ ∀ j, j < i → x.fArms[j]? = y.fArms[j]?) (fun i => x.fArms.length - i) 0 rfl ?_ ⟨Nat.zero_le _, fun j h => by omega⟩ ?_
    · simp -implicitDefEqProofs (disch := omega) only [go_sem]
    clear p1 p2 hi hb h
    clear i
    rintro i ⟨p1, p2⟩
    simp -implicitDefEqProofs (disch := omega) only [go_sem]
    with_reducible refine split2 (fun hb => ?_) (fun hb => ?_) <;> have h := hb <;> (try simp only [wf_preprocess] at h) <;> simp -implicitDefEqProofs (disch := omega) only [go_sem, hb] <;> (repeat (with_reducible refine And.intro ?_ ?_; focus first | omega | rfl | assumption | exact ⟨_, rfl, rfl⟩ | (simp; omega) | (simp; done)))
    · have hi : i < x.fArms.length := by omega
      have hi' : i < y.fArms.length := by omega
      have hs := List.sizeOf_lt_of_mem (List.getElem_mem hi)
      have hz := MArm.bounds_g (MExpr.arm_g hi hsz)
      have lBody := MArm.lt_Body x.fArms[i]
      (repeat (with_reducible refine And.intro ?_ ?_; focus first | omega | rfl | assumption | exact ⟨_, rfl, rfl⟩ | (simp; omega) | (simp; done)))
      with_reducible refine split2 (fun hb => ?_) (fun hb => ?_) <;> have h := hb <;> (try simp only [wf_preprocess] at h) <;> simp -implicitDefEqProofs (disch := omega) only [go_sem, hb] <;> (repeat (with_reducible refine And.intro ?_ ?_; focus first | omega | rfl | assumption | exact ⟨_, rfl, rfl⟩ | (simp; omega) | (simp; done)))
      · exact bool_eq (dec_false (fun e => h (by simp only [e]))).symm
      have k1 := h
      (repeat (with_reducible refine And.intro ?_ ?_; focus first | omega | rfl | assumption | exact ⟨_, rfl, rfl⟩ | (simp; omega) | (simp; done)))
      refine call_w (l11Texts_ok x.fArms[i].fVars y.fArms[i].fVars (by omega)) ?_
      simp -implicitDefEqProofs (disch := omega) only [go_sem] <;> (repeat (with_reducible refine And.intro ?_ ?_; focus first | omega | rfl | assumption | exact ⟨_, rfl, rfl⟩ | (simp; omega) | (simp; done)))
      with_reducible refine split2 (fun hb => ?_) (fun hb => ?_) <;> have h := hb <;> (try simp only [wf_preprocess] at h) <;> simp -implicitDefEqProofs (disch := omega) only [go_sem, hb] <;> (repeat (with_reducible refine And.intro ?_ ?_; focus first | omega | rfl | assumption | exact ⟨_, rfl, rfl⟩ | (simp; omega) | (simp; done)))
      · exact bool_eq (dec_false (fun e => h (by simp only [e]))).symm
      have k2 := h
      (repeat (with_reducible refine And.intro ?_ ?_; focus first | omega | rfl | assumption | exact ⟨_, rfl, rfl⟩ | (simp; omega) | (simp; done)))
      refine call_w (ih x.fArms[i].fBody (by omega) y.fArms[i].fBody (by omega)) ?_
      simp -implicitDefEqProofs (disch := omega) only [go_sem] <;> (repeat (with_reducible refine And.intro ?_ ?_; focus first | omega | rfl | assumption | exact ⟨_, rfl, rfl⟩ | (simp; omega) | (simp; done)))
      with_reducible refine split2 (fun hb => ?_) (fun hb => ?_) <;> have h := hb <;> (try simp only [wf_preprocess] at h) <;> simp -implicitDefEqProofs (disch := omega) only [go_sem, hb] <;> (repeat (with_reducible refine And.intro ?_ ?_; focus first | omega | rfl | assumption | exact ⟨_, rfl, rfl⟩ | (simp; omega) | (simp; done)))
      · exact bool_eq (dec_false (fun e => h (by simp only [e]))).symm
      have k3 := h
      refine inv_at (i + 1) (by omega) rfl rfl ⟨by omega, fun j hj => ?_⟩
      by_cases e : j = i
      · subst e
        rw [List.getElem?_eq_getElem hi, List.getElem?_eq_getElem hi', MArm.ext k1 k2 k3]
      · exact p2 j (by omega)
    · have hi : i = x.fArms.length := by omega
      have h9 : x.fArms = y.fArms := List.ext_getElem? fun j => by
        by_cases hj : j < i
        · exact p2 j hj
        · rw [List.getElem?_eq_none (by omega), List.getElem?_eq_none (by omega)]
      exact bool_eq (dec_true (MExpr.ext h1 h2 h3 h4 h5 h8 h9)).symm
theorem specEqualExpr_ok (x y : MExpr) (h : x.sz ≤ 4194304) : PCall Tryz.prog 288 [x.v, y.v] (.c (.d (.b (dec (x = y))))) := specEqualExpr_all _ x (Nat.lt_succ_self _) y h
end Go.Proofs.YtnleocfkdidhoaaGreat

namespace Go.Proofs.YtnleocfkdidhoaaGreat
open Go Go.Ab
theorem specCountV_all : ∀ n : Nat, ∀ t : MType, SizeOf.sizeOf t < n → t.sz ≤ 4194304 → ∀ v : List UInt8, PCall Tryz.prog 261 [t.v, .c (.d (.s v))] (.c (.d (.i .i64 (countV v t))))
  | 0 => fun t h => by omega
  | n + 1 => by
    have ih := specCountV_all n
    intro t hn hsz v S
    have lArgs := MType.lt_Args t
    have hts := ty_szT hsz
    have hcl := countV_le v t
    have hcn := cnt_le t
    have he := countV_eq v t
    refine acall_cw (rs := [.tmp 4]) Tryz.checked.mixed Tryz.func261 Tryz.ntmps261 rfl rfl rfl rfl rfl ?_
    simp -implicitDefEqProofs (disch := omega) only [go_sem]
    repeat' (first | (with_reducible refine split2 (fun hb => ?_) (fun hb => ?_) <;> have h := hb <;> (try simp only [wf_preprocess] at h) <;> simp -implicitDefEqProofs (disch := omega) only [go_sem, hb] <;> (repeat (with_reducible refine And.intro ?_ ?_; focus first | omega | rfl | assumption | exact ⟨_, rfl, rfl⟩ | (simp; omega) | (simp; done)))))
    all_goals first
      | (have hc : countV v t = 1 + countVL v t.fArgs := by rw [he, if_pos (by simp only [isV, decide_eq_true_eq]; exact ⟨by assumption, by assumption⟩)])
      | (have hc : countV v t = 0 + countVL v t.fArgs := by rw [he, if_neg (by simp only [isV, decide_eq_true_eq]; exact fun x => by have := x.1; have := x.2; contradiction)])
    all_goals
      refine loop_at (ι := Nat × Nat) Tryz.checked.mixed rfl [1, 2, 5, 6] (fun y => [.c (.d (.s v)), .c (.ptr (0, 0) 0), .c (.d (.i .i64 y.2)), .c (.d (.i .i64 y.1))]) (fun _ => [.box [.d (.i .i64 t.fKind), .d (.s t.fName), .d (.sl (t.fArgs.map MType.enc))]] :: S)
        (fun y => y.1 ≤ t.fArgs.length ∧ countV v t = y.2 + countVL v (t.fArgs.drop y.1)) (fun y => t.fArgs.length - y.1) (0, _) rfl rfl ⟨Nat.zero_le _, hc⟩ ?_
      rintro ⟨i, c⟩ ⟨p1, p2⟩
      simp only at p1 p2
      simp -implicitDefEqProofs (disch := omega) only [go_sem]
      with_reducible refine split2 (fun hb => ?_) (fun hb => ?_) <;> have h := hb <;> (try simp only [wf_preprocess] at h) <;> simp -implicitDefEqProofs (disch := omega) only [go_sem, hb] <;> (repeat (with_reducible refine And.intro ?_ ?_; focus first | omega | rfl | assumption | exact ⟨_, rfl, rfl⟩ | (simp; omega) | (simp; done)))
      · have hi : i < t.fArgs.length := by omega
        rw [countVL_drop hi] at p2
        (repeat (with_reducible refine And.intro ?_ ?_; focus first | omega | rfl | assumption | exact ⟨_, rfl, rfl⟩ | (simp; omega) | (simp; done)))
        refine call_w (ih t.fArgs[i] (by have := List.sizeOf_lt_of_mem (List.getElem_mem hi); omega) (arg_szT hi hsz).1 v) ?_
        simp -implicitDefEqProofs (disch := omega) only [go_sem] <;> (repeat (with_reducible refine And.intro ?_ ?_; focus first | omega | rfl | assumption | exact ⟨_, rfl, rfl⟩ | (simp; omega) | (simp; done)))
        rw [show (c : Int) + (countV v t.fArgs[i] : Int) = ((c + countV v t.fArgs[i] : Nat) : Int) by omega]
        exact inv_at (i + 1, c + countV v t.fArgs[i]) (by simp only; omega) rfl rfl ⟨by simp only; omega, by simp only; omega⟩
      · have hi : i = t.fArgs.length := by omega
        rw [hi, List.drop_length] at p2
        have h0 : countVL v [] = 0 := rfl
        exact int_eq (by omega)
theorem specOccurs_ok (v : List UInt8) (t : MType) (hsz : t.sz ≤ 4194304) : PCall Tryz.prog 216 [.c (.d (.s v)), t.v] (.c (.d (.b (occurs v t)))) := fun S => by
  refine acall_cw (rs := [.tmp 4]) Tryz.checked.mixed Tryz.func216 Tryz.ntmps216 rfl rfl rfl rfl rfl ?_
  simp -implicitDefEqProofs (disch := omega) only [go_sem]
  refine call_w (specCountV_all _ t (Nat.lt_succ_self _) hsz v) ?_
  simp -implicitDefEqProofs (disch := omega) only [go_sem] <;> (repeat (with_reducible refine And.intro ?_ ?_; focus first | omega | rfl | assumption | exact ⟨_, rfl, rfl⟩ | (simp; omega) | (simp; done)))
  exact bool_eq (by unfold occurs; rw [Bool.eq_iff_iff]; simp only [decide_eq_true_eq]; omega)
end Go.Proofs.YtnleocfkdidhoaaGreat

namespace Go.Proofs.YtnleocfkdidhoaaGreat
open Go Go.Ab
end Go.Proofs.YtnleocfkdidhoaaGreat

namespace Go.Proofs.YtnleocfkdidhoaaGreat
open Go Go.Ab
theorem szSignature_ok (x : MSignature) : ∀ left : Int, 0 ≤ left → left ≤ 1048576 → FitL x.enc → PCall Tryz.prog 252 [x.v, .c (.d (.i .i64 left))] (.c (.d (.i .i64 (sub1 left x.sz)))) := by
  intro left h0 h1 hf S
  simp only [MSignature.enc_eq, List.cons_append, List.nil_append, fitL_cons, fitL_append, fitL_nil_iff, and_true] at hf
  obtain ⟨fName, fParams, fResult, fHasDefault, fVars, fBody⟩ := hf
  have hz : x.sz = x.fName.length + ((x.fParams.length + szRows (x.fParams.map MType.enc)) + (x.fResult.sz + ((x.fVars.length + szRows (x.fVars.map encS)) + (x.fBody.sz)))) := by
    simp only [MSignature.sz, MSignature.enc_eq, szRow, szRow_append, D.sz, List.length_map, Nat.add_zero, Nat.zero_add, MExpr.sz_def, MType.sz_def] <;> omega
  refine acall_cw (rs := [.tmp 4]) Tryz.checked.mixed Tryz.func252 Tryz.ntmps252 rfl rfl rfl rfl rfl ?_
  rw [hz]
  have gName := fit_s fName
  simp -implicitDefEqProofs (disch := omega) only [go_sem]
  with_reducible refine split2 (fun hb => ?_) (fun hb => ?_) <;> have h := hb <;> (try simp only [wf_preprocess] at h) <;> simp -implicitDefEqProofs (disch := omega) only [go_sem, hb] <;> (repeat (with_reducible refine And.intro ?_ ?_; focus first | omega | rfl | assumption | exact ⟨_, rfl, rfl⟩ | (simp; omega) | (simp; done)))
  · exact int_eq (sub1_no (by omega)).symm
  refine call_w (szTypeS_ok x.fParams _ (by omega) (by omega) fParams) ?_
  simp -implicitDefEqProofs (disch := omega) only [go_sem]
  with_reducible refine split2 (fun hb => ?_) (fun hb => ?_) <;> have h := hb <;> (try simp only [wf_preprocess] at h) <;> simp -implicitDefEqProofs (disch := omega) only [go_sem, hb] <;> (repeat (with_reducible refine And.intro ?_ ?_; focus first | omega | rfl | assumption | exact ⟨_, rfl, rfl⟩ | (simp; omega) | (simp; done)))
  · have h' := sub1_neg h
    exact int_eq (sub1_no (by omega)).symm
  have hParams := sub1_nn h
  simp only [hParams.1]
  refine call_w (szType_ok x.fResult _ (by omega) (by omega) fResult) ?_
  simp -implicitDefEqProofs (disch := omega) only [go_sem]
  with_reducible refine split2 (fun hb => ?_) (fun hb => ?_) <;> have h := hb <;> (try simp only [wf_preprocess] at h) <;> simp -implicitDefEqProofs (disch := omega) only [go_sem, hb] <;> (repeat (with_reducible refine And.intro ?_ ?_; focus first | omega | rfl | assumption | exact ⟨_, rfl, rfl⟩ | (simp; omega) | (simp; done)))
  · have h' := sub1_neg h
    exact int_eq (sub1_no (by omega)).symm
  have hResult := sub1_nn h
  simp only [hResult.1]
  refine call_w (szStringS_ok x.fVars _ (by omega) (by omega) fVars) ?_
  simp -implicitDefEqProofs (disch := omega) only [go_sem]
  with_reducible refine split2 (fun hb => ?_) (fun hb => ?_) <;> have h := hb <;> (try simp only [wf_preprocess] at h) <;> simp -implicitDefEqProofs (disch := omega) only [go_sem, hb] <;> (repeat (with_reducible refine And.intro ?_ ?_; focus first | omega | rfl | assumption | exact ⟨_, rfl, rfl⟩ | (simp; omega) | (simp; done)))
  · have h' := sub1_neg h
    exact int_eq (sub1_no (by omega)).symm
  have hVars := sub1_nn h
  simp only [hVars.1]
  refine call_w (szExpr_ok x.fBody _ (by omega) (by omega) fBody) ?_
  simp -implicitDefEqProofs (disch := omega) only [go_sem]
  with_reducible refine split2 (fun hb => ?_) (fun hb => ?_) <;> have h := hb <;> (try simp only [wf_preprocess] at h) <;> simp -implicitDefEqProofs (disch := omega) only [go_sem, hb] <;> (repeat (with_reducible refine And.intro ?_ ?_; focus first | omega | rfl | assumption | exact ⟨_, rfl, rfl⟩ | (simp; omega) | (simp; done)))
  · have h' := sub1_neg h
    exact int_eq (sub1_no (by omega)).symm
  have hBody := sub1_nn h
  simp only [hBody.1]
  refine int_eq ?_
  rw [sub1_yes (by omega)]
  omega
theorem szSignatureS_ok (xs : List MSignature) : ∀ left : Int, 0 ≤ left → left ≤ 1048576 → (D.sl (xs.map MSignature.enc)).Fit → PCall Tryz.prog 206 [.c (.d (.sl (xs.map MSignature.enc))), .c (.d (.i .i64 left))] (.c (.d (.i .i64 (sub1 left (xs.length + szRows (xs.map MSignature.enc)))))) := by
  intro left h0 h1 hf S
  obtain ⟨hf1, hf2⟩ := fit_sl hf
  rw [List.length_map] at hf1
  refine acall_cw (rs := [.tmp 4]) Tryz.checked.mixed Tryz.func206 Tryz.ntmps206 rfl rfl rfl rfl rfl ?_
  simp -implicitDefEqProofs (disch := omega) only [go_sem]
  with_reducible refine split2 (fun hb => ?_) (fun hb => ?_) <;> have h := hb <;> (try simp only [wf_preprocess] at h) <;> simp -implicitDefEqProofs (disch := omega) only [go_sem, hb] <;> (repeat (with_reducible refine And.intro ?_ ?_; focus first | omega | rfl | assumption | exact ⟨_, rfl, rfl⟩ | (simp; omega) | (simp; done)))
  · exact int_eq (sub1_no (by omega)).symm
  refine loop_at (ι := Nat × Int) Tryz.checked.mixed rfl [0, 1, 5] (fun y => [.c (.d (.sl (xs.map MSignature.enc))), .c (.d (.i .i64 y.2)), .c (.d (.i .i64 y.1))]) (fun _ => [] :: S)
    (fun y => y.1 ≤ xs.length ∧ 0 ≤ y.2 ∧ y.2 ≤ 1048576 ∧ sub1 y.2 (szRows ((xs.map MSignature.enc).drop y.1)) = sub1 left (xs.length + szRows (xs.map MSignature.enc))) (fun y => xs.length - y.1) (0, left - xs.length) rfl rfl ⟨by omega, by omega, by omega, ?_⟩ ?_
  · unfold sub1
    rw [List.drop_zero]
    split <;> split <;> omega
  rintro ⟨i, l⟩ ⟨p1, p2, p3, p4⟩
  simp only at p1 p2 p3 p4
  simp -implicitDefEqProofs (disch := omega) only [go_sem]
  with_reducible refine split2 (fun hb => ?_) (fun hb => ?_) <;> have h := hb <;> (try simp only [wf_preprocess] at h) <;> simp -implicitDefEqProofs (disch := omega) only [go_sem, hb] <;> (repeat (with_reducible refine And.intro ?_ ?_; focus first | omega | rfl | assumption | exact ⟨_, rfl, rfl⟩ | (simp; omega) | (simp; done)))
  · have hi : i < xs.length := by omega
    rw [List.drop_eq_getElem_cons (by rw [List.length_map]; exact hi), szRows, List.getElem_map, MSignature.sz_def] at p4
    (repeat (with_reducible refine And.intro ?_ ?_; focus first | omega | rfl | assumption | exact ⟨_, rfl, rfl⟩ | (simp; omega) | (simp; done)))
    refine call_w (szSignature_ok xs[i] _ (by omega) (by omega) (hf2 _ (List.mem_map_of_mem (List.getElem_mem hi)))) ?_
    simp -implicitDefEqProofs (disch := omega) only [go_sem]
    with_reducible refine split2 (fun hb => ?_) (fun hb => ?_) <;> have h := hb <;> (try simp only [wf_preprocess] at h) <;> simp -implicitDefEqProofs (disch := omega) only [go_sem, hb] <;> (repeat (with_reducible refine And.intro ?_ ?_; focus first | omega | rfl | assumption | exact ⟨_, rfl, rfl⟩ | (simp; omega) | (simp; done)))
    · have h' := sub1_neg h
      rw [← p4, sub1_no (by omega)]
    · have h' := sub1_nn h
      refine inv_at (i + 1, sub1 l _) (by simp only; omega) rfl rfl ⟨by simp only; omega, by simp only; omega, by simp only; omega, ?_⟩
      simp only
      rw [← p4, h'.1]
      unfold sub1
      split <;> split <;> omega
  · have hi : i = xs.length := by omega
    rw [hi, List.drop_of_length_le (by simp), szRows, sub1_yes (by omega)] at p4
    rw [← p4]
    refine int_eq ?_
    omega
theorem toSignature_ok (x : MSignature) : x.sz ≤ 1048576 → PCall Tryz.prog 264 [x.v] x.v := by
  intro hsz S
  simp only [MSignature.sz, MSignature.enc_eq, szRow, szRow_append, D.sz, List.length_map, MExpr.sz_def, MType.sz_def] at hsz
  refine acall_cw (rs := [.cell 2 180]) Tryz.checked.mixed Tryz.func264 Tryz.ntmps264 rfl rfl rfl rfl rfl ?_
  simp -implicitDefEqProofs (disch := omega) only [go_sem]
  refine call_w (toTypeS_ok x.fParams (by omega)) ?_
  simp -implicitDefEqProofs (disch := omega) only [go_sem]
  refine call_w (toType_ok x.fResult (by omega)) ?_
  simp -implicitDefEqProofs (disch := omega) only [go_sem]
  refine call_w (toStringS_ok x.fVars (by omega)) ?_
  simp -implicitDefEqProofs (disch := omega) only [go_sem]
  refine call_w (toExpr_ok x.fBody (by omega)) ?_
  simp -implicitDefEqProofs (disch := omega) only [go_sem]
theorem toSignatureS_ok (xs : List MSignature) : xs.length + szRows (xs.map MSignature.enc) ≤ 1048576 → PCall Tryz.prog 219 [.c (.d (.sl (xs.map MSignature.enc)))] (.c (.d (.sl (xs.map MSignature.enc)))) := by
  intro hsz S
  refine acall_cw (rs := [.tmp 2]) Tryz.checked.mixed Tryz.func219 Tryz.ntmps219 rfl rfl rfl rfl rfl ?_
  simp -implicitDefEqProofs (disch := omega) only [go_sem]
  (repeat (with_reducible refine And.intro ?_ ?_; focus first | omega | rfl | assumption | exact ⟨_, rfl, rfl⟩ | (simp; omega) | (simp; done)))
  refine loop_at (ι := Nat × List (List D)) Tryz.checked.mixed rfl [0, 3, 4] (fun y => [.c (.d (.sl (xs.map MSignature.enc))), .c (.msl (0, 0)), .c (.d (.i .i64 y.1))]) (fun y => [.mrow 16 y.2] :: S)
    (fun y => y.1 ≤ xs.length ∧ Filled 16 y.1 y.2 (xs.map MSignature.enc)) (fun y => xs.length - y.1) (0, _) rfl rfl ⟨Nat.zero_le _, Filled.start (by simp) rfl⟩ ?_
  rintro ⟨i, R⟩ ⟨p1, p2⟩
  simp only at p1 p2
  simp -implicitDefEqProofs (disch := omega) only [go_sem]
  with_reducible refine split2 (fun hb => ?_) (fun hb => ?_) <;> have h := hb <;> (try simp only [wf_preprocess] at h) <;> simp -implicitDefEqProofs (disch := omega) only [go_sem, hb] <;> (repeat (with_reducible refine And.intro ?_ ?_; focus first | omega | rfl | assumption | exact ⟨_, rfl, rfl⟩ | (simp; omega) | (simp; done)))
  · have hi : i < xs.length := by omega
    have hx : xs[i].sz ≤ szRows (xs.map MSignature.enc) := szRows_mem (List.mem_map_of_mem (List.getElem_mem hi))
    (repeat (with_reducible refine And.intro ?_ ?_; focus first | omega | rfl | assumption | exact ⟨_, rfl, rfl⟩ | (simp; omega) | (simp; done)))
    refine call_w (toSignature_ok xs[i] (by omega)) ?_
    simp -implicitDefEqProofs (disch := omega) only [go_sem]
    have hR := p2.1
    rw [List.length_map] at hR
    (repeat (with_reducible refine And.intro ?_ ?_; focus first | omega | rfl | assumption | exact ⟨_, rfl, rfl⟩ | (simp; omega) | (simp; done)))
    refine inv_at (i + 1, _) (by simp only; omega) rfl rfl ⟨by simp only; omega, p2.step (by simp [hi, MExpr.enc_eq, MSignature.enc_eq, MType.enc_eq]) rfl⟩
  · have hi : i = xs.length := by omega
    rw [p2.done (by rw [List.length_map]; omega)]
theorem eqSignature_ok (x : MSignature) : ∀ y : MSignature, x.sz ≤ 1048576 → PCall Tryz.prog 279 [x.v, y.v] (.c (.d (.b (dec (x = y))))) := by
  intro y hsz S
  simp only [MSignature.sz, MSignature.enc_eq, szRow, szRow_append, D.sz, List.length_map, MExpr.sz_def, MType.sz_def] at hsz
  refine acall_cw (rs := [.tmp 4]) Tryz.checked.mixed Tryz.func279 Tryz.ntmps279 rfl rfl rfl rfl rfl ?_
  simp -implicitDefEqProofs (disch := omega) only [go_sem]
  with_reducible refine split2 (fun hb => ?_) (fun hb => ?_) <;> have h := hb <;> (try simp only [wf_preprocess] at h) <;> simp -implicitDefEqProofs (disch := omega) only [go_sem, hb] <;> (repeat (with_reducible refine And.intro ?_ ?_; focus first | omega | rfl | assumption | exact ⟨_, rfl, rfl⟩ | (simp; omega) | (simp; done)))
  · exact bool_eq (dec_false (fun e => h (by rw [e]))).symm
  have eName := h
  clear h
  refine call_w (eqTypeS_ok x.fParams _ (by omega)) ?_
  simp -implicitDefEqProofs (disch := omega) only [go_sem]
  with_reducible refine split2 (fun hb => ?_) (fun hb => ?_) <;> have h := hb <;> (try simp only [wf_preprocess] at h) <;> simp -implicitDefEqProofs (disch := omega) only [go_sem, hb] <;> (repeat (with_reducible refine And.intro ?_ ?_; focus first | omega | rfl | assumption | exact ⟨_, rfl, rfl⟩ | (simp; omega) | (simp; done)))
  · exact bool_eq (dec_false (fun e => h (by rw [e]))).symm
  have eParams := h
  clear h
  refine call_w (eqType_ok x.fResult _ (by omega)) ?_
  simp -implicitDefEqProofs (disch := omega) only [go_sem]
  with_reducible refine split2 (fun hb => ?_) (fun hb => ?_) <;> have h := hb <;> (try simp only [wf_preprocess] at h) <;> simp -implicitDefEqProofs (disch := omega) only [go_sem, hb] <;> (repeat (with_reducible refine And.intro ?_ ?_; focus first | omega | rfl | assumption | exact ⟨_, rfl, rfl⟩ | (simp; omega) | (simp; done)))
  · exact bool_eq (dec_false (fun e => h (by rw [e]))).symm
  have eResult := h
  clear h
  with_reducible refine split2 (fun hb => ?_) (fun hb => ?_) <;> have h := hb <;> (try simp only [wf_preprocess] at h) <;> simp -implicitDefEqProofs (disch := omega) only [go_sem, hb] <;> (repeat (with_reducible refine And.intro ?_ ?_; focus first | omega | rfl | assumption | exact ⟨_, rfl, rfl⟩ | (simp; omega) | (simp; done)))
  · exact bool_eq (dec_false (fun e => h (by rw [e]))).symm
  have eHasDefault := h
  clear h
  refine call_w (eqStringS_ok x.fVars _ (by omega)) ?_
  simp -implicitDefEqProofs (disch := omega) only [go_sem]
  with_reducible refine split2 (fun hb => ?_) (fun hb => ?_) <;> have h := hb <;> (try simp only [wf_preprocess] at h) <;> simp -implicitDefEqProofs (disch := omega) only [go_sem, hb] <;> (repeat (with_reducible refine And.intro ?_ ?_; focus first | omega | rfl | assumption | exact ⟨_, rfl, rfl⟩ | (simp; omega) | (simp; done)))
  · exact bool_eq (dec_false (fun e => h (by rw [e]))).symm
  have eVars := h
  clear h
  refine call_w (eqExpr_ok x.fBody _ (by omega)) ?_
  simp -implicitDefEqProofs (disch := omega) only [go_sem]
  with_reducible refine split2 (fun hb => ?_) (fun hb => ?_) <;> have h := hb <;> (try simp only [wf_preprocess] at h) <;> simp -implicitDefEqProofs (disch := omega) only [go_sem, hb] <;> (repeat (with_reducible refine And.intro ?_ ?_; focus first | omega | rfl | assumption | exact ⟨_, rfl, rfl⟩ | (simp; omega) | (simp; done)))
  · exact bool_eq (dec_false (fun e => h (by rw [e]))).symm
  have eBody := h
  clear h
  exact bool_eq (dec_true (MSignature.ext' eName eParams eResult eHasDefault eVars eBody)).symm
theorem eqSignatureS_ok (xs : List MSignature) : ∀ ys : List MSignature, xs.length + szRows (xs.map MSignature.enc) ≤ 1048576 → PCall Tryz.prog 237 [.c (.d (.sl (xs.map MSignature.enc))), .c (.d (.sl (ys.map MSignature.enc)))] (.c (.d (.b (dec (xs = ys))))) := by
  intro ys hsz S
  refine acall_cw (rs := [.tmp 4]) Tryz.checked.mixed Tryz.func237 Tryz.ntmps237 rfl rfl rfl rfl rfl ?_
  simp -implicitDefEqProofs (disch := omega) only [go_sem]
  with_reducible refine split2 (fun hb => ?_) (fun hb => ?_) <;> have h := hb <;> (try simp only [wf_preprocess] at h) <;> simp -implicitDefEqProofs (disch := omega) only [go_sem, hb] <;> (repeat (with_reducible refine And.intro ?_ ?_; focus first | omega | rfl | assumption | exact ⟨_, rfl, rfl⟩ | (simp; omega) | (simp; done)))
  · exact bool_eq (dec_false (fun e => h (by rw [e]))).symm
  have hl : xs.length = ys.length := by omega
  refine loop_at (ι := Nat) Tryz.checked.mixed rfl [0, 1, 5] (fun y => [.c (.d (.sl (xs.map MSignature.enc))), .c (.d (.sl (ys.map MSignature.enc))), .c (.d (.i .i64 y))]) (fun y => [] :: S)
    (fun i => i ≤ xs.length ∧ ∀ j, j < i → xs[j]? = ys[j]?) (fun y => xs.length - y) 0 rfl rfl ⟨Nat.zero_le _, fun j h => by omega⟩ ?_
  rintro i ⟨p1, p2⟩
  simp -implicitDefEqProofs (disch := omega) only [go_sem]
  with_reducible refine split2 (fun hb => ?_) (fun hb => ?_) <;> have h := hb <;> (try simp only [wf_preprocess] at h) <;> simp -implicitDefEqProofs (disch := omega) only [go_sem, hb] <;> (repeat (with_reducible refine And.intro ?_ ?_; focus first | omega | rfl | assumption | exact ⟨_, rfl, rfl⟩ | (simp; omega) | (simp; done)))
  · have hi : i < xs.length := by omega
    have hi' : i < ys.length := by omega
    have hx : xs[i].sz ≤ szRows (xs.map MSignature.enc) := szRows_mem (List.mem_map_of_mem (List.getElem_mem hi))
    (repeat (with_reducible refine And.intro ?_ ?_; focus first | omega | rfl | assumption | exact ⟨_, rfl, rfl⟩ | (simp; omega) | (simp; done)))
    refine call_w (eqSignature_ok xs[i] ys[i] (by omega)) ?_
    simp -implicitDefEqProofs (disch := omega) only [go_sem]
    with_reducible refine split2 (fun hb => ?_) (fun hb => ?_) <;> have h := hb <;> (try simp only [wf_preprocess] at h) <;> simp -implicitDefEqProofs (disch := omega) only [go_sem, hb] <;> (repeat (with_reducible refine And.intro ?_ ?_; focus first | omega | rfl | assumption | exact ⟨_, rfl, rfl⟩ | (simp; omega) | (simp; done)))
    · exact bool_eq (dec_false (fun e => h (by simp only [e]))).symm
    refine inv_at (i + 1) (by omega) rfl rfl ⟨by omega, fun j hj => ?_⟩
    by_cases e : j = i
    · subst e
      rw [List.getElem?_eq_getElem hi, List.getElem?_eq_getElem hi', h]
    · exact p2 j (by omega)
  · have hi : i = xs.length := by omega
    refine bool_eq (dec_true (List.ext_getElem? fun j => ?_)).symm
    by_cases hj : j < i
    · exact p2 j hj
    · rw [List.getElem?_eq_none (by omega), List.getElem?_eq_none (by omega)]
end Go.Proofs.YtnleocfkdidhoaaGreat

namespace Go.Proofs.YtnleocfkdidhoaaGreat
open Go Go.Ab
theorem szTrait_ok (x : MTrait) : ∀ left : Int, 0 ≤ left → left ≤ 1048576 → FitL x.enc → PCall Tryz.prog 135 [x.v, .c (.d (.i .i64 left))] (.c (.d (.i .i64 (sub1 left x.sz)))) := by
  intro left h0 h1 hf S
  simp only [MTrait.enc_eq, List.cons_append, List.nil_append, fitL_cons, fitL_append, fitL_nil_iff, and_true] at hf
  obtain ⟨fName, fSupertraits, fAuto, fAssoc, fSignatures⟩ := hf
  have hz : x.sz = x.fName.length + ((x.fSupertraits.length + szRows (x.fSupertraits.map encS)) + ((x.fSignatures.length + szRows (x.fSignatures.map MSignature.enc)))) := by
    simp only [MTrait.sz, MTrait.enc_eq, szRow, szRow_append, D.sz, List.length_map, Nat.add_zero, Nat.zero_add] <;> omega
  refine acall_cw (rs := [.tmp 4]) Tryz.checked.mixed Tryz.func135 Tryz.ntmps135 rfl rfl rfl rfl rfl ?_
  rw [hz]
  have gName := fit_s fName
  simp -implicitDefEqProofs (disch := omega) only [go_sem]
  with_reducible refine split2 (fun hb => ?_) (fun hb => ?_) <;> have h := hb <;> (try simp only [wf_preprocess] at h) <;> simp -implicitDefEqProofs (disch := omega) only [go_sem, hb] <;> (repeat (with_reducible refine And.intro ?_ ?_; focus first | omega | rfl | assumption | exact ⟨_, rfl, rfl⟩ | (simp; omega) | (simp; done)))
  · exact int_eq (sub1_no (by omega)).symm
  refine call_w (szStringS_ok x.fSupertraits _ (by omega) (by omega) fSupertraits) ?_
  simp -implicitDefEqProofs (disch := omega) only [go_sem]
  with_reducible refine split2 (fun hb => ?_) (fun hb => ?_) <;> have h := hb <;> (try simp only [wf_preprocess] at h) <;> simp -implicitDefEqProofs (disch := omega) only [go_sem, hb] <;> (repeat (with_reducible refine And.intro ?_ ?_; focus first | omega | rfl | assumption | exact ⟨_, rfl, rfl⟩ | (simp; omega) | (simp; done)))
  · have h' := sub1_neg h
    exact int_eq (sub1_no (by omega)).symm
  have hSupertraits := sub1_nn h
  simp only [hSupertraits.1]
  refine call_w (szSignatureS_ok x.fSignatures _ (by omega) (by omega) fSignatures) ?_
  simp -implicitDefEqProofs (disch := omega) only [go_sem]
  with_reducible refine split2 (fun hb => ?_) (fun hb => ?_) <;> have h := hb <;> (try simp only [wf_preprocess] at h) <;> simp -implicitDefEqProofs (disch := omega) only [go_sem, hb] <;> (repeat (with_reducible refine And.intro ?_ ?_; focus first | omega | rfl | assumption | exact ⟨_, rfl, rfl⟩ | (simp; omega) | (simp; done)))
  · have h' := sub1_neg h
    exact int_eq (sub1_no (by omega)).symm
  have hSignatures := sub1_nn h
  simp only [hSignatures.1]
  refine int_eq ?_
  rw [sub1_yes (by omega)]
  omega
theorem szTraitS_ok (xs : List MTrait) : ∀ left : Int, 0 ≤ left → left ≤ 1048576 → (D.sl (xs.map MTrait.enc)).Fit → PCall Tryz.prog 63 [.c (.d (.sl (xs.map MTrait.enc))), .c (.d (.i .i64 left))] (.c (.d (.i .i64 (sub1 left (xs.length + szRows (xs.map MTrait.enc)))))) := by
  intro left h0 h1 hf S
  obtain ⟨hf1, hf2⟩ := fit_sl hf
  rw [List.length_map] at hf1
  refine acall_cw (rs := [.tmp 4]) Tryz.checked.mixed Tryz.func63 Tryz.ntmps63 rfl rfl rfl rfl rfl ?_
  simp -implicitDefEqProofs (disch := omega) only [go_sem]
  with_reducible refine split2 (fun hb => ?_) (fun hb => ?_) <;> have h := hb <;> (try simp only [wf_preprocess] at h) <;> simp -implicitDefEqProofs (disch := omega) only [go_sem, hb] <;> (repeat (with_reducible refine And.intro ?_ ?_; focus first | omega | rfl | assumption | exact ⟨_, rfl, rfl⟩ | (simp; omega) | (simp; done)))
  · exact int_eq (sub1_no (by omega)).symm
  refine loop_at (ι := Nat × Int) Tryz.checked.mixed rfl [0, 1, 5] (fun y => [.c (.d (.sl (xs.map MTrait.enc))), .c (.d (.i .i64 y.2)), .c (.d (.i .i64 y.1))]) (fun _ => [] :: S)
    (fun y => y.1 ≤ xs.length ∧ 0 ≤ y.2 ∧ y.2 ≤ 1048576 ∧ sub1 y.2 (szRows ((xs.map MTrait.enc).drop y.1)) = sub1 left (xs.length + szRows (xs.map MTrait.enc))) (fun y => xs.length - y.1) (0, left - xs.length) rfl rfl ⟨by omega, by omega, by omega, ?_⟩ ?_
  · unfold sub1
    rw [List.drop_zero]
    split <;> split <;> omega
  rintro ⟨i, l⟩ ⟨p1, p2, p3, p4⟩
  simp only at p1 p2 p3 p4
  simp -implicitDefEqProofs (disch := omega) only [go_sem]
  with_reducible refine split2 (fun hb => ?_) (fun hb => ?_) <;> have h := hb <;> (try simp only [wf_preprocess] at h) <;> simp -implicitDefEqProofs (disch := omega) only [go_sem, hb] <;> (repeat (with_reducible refine And.intro ?_ ?_; focus first | omega | rfl | assumption | exact ⟨_, rfl, rfl⟩ | (simp; omega) | (simp; done)))
  · have hi : i < xs.length := by omega
    rw [List.drop_eq_getElem_cons (by rw [List.length_map]; exact hi), szRows, List.getElem_map, MTrait.sz_def] at p4
    (repeat (with_reducible refine And.intro ?_ ?_; focus first | omega | rfl | assumption | exact ⟨_, rfl, rfl⟩ | (simp; omega) | (simp; done)))
    refine call_w (szTrait_ok xs[i] _ (by omega) (by omega) (hf2 _ (List.mem_map_of_mem (List.getElem_mem hi)))) ?_
    simp -implicitDefEqProofs (disch := omega) only [go_sem]
    with_reducible refine split2 (fun hb => ?_) (fun hb => ?_) <;> have h := hb <;> (try simp only [wf_preprocess] at h) <;> simp -implicitDefEqProofs (disch := omega) only [go_sem, hb] <;> (repeat (with_reducible refine And.intro ?_ ?_; focus first | omega | rfl | assumption | exact ⟨_, rfl, rfl⟩ | (simp; omega) | (simp; done)))
    · have h' := sub1_neg h
      rw [← p4, sub1_no (by omega)]
    · have h' := sub1_nn h
      refine inv_at (i + 1, sub1 l _) (by simp only; omega) rfl rfl ⟨by simp only; omega, by simp only; omega, by simp only; omega, ?_⟩
      simp only
      rw [← p4, h'.1]
      unfold sub1
      split <;> split <;> omega
  · have hi : i = xs.length := by omega
    rw [hi, List.drop_of_length_le (by simp), szRows, sub1_yes (by omega)] at p4
    rw [← p4]
    refine int_eq ?_
    omega
theorem toTrait_ok (x : MTrait) : x.sz ≤ 1048576 → PCall Tryz.prog 145 [x.v] x.v := by
  intro hsz S
  simp only [MTrait.sz, MTrait.enc_eq, szRow, szRow_append, D.sz, List.length_map] at hsz
  refine acall_cw (rs := [.cell 2 139]) Tryz.checked.mixed Tryz.func145 Tryz.ntmps145 rfl rfl rfl rfl rfl ?_
  simp -implicitDefEqProofs (disch := omega) only [go_sem]
  refine call_w (toStringS_ok x.fSupertraits (by omega)) ?_
  simp -implicitDefEqProofs (disch := omega) only [go_sem]
  refine call_w (toSignatureS_ok x.fSignatures (by omega)) ?_
  simp -implicitDefEqProofs (disch := omega) only [go_sem]
theorem toTraitS_ok (xs : List MTrait) : xs.length + szRows (xs.map MTrait.enc) ≤ 1048576 → PCall Tryz.prog 74 [.c (.d (.sl (xs.map MTrait.enc)))] (.c (.d (.sl (xs.map MTrait.enc)))) := by
  intro hsz S
  refine acall_cw (rs := [.tmp 2]) Tryz.checked.mixed Tryz.func74 Tryz.ntmps74 rfl rfl rfl rfl rfl ?_
  simp -implicitDefEqProofs (disch := omega) only [go_sem]
  (repeat (with_reducible refine And.intro ?_ ?_; focus first | omega | rfl | assumption | exact ⟨_, rfl, rfl⟩ | (simp; omega) | (simp; done)))
  refine loop_at (ι := Nat × List (List D)) Tryz.checked.mixed rfl [0, 3, 4] (fun y => [.c (.d (.sl (xs.map MTrait.enc))), .c (.msl (0, 0)), .c (.d (.i .i64 y.1))]) (fun y => [.mrow 5 y.2] :: S)
    (fun y => y.1 ≤ xs.length ∧ Filled 5 y.1 y.2 (xs.map MTrait.enc)) (fun y => xs.length - y.1) (0, _) rfl rfl ⟨Nat.zero_le _, Filled.start (by simp) rfl⟩ ?_
  rintro ⟨i, R⟩ ⟨p1, p2⟩
  simp only at p1 p2
  simp -implicitDefEqProofs (disch := omega) only [go_sem]
  with_reducible refine split2 (fun hb => ?_) (fun hb => ?_) <;> have h := hb <;> (try simp only [wf_preprocess] at h) <;> simp -implicitDefEqProofs (disch := omega) only [go_sem, hb] <;> (repeat (with_reducible refine And.intro ?_ ?_; focus first | omega | rfl | assumption | exact ⟨_, rfl, rfl⟩ | (simp; omega) | (simp; done)))
  · have hi : i < xs.length := by omega
    have hx : xs[i].sz ≤ szRows (xs.map MTrait.enc) := szRows_mem (List.mem_map_of_mem (List.getElem_mem hi))
    (repeat (with_reducible refine And.intro ?_ ?_; focus first | omega | rfl | assumption | exact ⟨_, rfl, rfl⟩ | (simp; omega) | (simp; done)))
    refine call_w (toTrait_ok xs[i] (by omega)) ?_
    simp -implicitDefEqProofs (disch := omega) only [go_sem]
    have hR := p2.1
    rw [List.length_map] at hR
    (repeat (with_reducible refine And.intro ?_ ?_; focus first | omega | rfl | assumption | exact ⟨_, rfl, rfl⟩ | (simp; omega) | (simp; done)))
    refine inv_at (i + 1, _) (by simp only; omega) rfl rfl ⟨by simp only; omega, p2.step (by simp [hi, MTrait.enc_eq]) rfl⟩
  · have hi : i = xs.length := by omega
    rw [p2.done (by rw [List.length_map]; omega)]
theorem eqTrait_ok (x : MTrait) : ∀ y : MTrait, x.sz ≤ 1048576 → PCall Tryz.prog 166 [x.v, y.v] (.c (.d (.b (dec (x = y))))) := by
  intro y hsz S
  simp only [MTrait.sz, MTrait.enc_eq, szRow, szRow_append, D.sz, List.length_map] at hsz
  refine acall_cw (rs := [.tmp 4]) Tryz.checked.mixed Tryz.func166 Tryz.ntmps166 rfl rfl rfl rfl rfl ?_
  simp -implicitDefEqProofs (disch := omega) only [go_sem]
  with_reducible refine split2 (fun hb => ?_) (fun hb => ?_) <;> have h := hb <;> (try simp only [wf_preprocess] at h) <;> simp -implicitDefEqProofs (disch := omega) only [go_sem, hb] <;> (repeat (with_reducible refine And.intro ?_ ?_; focus first | omega | rfl | assumption | exact ⟨_, rfl, rfl⟩ | (simp; omega) | (simp; done)))
  · exact bool_eq (dec_false (fun e => h (by rw [e]))).symm
  have eName := h
  clear h
  refine call_w (eqStringS_ok x.fSupertraits _ (by omega)) ?_
  simp -implicitDefEqProofs (disch := omega) only [go_sem]
  with_reducible refine split2 (fun hb => ?_) (fun hb => ?_) <;> have h := hb <;> (try simp only [wf_preprocess] at h) <;> simp -implicitDefEqProofs (disch := omega) only [go_sem, hb] <;> (repeat (with_reducible refine And.intro ?_ ?_; focus first | omega | rfl | assumption | exact ⟨_, rfl, rfl⟩ | (simp; omega) | (simp; done)))
  · exact bool_eq (dec_false (fun e => h (by rw [e]))).symm
  have eSupertraits := h
  clear h
  with_reducible refine split2 (fun hb => ?_) (fun hb => ?_) <;> have h := hb <;> (try simp only [wf_preprocess] at h) <;> simp -implicitDefEqProofs (disch := omega) only [go_sem, hb] <;> (repeat (with_reducible refine And.intro ?_ ?_; focus first | omega | rfl | assumption | exact ⟨_, rfl, rfl⟩ | (simp; omega) | (simp; done)))
  · exact bool_eq (dec_false (fun e => h (by rw [e]))).symm
  have eAuto := h
  clear h
  with_reducible refine split2 (fun hb => ?_) (fun hb => ?_) <;> have h := hb <;> (try simp only [wf_preprocess] at h) <;> simp -implicitDefEqProofs (disch := omega) only [go_sem, hb] <;> (repeat (with_reducible refine And.intro ?_ ?_; focus first | omega | rfl | assumption | exact ⟨_, rfl, rfl⟩ | (simp; omega) | (simp; done)))
  · exact bool_eq (dec_false (fun e => h (by rw [e]))).symm
  have eAssoc := h
  clear h
  refine call_w (eqSignatureS_ok x.fSignatures _ (by omega)) ?_
  simp -implicitDefEqProofs (disch := omega) only [go_sem]
  with_reducible refine split2 (fun hb => ?_) (fun hb => ?_) <;> have h := hb <;> (try simp only [wf_preprocess] at h) <;> simp -implicitDefEqProofs (disch := omega) only [go_sem, hb] <;> (repeat (with_reducible refine And.intro ?_ ?_; focus first | omega | rfl | assumption | exact ⟨_, rfl, rfl⟩ | (simp; omega) | (simp; done)))
  · exact bool_eq (dec_false (fun e => h (by rw [e]))).symm
  have eSignatures := h
  clear h
  exact bool_eq (dec_true (MTrait.ext' eName eSupertraits eAuto eAssoc eSignatures)).symm
theorem eqTraitS_ok (xs : List MTrait) : ∀ ys : List MTrait, xs.length + szRows (xs.map MTrait.enc) ≤ 1048576 → PCall Tryz.prog 87 [.c (.d (.sl (xs.map MTrait.enc))), .c (.d (.sl (ys.map MTrait.enc)))] (.c (.d (.b (dec (xs = ys))))) := by
  intro ys hsz S
  refine acall_cw (rs := [.tmp 4]) Tryz.checked.mixed Tryz.func87 Tryz.ntmps87 rfl rfl rfl rfl rfl ?_
  simp -implicitDefEqProofs (disch := omega) only [go_sem]
  with_reducible refine split2 (fun hb => ?_) (fun hb => ?_) <;> have h := hb <;> (try simp only [wf_preprocess] at h) <;> simp -implicitDefEqProofs (disch := omega) only [go_sem, hb] <;> (repeat (with_reducible refine And.intro ?_ ?_; focus first | omega | rfl | assumption | exact ⟨_, rfl, rfl⟩ | (simp; omega) | (simp; done)))
  · exact bool_eq (dec_false (fun e => h (by rw [e]))).symm
  have hl : xs.length = ys.length := by omega
  refine loop_at (ι := Nat) Tryz.checked.mixed rfl [0, 1, 5] (fun y => [.c (.d (.sl (xs.map MTrait.enc))), .c (.d (.sl (ys.map MTrait.enc))), .c (.d (.i .i64 y))]) (fun y => [] :: S)
    (fun i => i ≤ xs.length ∧ ∀ j, j < i → xs[j]? = ys[j]?) (fun y => xs.length - y) 0 rfl rfl ⟨Nat.zero_le _, fun j h => by omega⟩ ?_
  rintro i ⟨p1, p2⟩
  simp -implicitDefEqProofs (disch := omega) only [go_sem]
  with_reducible refine split2 (fun hb => ?_) (fun hb => ?_) <;> have h := hb <;> (try simp only [wf_preprocess] at h) <;> simp -implicitDefEqProofs (disch := omega) only [go_sem, hb] <;> (repeat (with_reducible refine And.intro ?_ ?_; focus first | omega | rfl | assumption | exact ⟨_, rfl, rfl⟩ | (simp; omega) | (simp; done)))
  · have hi : i < xs.length := by omega
    have hi' : i < ys.length := by omega
    have hx : xs[i].sz ≤ szRows (xs.map MTrait.enc) := szRows_mem (List.mem_map_of_mem (List.getElem_mem hi))
    (repeat (with_reducible refine And.intro ?_ ?_; focus first | omega | rfl | assumption | exact ⟨_, rfl, rfl⟩ | (simp; omega) | (simp; done)))
    refine call_w (eqTrait_ok xs[i] ys[i] (by omega)) ?_
    simp -implicitDefEqProofs (disch := omega) only [go_sem]
    with_reducible refine split2 (fun hb => ?_) (fun hb => ?_) <;> have h := hb <;> (try simp only [wf_preprocess] at h) <;> simp -implicitDefEqProofs (disch := omega) only [go_sem, hb] <;> (repeat (with_reducible refine And.intro ?_ ?_; focus first | omega | rfl | assumption | exact ⟨_, rfl, rfl⟩ | (simp; omega) | (simp; done)))
    · exact bool_eq (dec_false (fun e => h (by simp only [e]))).symm
    refine inv_at (i + 1) (by omega) rfl rfl ⟨by omega, fun j hj => ?_⟩
    by_cases e : j = i
    · subst e
      rw [List.getElem?_eq_getElem hi, List.getElem?_eq_getElem hi', h]
    · exact p2 j (by omega)
  · have hi : i = xs.length := by omega
    refine bool_eq (dec_true (List.ext_getElem? fun j => ?_)).symm
    by_cases hj : j < i
    · exact p2 j hj
    · rw [List.getElem?_eq_none (by omega), List.getElem?_eq_none (by omega)]
end Go.Proofs.YtnleocfkdidhoaaGreat

namespace Go.Ab
def zeroE : MExpr := .mk 0 [] [] 0 (.mk 0 [] []) [] []
def selfL : List (List UInt8) := [[115, 101, 108, 102]]
noncomputable def freeOk (vars : List (List UInt8)) (e : MExpr) : Bool := validExpr e && among (freeE e [] []) vars
noncomputable def bodyOk (vars : List (List UInt8)) (e : MExpr) : Bool := namesOk vars && freeOk vars e
noncomputable def boundOk (vars : List (List UInt8)) (b : MBound) : Bool := (validName b.fTrait && validType b.fType) && (!hasProj b.fType && among (tvars [] b.fType) vars)
noncomputable def boundsOk (vars : List (List UInt8)) (bs : List MBound) : Bool := dec (bs.length ≤ 4) && bs.all (boundOk vars)
noncomputable def sigOk (g : MSignature) : Bool :=
  validName g.fName && (dec (g.fParams.length ≤ 4) && (typesOver selfL g.fParams && (typeOver selfL g.fResult &&
    (if g.fHasDefault = true then dec (g.fVars.length = g.fParams.length + 1) && bodyOk g.fVars g.fBody else dec (g.fVars.length = 0) && dec (g.fBody = zeroE)))))
theorem mem_szT {xs : List MType} {t : MType} (h : t ∈ xs) : t.sz ≤ szRows (xs.map MType.enc) := szRows_mem (List.mem_map_of_mem h)
theorem mem_szB {xs : List MBound} {t : MBound} (h : t ∈ xs) : t.sz ≤ szRows (xs.map MBound.enc) := szRows_mem (List.mem_map_of_mem h)
theorem MSignature.sum (x : MSignature) : x.fName.length + (x.fParams.length + szRows (x.fParams.map MType.enc)) + x.fResult.sz + (x.fVars.length + szRows (x.fVars.map encS)) + x.fBody.sz ≤ x.sz := by
  simp only [MSignature.sz, MSignature.enc_eq, szRow, szRow_append, D.sz, List.length_map, MType.sz_def, MExpr.sz_def]
  omega
theorem MBound.sum (x : MBound) : x.fTrait.length + x.fType.sz ≤ x.sz := by
  simp only [MBound.sz, MBound.enc_eq, szRow, szRow_append, D.sz, List.length_map, MType.sz_def]
  omega
theorem free_len (e : MExpr) (h : e.sz ≤ 4194304) : (freeE e [] []).length ≤ 1073741824 := by
  have h1 := freeE_len e [] []
  have h2 := MExpr.cnt_le e
  simp at h1
  omega
theorem tvars_len0 (t : MType) (h : t.sz ≤ 4194304) : (tvars [] t).length ≤ 1073741824 := by
  have h1 := tvars_len t []
  have h2 := _root_.Go.Ab.cnt_le t
  simp at h1
  omega
theorem typeOver_eq (vars : List (List UInt8)) (t : MType) : typeOver vars t = (validType t && among (tvars [] t) vars) := rfl
end Go.Ab
namespace Go.Proofs.YtnleocfkdidhoaaGreat
open Go Go.Ab
theorem isBody_ok (vars : List (List UInt8)) (e : MExpr) (hv : vars.length ≤ 1073741824) (hs : ∀ s ∈ vars, s.length ≤ 4194304) (hsz : e.sz ≤ 4194304) : PCall Tryz.prog 163 [.c (.d (.sl (vars.map encS))), e.v] (.c (.d (.b (bodyOk vars e)))) := fun S => by
  refine acall_cw (rs := [.tmp 4]) Tryz.checked.mixed Tryz.func163 Tryz.ntmps163 rfl rfl rfl rfl rfl ?_
  simp -implicitDefEqProofs (disch := omega) only [go_sem]
  refine call_w (areNames_ok vars hv hs) ?_
  simp -implicitDefEqProofs (disch := omega) only [go_sem] <;> (repeat (with_reducible refine And.intro ?_ ?_; focus first | omega | rfl | assumption | exact ⟨_, rfl, rfl⟩ | (simp; omega) | (simp; done)))
  with_reducible refine split2 (fun hb => ?_) (fun hb => ?_) <;> have h := hb <;> (try simp only [wf_preprocess] at h) <;> simp -implicitDefEqProofs (disch := omega) only [go_sem, hb] <;> (repeat (with_reducible refine And.intro ?_ ?_; focus first | omega | rfl | assumption | exact ⟨_, rfl, rfl⟩ | (simp; omega) | (simp; done)))
  · have h1 := h
    refine call_w (implValidExpr_ok e hsz) ?_
    simp -implicitDefEqProofs (disch := omega) only [go_sem] <;> (repeat (with_reducible refine And.intro ?_ ?_; focus first | omega | rfl | assumption | exact ⟨_, rfl, rfl⟩ | (simp; omega) | (simp; done)))
    with_reducible refine split2 (fun hb => ?_) (fun hb => ?_) <;> have h := hb <;> (try simp only [wf_preprocess] at h) <;> simp -implicitDefEqProofs (disch := omega) only [go_sem, hb] <;> (repeat (with_reducible refine And.intro ?_ ?_; focus first | omega | rfl | assumption | exact ⟨_, rfl, rfl⟩ | (simp; omega) | (simp; done)))
    · have h2 := h
      refine call_w (implFreeVars_ok e hsz) ?_
      simp -implicitDefEqProofs (disch := omega) only [go_sem] <;> (repeat (with_reducible refine And.intro ?_ ?_; focus first | omega | rfl | assumption | exact ⟨_, rfl, rfl⟩ | (simp; omega) | (simp; done)))
      refine call_w (areAmong_ok _ vars (free_len e hsz) hv) ?_
      simp -implicitDefEqProofs (disch := omega) only [go_sem] <;> (repeat (with_reducible refine And.intro ?_ ?_; focus first | omega | rfl | assumption | exact ⟨_, rfl, rfl⟩ | (simp; omega) | (simp; done)))
      exact bool_eq (by unfold bodyOk freeOk; rw [h1, h2]; rfl)
    · exact bool_eq (by unfold bodyOk freeOk; rw [h]; simp)
  · exact bool_eq (by unfold bodyOk; rw [h]; rfl)
theorem l13Body_ok (vars : List (List UInt8)) (e : MExpr) (hv : vars.length ≤ 1073741824) (hsz : e.sz ≤ 4194304) : PCall Tryz.prog 218 [e.v, .c (.d (.sl (vars.map encS)))] (.c (.d (.b (freeOk vars e)))) := fun S => by
  have hlen := free_len e hsz
  refine acall_cw (rs := [.tmp 4]) Tryz.checked.mixed Tryz.func218 Tryz.ntmps218 rfl rfl rfl rfl rfl ?_
  simp -implicitDefEqProofs (disch := omega) only [go_sem]
  refine call_w (specFreeVars_ok e hsz) ?_
  simp -implicitDefEqProofs (disch := omega) only [go_sem] <;> (repeat (with_reducible refine And.intro ?_ ?_; focus first | omega | rfl | assumption | exact ⟨_, rfl, rfl⟩ | (simp; omega) | (simp; done)))
  unfold freeOk
  generalize freeE e [] [] = xs at hlen ⊢
  refine loop_at (ι := Nat) Tryz.checked.mixed rfl [1, 2, 5, 6] (fun i => [.c (.d (.sl (vars.map encS))), .c (.ptr (0, 0) 0), .c (.d (.sl (xs.map encS))), .c (.d (.i .i64 i))]) (fun _ => [.box (e.enc.map .d)] :: S)
    (fun i => i ≤ xs.length ∧ among (xs.drop i) vars = among xs vars) (fun i => xs.length - i) 0 rfl ?_ ⟨Nat.zero_le _, rfl⟩ ?_
  · simp -implicitDefEqProofs (disch := omega) only [go_sem]
  rintro i ⟨p1, p2⟩
  simp -implicitDefEqProofs (disch := omega) only [go_sem, encS]
  with_reducible refine split2 (fun hb => ?_) (fun hb => ?_) <;> have h := hb <;> (try simp only [wf_preprocess] at h) <;> simp -implicitDefEqProofs (disch := omega) only [go_sem, hb, encS] <;> (repeat (with_reducible refine And.intro ?_ ?_; focus first | omega | rfl | assumption | exact ⟨_, rfl, rfl⟩ | (simp; omega) | (simp; done)))
  · have hi : i < xs.length := by omega
    rw [List.drop_eq_getElem_cons hi] at p2
    have p3 : among xs vars = (dec (xs[i] ∈ vars) && among (xs.drop (i + 1)) vars) := p2.symm
    (repeat (with_reducible refine And.intro ?_ ?_; focus first | omega | rfl | assumption | exact ⟨_, rfl, rfl⟩ | (simp; omega) | (simp; done)))
    refine call_w (l1Has_ok vars xs[i] hv) ?_
    simp -implicitDefEqProofs (disch := omega) only [go_sem] <;> (repeat (with_reducible refine And.intro ?_ ?_; focus first | omega | rfl | assumption | exact ⟨_, rfl, rfl⟩ | (simp; omega) | (simp; done)))
    with_reducible refine split2 (fun hb => ?_) (fun hb => ?_) <;> have h := hb <;> (try simp only [wf_preprocess] at h) <;> simp -implicitDefEqProofs (disch := omega) only [go_sem, hb] <;> (repeat (with_reducible refine And.intro ?_ ?_; focus first | omega | rfl | assumption | exact ⟨_, rfl, rfl⟩ | (simp; omega) | (simp; done)))
    · exact bool_eq (by rw [p3, dec_false h]; simp)
    · exact inv_at (i + 1) (by omega) rfl rfl ⟨by omega, by rw [p3, dec_true h]; rfl⟩
  · rw [List.drop_of_length_le (by omega)] at p2
    have p3 : among xs vars = true := p2.symm
    (repeat (with_reducible refine And.intro ?_ ?_; focus first | omega | rfl | assumption | exact ⟨_, rfl, rfl⟩ | (simp; omega) | (simp; done)))
    refine call_w (specValidExpr_ok e hsz) ?_
    simp -implicitDefEqProofs (disch := omega) only [go_sem] <;> (repeat (with_reducible refine And.intro ?_ ?_; focus first | omega | rfl | assumption | exact ⟨_, rfl, rfl⟩ | (simp; omega) | (simp; done)))
    exact bool_eq (by rw [p3]; simp)
theorem areBounds1_pure (vars : List (List UInt8)) (hv : vars.length ≤ 1073741824) (rest : List Ab.Obj) (S : Store) (b : MBound) (hb : b.sz ≤ 4194304) : FPure Tryz.prog 233 [((0, 0), 0)] ((.box [.d (.sl (vars.map encS))] :: rest) :: S) [b.v] (.c (.d (.b (!boundOk vars b)))) := fun F => by
  have hs := MBound.sum b
  refine acall_cw (rs := [.tmp 3]) Tryz.checked.mixed Tryz.func233 Tryz.ntmps233 rfl rfl rfl rfl rfl ?_
  simp -implicitDefEqProofs (disch := omega) only [go_sem]
  refine call_w (implValidBound_ok b (by omega) (by omega)) ?_
  simp -implicitDefEqProofs (disch := omega) only [go_sem] <;> (repeat (with_reducible refine And.intro ?_ ?_; focus first | omega | rfl | assumption | exact ⟨_, rfl, rfl⟩ | (simp; omega) | (simp; done)))
  with_reducible refine split2 (fun hb => ?_) (fun hb => ?_) <;> have h := hb <;> (try simp only [wf_preprocess] at h) <;> simp -implicitDefEqProofs (disch := omega) only [go_sem, hb] <;> (repeat (with_reducible refine And.intro ?_ ?_; focus first | omega | rfl | assumption | exact ⟨_, rfl, rfl⟩ | (simp; omega) | (simp; done)))
  · exact bool_eq (by unfold boundOk; rw [h]; rfl)
  have h1 := h
  (repeat (with_reducible refine And.intro ?_ ?_; focus first | omega | rfl | assumption | exact ⟨_, rfl, rfl⟩ | (simp; omega) | (simp; done)))
  refine call_w (implHasProj_ok b.fType (by omega)) ?_
  simp -implicitDefEqProofs (disch := omega) only [go_sem] <;> (repeat (with_reducible refine And.intro ?_ ?_; focus first | omega | rfl | assumption | exact ⟨_, rfl, rfl⟩ | (simp; omega) | (simp; done)))
  with_reducible refine split2 (fun hb => ?_) (fun hb => ?_) <;> have h := hb <;> (try simp only [wf_preprocess] at h) <;> simp -implicitDefEqProofs (disch := omega) only [go_sem, hb] <;> (repeat (with_reducible refine And.intro ?_ ?_; focus first | omega | rfl | assumption | exact ⟨_, rfl, rfl⟩ | (simp; omega) | (simp; done)))
  · exact bool_eq (by unfold boundOk; rw [h]; simp)
  have h2 := h
  (repeat (with_reducible refine And.intro ?_ ?_; focus first | omega | rfl | assumption | exact ⟨_, rfl, rfl⟩ | (simp; omega) | (simp; done)))
  refine call_w (implTypeVars_ok b.fType (by omega)) ?_
  simp -implicitDefEqProofs (disch := omega) only [go_sem] <;> (repeat (with_reducible refine And.intro ?_ ?_; focus first | omega | rfl | assumption | exact ⟨_, rfl, rfl⟩ | (simp; omega) | (simp; done)))
  refine call_w (areAmong_ok _ vars (tvars_len0 _ (by omega)) hv) ?_
  simp -implicitDefEqProofs (disch := omega) only [go_sem] <;> (repeat (with_reducible refine And.intro ?_ ?_; focus first | omega | rfl | assumption | exact ⟨_, rfl, rfl⟩ | (simp; omega) | (simp; done)))
  exact bool_eq (by unfold boundOk; rw [h1, h2]; simp)
theorem areBounds_ok (bs : List MBound) (vars : List (List UInt8)) (hl : bs.length ≤ 1073741824) (hz : ∀ b ∈ bs, b.sz ≤ 4194304) (hv : vars.length ≤ 1073741824) : PCall Tryz.prog 161 [.c (.d (.sl (bs.map MBound.enc))), .c (.d (.sl (vars.map encS)))] (.c (.d (.b (boundsOk vars bs)))) := fun S => by
  have ha : (bs.any fun t => !boundOk vars t) = !bs.all (boundOk vars) := by rw [List.not_all_eq_any_not]
  refine acall_cw (rs := [.tmp 4]) Tryz.checked.mixed Tryz.func161 Tryz.ntmps161 rfl rfl rfl rfl rfl ?_
  simp -implicitDefEqProofs (disch := omega) only [go_sem]
  with_reducible refine split2 (fun hb => ?_) (fun hb => ?_) <;> have h := hb <;> (try simp only [wf_preprocess] at h) <;> simp -implicitDefEqProofs (disch := omega) only [go_sem, hb] <;> (repeat (with_reducible refine And.intro ?_ ?_; focus first | omega | rfl | assumption | exact ⟨_, rfl, rfl⟩ | (simp; omega) | (simp; done)))
  · have h1 := h
    (repeat (with_reducible refine And.intro ?_ ?_; focus first | omega | rfl | assumption | exact ⟨_, rfl, rfl⟩ | (simp; omega) | (simp; done)))
    refine call_d rfl (containsFuncBound_ok 233 [((0, 0), 0)] _ bs (fun t => !boundOk vars t) hl fun t hx => areBounds1_pure vars hv [] S t (hz t hx)) ?_
    simp -implicitDefEqProofs (disch := omega) only [go_sem]
    rw [ha]
    exact bool_eq (by unfold boundsOk; rw [dec_true (by omega)]; simp)
  · exact bool_eq (by unfold boundsOk; rw [dec_false (by omega)]; rfl)
theorem l13Where_ok (bs : List MBound) (vars : List (List UInt8)) (hl : bs.length ≤ 1073741824) (hz : ∀ b ∈ bs, b.sz ≤ 4194304) (hv : vars.length ≤ 1073741824) : PCall Tryz.prog 215 [.c (.d (.sl (bs.map MBound.enc))), .c (.d (.sl (vars.map encS)))] (.c (.d (.b (boundsOk vars bs)))) := fun S => by
  refine acall_cw (rs := [.tmp 4]) Tryz.checked.mixed Tryz.func215 Tryz.ntmps215 rfl rfl rfl rfl rfl ?_
  simp -implicitDefEqProofs (disch := omega) only [go_sem]
  refine loop_at (ι := Nat) Tryz.checked.mixed rfl [0, 1, 5] (fun i => [.c (.d (.sl (bs.map MBound.enc))), .c (.d (.sl (vars.map encS))), .c (.d (.i .i64 i))]) (fun _ => [] :: S)
    (fun i => i ≤ bs.length ∧ (bs.drop i).all (boundOk vars) = bs.all (boundOk vars)) (fun i => bs.length - i) 0 rfl rfl ⟨Nat.zero_le _, rfl⟩ ?_
  rintro i ⟨p1, p2⟩
  simp -implicitDefEqProofs (disch := omega) only [go_sem]
  with_reducible refine split2 (fun hb => ?_) (fun hb => ?_) <;> have h := hb <;> (try simp only [wf_preprocess] at h) <;> simp -implicitDefEqProofs (disch := omega) only [go_sem, hb] <;> (repeat (with_reducible refine And.intro ?_ ?_; focus first | omega | rfl | assumption | exact ⟨_, rfl, rfl⟩ | (simp; omega) | (simp; done)))
  · have hi : i < bs.length := by omega
    have hb := hz _ (List.getElem_mem hi)
    have hs := MBound.sum bs[i]
    rw [List.drop_eq_getElem_cons hi, List.all_cons] at p2
    have no : boundOk vars bs[i] = false → V.c (.d (.b false)) = V.c (.d (.b (boundsOk vars bs))) := fun h => bool_eq (by unfold boundsOk; rw [← p2, h]; simp)
    (repeat (with_reducible refine And.intro ?_ ?_; focus first | omega | rfl | assumption | exact ⟨_, rfl, rfl⟩ | (simp; omega) | (simp; done)))
    refine call_w (specValidBound_ok bs[i] (by omega) (by omega)) ?_
    simp -implicitDefEqProofs (disch := omega) only [go_sem] <;> (repeat (with_reducible refine And.intro ?_ ?_; focus first | omega | rfl | assumption | exact ⟨_, rfl, rfl⟩ | (simp; omega) | (simp; done)))
    with_reducible refine split2 (fun hb => ?_) (fun hb => ?_) <;> have h := hb <;> (try simp only [wf_preprocess] at h) <;> simp -implicitDefEqProofs (disch := omega) only [go_sem, hb] <;> (repeat (with_reducible refine And.intro ?_ ?_; focus first | omega | rfl | assumption | exact ⟨_, rfl, rfl⟩ | (simp; omega) | (simp; done)))
    · exact no (by unfold boundOk; rw [h]; rfl)
    have h1 := h
    (repeat (with_reducible refine And.intro ?_ ?_; focus first | omega | rfl | assumption | exact ⟨_, rfl, rfl⟩ | (simp; omega) | (simp; done)))
    refine call_w (l13Vars_ok bs[i].fType vars (by omega) hv) ?_
    simp -implicitDefEqProofs (disch := omega) only [go_sem] <;> (repeat (with_reducible refine And.intro ?_ ?_; focus first | omega | rfl | assumption | exact ⟨_, rfl, rfl⟩ | (simp; omega) | (simp; done)))
    with_reducible refine split2 (fun hb => ?_) (fun hb => ?_) <;> have h := hb <;> (try simp only [wf_preprocess] at h) <;> simp -implicitDefEqProofs (disch := omega) only [go_sem, hb] <;> (repeat (with_reducible refine And.intro ?_ ?_; focus first | omega | rfl | assumption | exact ⟨_, rfl, rfl⟩ | (simp; omega) | (simp; done)))
    · exact no (by unfold boundOk; rw [typeOver_eq] at h; rw [Bool.and_eq_true] at h1; rw [h1.2, Bool.true_and] at h; rw [h]; simp)
    have h2 := h
    (repeat (with_reducible refine And.intro ?_ ?_; focus first | omega | rfl | assumption | exact ⟨_, rfl, rfl⟩ | (simp; omega) | (simp; done)))
    refine call_w (specHasProj_ok bs[i].fType (by omega)) ?_
    simp -implicitDefEqProofs (disch := omega) only [go_sem] <;> (repeat (with_reducible refine And.intro ?_ ?_; focus first | omega | rfl | assumption | exact ⟨_, rfl, rfl⟩ | (simp; omega) | (simp; done)))
    with_reducible refine split2 (fun hb => ?_) (fun hb => ?_) <;> have h := hb <;> (try simp only [wf_preprocess] at h) <;> simp -implicitDefEqProofs (disch := omega) only [go_sem, hb] <;> (repeat (with_reducible refine And.intro ?_ ?_; focus first | omega | rfl | assumption | exact ⟨_, rfl, rfl⟩ | (simp; omega) | (simp; done)))
    · exact no (by unfold boundOk; rw [h]; simp)
    have h3 := h
    rw [typeOver_eq, Bool.and_eq_true] at h2
    exact inv_at (i + 1) (by omega) rfl rfl ⟨by omega, by rw [← p2]; unfold boundOk; rw [h1, h2.2, h3]; rfl⟩
  · rw [List.drop_of_length_le (by omega)] at p2
    exact bool_eq (by unfold boundsOk; rw [← p2, decide_dec]; simp only [List.all_nil, Bool.and_true]; exact dec_congr ⟨fun h => by omega, fun h => by omega⟩)
theorem isZeroExpr_ok (e : MExpr) (hsz : e.sz ≤ 4194304) : PCall Tryz.prog 225 [e.v] (.c (.d (.b (dec (e = zeroE))))) := fun S => by
  refine acall_cw (rs := [.tmp 2]) Tryz.checked.mixed Tryz.func225 Tryz.ntmps225 rfl rfl rfl rfl rfl ?_
  simp -implicitDefEqProofs (disch := omega) only [go_sem]
  refine call_w (implEqualExpr_ok e zeroE hsz) ?_
  simp -implicitDefEqProofs (disch := omega) only [go_sem]
theorem l13None_ok (e : MExpr) (hsz : e.sz ≤ 4194304) : PCall Tryz.prog 257 [e.v] (.c (.d (.b (dec (e = zeroE))))) := fun S => by
  refine acall_cw (rs := [.tmp 2]) Tryz.checked.mixed Tryz.func257 Tryz.ntmps257 rfl rfl rfl rfl rfl ?_
  simp -implicitDefEqProofs (disch := omega) only [go_sem]
  refine call_w (specEqualExpr_ok e zeroE hsz) ?_
  simp -implicitDefEqProofs (disch := omega) only [go_sem]
theorem isSignature_ok (g : MSignature) (hsz : g.sz ≤ 4194304) : PCall Tryz.prog 156 [g.v] (.c (.d (.b (sigOk g)))) := fun S => by
  have hs := MSignature.sum g
  have hT : ∀ t ∈ g.fParams, t.sz ≤ 4194304 := fun t ht => by have := mem_szT ht; omega
  have hV : ∀ s ∈ g.fVars, s.length ≤ 4194304 := fun s h => by have := strs_b h; omega
  refine acall_cw (rs := [.tmp 2]) Tryz.checked.mixed Tryz.func156 Tryz.ntmps156 rfl rfl rfl rfl rfl ?_
  simp -implicitDefEqProofs (disch := omega) only [go_sem]
  refine call_w (implValidName_ok g.fName (by omega)) ?_
  simp -implicitDefEqProofs (disch := omega) only [go_sem] <;> (repeat (with_reducible refine And.intro ?_ ?_; focus first | omega | rfl | assumption | exact ⟨_, rfl, rfl⟩ | (simp; omega) | (simp; done)))
  with_reducible refine split2 (fun hb => ?_) (fun hb => ?_) <;> have h := hb <;> (try simp only [wf_preprocess] at h) <;> simp -implicitDefEqProofs (disch := omega) only [go_sem, hb] <;> (repeat (with_reducible refine And.intro ?_ ?_; focus first | omega | rfl | assumption | exact ⟨_, rfl, rfl⟩ | (simp; omega) | (simp; done)))
  · exact bool_eq (by unfold sigOk; rw [h]; rfl)
  have h1 := h
  with_reducible refine split2 (fun hb => ?_) (fun hb => ?_) <;> have h := hb <;> (try simp only [wf_preprocess] at h) <;> simp -implicitDefEqProofs (disch := omega) only [go_sem, hb] <;> (repeat (with_reducible refine And.intro ?_ ?_; focus first | omega | rfl | assumption | exact ⟨_, rfl, rfl⟩ | (simp; omega) | (simp; done)))
  · exact bool_eq (by unfold sigOk; rw [dec_false (show ¬ g.fParams.length ≤ 4 by omega)]; simp)
  have h2 := h
  (repeat (with_reducible refine And.intro ?_ ?_; focus first | omega | rfl | assumption | exact ⟨_, rfl, rfl⟩ | (simp; omega) | (simp; done)))
  refine call_w (areTypesOver_ok g.fParams selfL (by omega) hT (by decide)) ?_
  simp -implicitDefEqProofs (disch := omega) only [go_sem]
  with_reducible refine split2 (fun hb => ?_) (fun hb => ?_) <;> have h := hb <;> (try simp only [wf_preprocess] at h) <;> simp -implicitDefEqProofs (disch := omega) only [go_sem, hb] <;> (repeat (with_reducible refine And.intro ?_ ?_; focus first | omega | rfl | assumption | exact ⟨_, rfl, rfl⟩ | (simp; omega) | (simp; done)))
  · exact bool_eq (by unfold sigOk; rw [h]; simp)
  have h3 := h
  (repeat (with_reducible refine And.intro ?_ ?_; focus first | omega | rfl | assumption | exact ⟨_, rfl, rfl⟩ | (simp; omega) | (simp; done)))
  refine call_w (isTypeOver_ok g.fResult selfL (by omega) (by decide)) ?_
  simp -implicitDefEqProofs (disch := omega) only [go_sem]
  with_reducible refine split2 (fun hb => ?_) (fun hb => ?_) <;> have h := hb <;> (try simp only [wf_preprocess] at h) <;> simp -implicitDefEqProofs (disch := omega) only [go_sem, hb] <;> (repeat (with_reducible refine And.intro ?_ ?_; focus first | omega | rfl | assumption | exact ⟨_, rfl, rfl⟩ | (simp; omega) | (simp; done)))
  · exact bool_eq (by unfold sigOk; rw [h]; simp)
  have h4 := h
  with_reducible refine split2 (fun hb => ?_) (fun hb => ?_) <;> have h := hb <;> (try simp only [wf_preprocess] at h) <;> simp -implicitDefEqProofs (disch := omega) only [go_sem, hb] <;> (repeat (with_reducible refine And.intro ?_ ?_; focus first | omega | rfl | assumption | exact ⟨_, rfl, rfl⟩ | (simp; omega) | (simp; done)))
  · have h5 := h
    with_reducible refine split2 (fun hb => ?_) (fun hb => ?_) <;> have h := hb <;> (try simp only [wf_preprocess] at h) <;> simp -implicitDefEqProofs (disch := omega) only [go_sem, hb] <;> (repeat (with_reducible refine And.intro ?_ ?_; focus first | omega | rfl | assumption | exact ⟨_, rfl, rfl⟩ | (simp; omega) | (simp; done)))
    · have h6 := h
      refine call_w (isBody_ok g.fVars g.fBody (by omega) hV (by omega)) ?_
      simp -implicitDefEqProofs (disch := omega) only [go_sem] <;> (repeat (with_reducible refine And.intro ?_ ?_; focus first | omega | rfl | assumption | exact ⟨_, rfl, rfl⟩ | (simp; omega) | (simp; done)))
      exact bool_eq (by unfold sigOk; rw [h1, h3, h4, if_pos h5, dec_true (show g.fParams.length ≤ 4 by omega), dec_true (show g.fVars.length = g.fParams.length + 1 by omega)]; rfl)
    · exact bool_eq (by unfold sigOk; rw [if_pos h5, dec_false (show ¬ g.fVars.length = g.fParams.length + 1 by omega)]; simp)
  · have h5 : ¬ g.fHasDefault = true := by rw [h]; simp
    with_reducible refine split2 (fun hb => ?_) (fun hb => ?_) <;> have h := hb <;> (try simp only [wf_preprocess] at h) <;> simp -implicitDefEqProofs (disch := omega) only [go_sem, hb] <;> (repeat (with_reducible refine And.intro ?_ ?_; focus first | omega | rfl | assumption | exact ⟨_, rfl, rfl⟩ | (simp; omega) | (simp; done)))
    · refine call_w (isZeroExpr_ok g.fBody (by omega)) ?_
      simp -implicitDefEqProofs (disch := omega) only [go_sem] <;> (repeat (with_reducible refine And.intro ?_ ?_; focus first | omega | rfl | assumption | exact ⟨_, rfl, rfl⟩ | (simp; omega) | (simp; done)))
      exact bool_eq (by unfold sigOk; rw [h1, h3, h4, if_neg h5, dec_true (show g.fParams.length ≤ 4 by omega), dec_true (show g.fVars.length = 0 by omega)]; rfl)
    · exact bool_eq (by unfold sigOk; rw [if_neg h5, dec_false (show ¬ g.fVars.length = 0 by omega)]; simp)
theorem l13Sig_ok (g : MSignature) (hsz : g.sz ≤ 4194304) : PCall Tryz.prog 211 [g.v] (.c (.d (.b (sigOk g)))) := fun S => by
  have hs := MSignature.sum g
  have hT : ∀ t ∈ g.fParams, t.sz ≤ 4194304 := fun t ht => by have := mem_szT ht; omega
  have hV : ∀ s ∈ g.fVars, s.length ≤ 4194304 := fun s h => by have := strs_b h; omega
  refine acall_cw (rs := [.tmp 2]) Tryz.checked.mixed Tryz.func211 Tryz.ntmps211 rfl rfl rfl rfl rfl ?_
  simp -implicitDefEqProofs (disch := omega) only [go_sem]
  refine call_w (specValidName_ok g.fName (by omega)) ?_
  simp -implicitDefEqProofs (disch := omega) only [go_sem] <;> (repeat (with_reducible refine And.intro ?_ ?_; focus first | omega | rfl | assumption | exact ⟨_, rfl, rfl⟩ | (simp; omega) | (simp; done)))
  with_reducible refine split2 (fun hb => ?_) (fun hb => ?_) <;> have h := hb <;> (try simp only [wf_preprocess] at h) <;> simp -implicitDefEqProofs (disch := omega) only [go_sem, hb] <;> (repeat (with_reducible refine And.intro ?_ ?_; focus first | omega | rfl | assumption | exact ⟨_, rfl, rfl⟩ | (simp; omega) | (simp; done)))
  · exact bool_eq (by unfold sigOk; rw [h]; rfl)
  have h1 := h
  with_reducible refine split2 (fun hb => ?_) (fun hb => ?_) <;> have h := hb <;> (try simp only [wf_preprocess] at h) <;> simp -implicitDefEqProofs (disch := omega) only [go_sem, hb] <;> (repeat (with_reducible refine And.intro ?_ ?_; focus first | omega | rfl | assumption | exact ⟨_, rfl, rfl⟩ | (simp; omega) | (simp; done)))
  · exact bool_eq (by unfold sigOk; rw [dec_false (show ¬ g.fParams.length ≤ 4 by omega)]; simp)
  have h2 := h
  (repeat (with_reducible refine And.intro ?_ ?_; focus first | omega | rfl | assumption | exact ⟨_, rfl, rfl⟩ | (simp; omega) | (simp; done)))
  refine call_w (l13All_ok g.fParams selfL (by omega) hT (by decide)) ?_
  simp -implicitDefEqProofs (disch := omega) only [go_sem]
  with_reducible refine split2 (fun hb => ?_) (fun hb => ?_) <;> have h := hb <;> (try simp only [wf_preprocess] at h) <;> simp -implicitDefEqProofs (disch := omega) only [go_sem, hb] <;> (repeat (with_reducible refine And.intro ?_ ?_; focus first | omega | rfl | assumption | exact ⟨_, rfl, rfl⟩ | (simp; omega) | (simp; done)))
  · exact bool_eq (by unfold sigOk; rw [h]; simp)
  have h3 := h
  (repeat (with_reducible refine And.intro ?_ ?_; focus first | omega | rfl | assumption | exact ⟨_, rfl, rfl⟩ | (simp; omega) | (simp; done)))
  refine call_w (l13Vars_ok g.fResult selfL (by omega) (by decide)) ?_
  simp -implicitDefEqProofs (disch := omega) only [go_sem]
  with_reducible refine split2 (fun hb => ?_) (fun hb => ?_) <;> have h := hb <;> (try simp only [wf_preprocess] at h) <;> simp -implicitDefEqProofs (disch := omega) only [go_sem, hb] <;> (repeat (with_reducible refine And.intro ?_ ?_; focus first | omega | rfl | assumption | exact ⟨_, rfl, rfl⟩ | (simp; omega) | (simp; done)))
  · exact bool_eq (by unfold sigOk; rw [h]; simp)
  have h4 := h
  with_reducible refine split2 (fun hb => ?_) (fun hb => ?_) <;> have h := hb <;> (try simp only [wf_preprocess] at h) <;> simp -implicitDefEqProofs (disch := omega) only [go_sem, hb] <;> (repeat (with_reducible refine And.intro ?_ ?_; focus first | omega | rfl | assumption | exact ⟨_, rfl, rfl⟩ | (simp; omega) | (simp; done)))
  · have h5 : ¬ g.fHasDefault = true := by rw [h]; simp
    with_reducible refine split2 (fun hb => ?_) (fun hb => ?_) <;> have h := hb <;> (try simp only [wf_preprocess] at h) <;> simp -implicitDefEqProofs (disch := omega) only [go_sem, hb] <;> (repeat (with_reducible refine And.intro ?_ ?_; focus first | omega | rfl | assumption | exact ⟨_, rfl, rfl⟩ | (simp; omega) | (simp; done)))
    · refine call_w (l13None_ok g.fBody (by omega)) ?_
      simp -implicitDefEqProofs (disch := omega) only [go_sem] <;> (repeat (with_reducible refine And.intro ?_ ?_; focus first | omega | rfl | assumption | exact ⟨_, rfl, rfl⟩ | (simp; omega) | (simp; done)))
      exact bool_eq (by unfold sigOk; rw [h1, h3, h4, if_neg h5, dec_true (show g.fParams.length ≤ 4 by omega), dec_true (show g.fVars.length = 0 by omega)]; rfl)
    · exact bool_eq (by unfold sigOk; rw [if_neg h5, dec_false (show ¬ g.fVars.length = 0 by omega)]; simp)
  · have h5 := h
    refine call_w (l13Words_ok g.fVars 5 (by omega) hV) ?_
    simp -implicitDefEqProofs (disch := omega) only [go_sem] <;> (repeat (with_reducible refine And.intro ?_ ?_; focus first | omega | rfl | assumption | exact ⟨_, rfl, rfl⟩ | (simp; omega) | (simp; done)))
    with_reducible refine split2 (fun hb => ?_) (fun hb => ?_) <;> have h := hb <;> (try simp only [wf_preprocess] at h) <;> simp -implicitDefEqProofs (disch := omega) only [go_sem, hb] <;> (repeat (with_reducible refine And.intro ?_ ?_; focus first | omega | rfl | assumption | exact ⟨_, rfl, rfl⟩ | (simp; omega) | (simp; done)))
    · have h6 := h
      rw [Bool.and_eq_true] at h6
      with_reducible refine split2 (fun hb => ?_) (fun hb => ?_) <;> have h := hb <;> (try simp only [wf_preprocess] at h) <;> simp -implicitDefEqProofs (disch := omega) only [go_sem, hb] <;> (repeat (with_reducible refine And.intro ?_ ?_; focus first | omega | rfl | assumption | exact ⟨_, rfl, rfl⟩ | (simp; omega) | (simp; done)))
      · refine call_w (l13Body_ok g.fVars g.fBody (by omega) (by omega)) ?_
        simp -implicitDefEqProofs (disch := omega) only [go_sem] <;> (repeat (with_reducible refine And.intro ?_ ?_; focus first | omega | rfl | assumption | exact ⟨_, rfl, rfl⟩ | (simp; omega) | (simp; done)))
        exact bool_eq (by unfold sigOk bodyOk; rw [h1, h3, h4, if_pos h5, h6.2, dec_true (show g.fParams.length ≤ 4 by omega), dec_true (show g.fVars.length = g.fParams.length + 1 by omega)]; rfl)
      · exact bool_eq (by unfold sigOk; rw [if_pos h5, dec_false (show ¬ g.fVars.length = g.fParams.length + 1 by omega)]; simp)
    · refine bool_eq ?_
      by_cases h7 : g.fVars.length = g.fParams.length + 1
      · rw [dec_true (by omega), Bool.true_and] at h
        unfold sigOk bodyOk; rw [if_pos h5, h]; simp
      · unfold sigOk; rw [if_pos h5, dec_false h7]; simp
end Go.Proofs.YtnleocfkdidhoaaGreat

namespace Go.Ab
noncomputable def sigNames (t : MTrait) : List (List UInt8) := t.fSignatures.map MSignature.fName
noncomputable def autoBad (t : MTrait) : Prop := t.fAuto = true ∧ (t.fAssoc = true ∨ 0 < t.fSignatures.length ∨ 0 < t.fSupertraits.length)
noncomputable def validTrait (t : MTrait) : Bool :=
  validName t.fName && (dec (t.fSupertraits.length ≤ 4) && (namesOk t.fSupertraits && (dec (t.fSignatures.length ≤ 6) && (!dec (autoBad t) && (t.fSignatures.all sigOk && dec (sigNames t).Nodup)))))
theorem MTrait.sum (x : MTrait) : x.fName.length + (x.fSupertraits.length + szRows (x.fSupertraits.map encS)) + (x.fSignatures.length + szRows (x.fSignatures.map MSignature.enc)) ≤ x.sz := by
  simp only [MTrait.sz, MTrait.enc_eq, szRow, szRow_append, D.sz, List.length_map]
  omega
theorem mem_szG {xs : List MSignature} {t : MSignature} (h : t ∈ xs) : t.sz ≤ szRows (xs.map MSignature.enc) := szRows_mem (List.mem_map_of_mem h)
theorem sigOk_name {g : MSignature} (h : sigOk g = true) : validName g.fName = true := by
  unfold sigOk at h
  rw [Bool.and_eq_true] at h
  exact h.1
theorem names_valid {t : MTrait} (h : t.fSignatures.all sigOk = true) : (sigNames t).all validName = true := by
  unfold sigNames
  rw [List.all_map]
  refine List.all_eq_true.2 fun g hg => sigOk_name (List.all_eq_true.1 h g hg)
end Go.Ab
namespace Go.Proofs.YtnleocfkdidhoaaGreat
open Go Go.Ab
theorem implValidTrait_ok (t : MTrait) (hsz : t.sz ≤ 4194304) : PCall Tryz.prog 82 [t.v] (.c (.d (.b (validTrait t)))) := fun S => by
  have hs := MTrait.sum t
  have hV : ∀ s ∈ t.fSupertraits, s.length ≤ 4194304 := fun s h => by have := strs_b h; omega
  have hG : ∀ g ∈ t.fSignatures, g.sz ≤ 4194304 := fun g h => by have := mem_szG h; omega
  refine (show Hold ((validName t.fName = true ∧ t.fSupertraits.length ≤ 4 ∧ namesOk t.fSupertraits = true ∧ t.fSignatures.length ≤ 6 ∧ ¬ autoBad t) → ?T) → _ from fun tail => ?main) ?tp
  case' main =>
    refine acall_cw (rs := [.tmp 2]) Tryz.checked.mixed Tryz.func82 Tryz.ntmps82 rfl rfl rfl rfl rfl ?_
    simp -implicitDefEqProofs (disch := omega) only [go_sem]
    refine call_w (implValidName_ok t.fName (by omega)) ?_
    simp -implicitDefEqProofs (disch := omega) only [go_sem] <;> (repeat (with_reducible refine And.intro ?_ ?_; focus first | omega | rfl | assumption | exact ⟨_, rfl, rfl⟩ | (simp; omega) | (simp; done)))
    with_reducible refine split2 (fun hb => ?_) (fun hb => ?_) <;> have h := hb <;> (try simp only [wf_preprocess] at h) <;> simp -implicitDefEqProofs (disch := omega) only [go_sem, hb] <;> (repeat (with_reducible refine And.intro ?_ ?_; focus first | omega | rfl | assumption | exact ⟨_, rfl, rfl⟩ | (simp; omega) | (simp; done)))
    · exact bool_eq (by unfold validTrait; rw [h]; rfl)
    have h1 := h
    with_reducible refine split2 (fun hb => ?_) (fun hb => ?_) <;> have h := hb <;> (try simp only [wf_preprocess] at h) <;> simp -implicitDefEqProofs (disch := omega) only [go_sem, hb] <;> (repeat (with_reducible refine And.intro ?_ ?_; focus first | omega | rfl | assumption | exact ⟨_, rfl, rfl⟩ | (simp; omega) | (simp; done)))
    · exact bool_eq (by unfold validTrait; rw [dec_false (show ¬ t.fSupertraits.length ≤ 4 by omega)]; simp)
    have h2 := h
    (repeat (with_reducible refine And.intro ?_ ?_; focus first | omega | rfl | assumption | exact ⟨_, rfl, rfl⟩ | (simp; omega) | (simp; done)))
    refine call_w (areNames_ok t.fSupertraits (by omega) hV) ?_
    simp -implicitDefEqProofs (disch := omega) only [go_sem] <;> (repeat (with_reducible refine And.intro ?_ ?_; focus first | omega | rfl | assumption | exact ⟨_, rfl, rfl⟩ | (simp; omega) | (simp; done)))
    with_reducible refine split2 (fun hb => ?_) (fun hb => ?_) <;> have h := hb <;> (try simp only [wf_preprocess] at h) <;> simp -implicitDefEqProofs (disch := omega) only [go_sem, hb] <;> (repeat (with_reducible refine And.intro ?_ ?_; focus first | omega | rfl | assumption | exact ⟨_, rfl, rfl⟩ | (simp; omega) | (simp; done)))
    · exact bool_eq (by unfold validTrait; rw [h]; simp)
    have h3 := h
    with_reducible refine split2 (fun hb => ?_) (fun hb => ?_) <;> have h := hb <;> (try simp only [wf_preprocess] at h) <;> simp -implicitDefEqProofs (disch := omega) only [go_sem, hb] <;> (repeat (with_reducible refine And.intro ?_ ?_; focus first | omega | rfl | assumption | exact ⟨_, rfl, rfl⟩ | (simp; omega) | (simp; done)))
    · exact bool_eq (by unfold validTrait; rw [dec_false (show ¬ t.fSignatures.length ≤ 6 by omega)]; simp)
    have h4 := h
    have bad : autoBad t → V.c (.d (.b false)) = V.c (.d (.b (validTrait t))) := fun h => bool_eq (by unfold validTrait; rw [dec_true h]; simp)
    have pre : ¬ autoBad t → (validName t.fName = true ∧ t.fSupertraits.length ≤ 4 ∧ namesOk t.fSupertraits = true ∧ t.fSignatures.length ≤ 6 ∧ ¬ autoBad t) := fun h => ⟨h1, by omega, h3, by omega, h⟩
    repeat' (first | with_reducible refine split2 (fun hb => ?_) (fun hb => ?_) <;> have h := hb <;> (try simp only [wf_preprocess] at h) <;> simp -implicitDefEqProofs (disch := omega) only [go_sem, hb] <;> (repeat (with_reducible refine And.intro ?_ ?_; focus first | omega | rfl | assumption | exact ⟨_, rfl, rfl⟩ | (simp; omega) | (simp; done))))
    all_goals first
      | (refine bad ⟨by assumption, ?_⟩; first | exact .inl (by assumption) | exact .inr (.inl (by omega)) | exact .inr (.inr (by omega)))
      | skip
    all_goals
      have na : ¬ autoBad t := fun x => by
        obtain ⟨x1, x2⟩ := x
        rcases x2 with x2 | x2 | x2 <;> first | omega | simp_all
      (repeat (with_reducible refine And.intro ?_ ?_; focus first | omega | rfl | assumption | exact ⟨_, rfl, rfl⟩ | (simp; omega) | (simp; done)))
      refine aw_tok 3 1 [] rfl (by simp) ?_
      refine aw_canon (st' := [.box (t.enc.map .d), .tok 1 []] :: S) [3, 48, 49, 50] [.c (.tsl (0, 1) []), .c (.d (.sl (t.fSignatures.map MSignature.enc))), .c (.d (.i .i64 t.fSignatures.length)), .c (.d (.i .i64 0))] ?_ ?_ ?_
      · rfl
      · first | (simp -implicitDefEqProofs (disch := omega) only [go_sem]; done) | (simp -implicitDefEqProofs (disch := omega) only [go_sem]; simp [*])
      · exact tail.out (pre na)
  refine ⟨fun hp => ?_⟩
  obtain ⟨h1, h2, h3, h4, h5⟩ := hp
  have bad : ∀ i, ∀ hi : i < t.fSignatures.length, sigOk t.fSignatures[i] = false → validTrait t = false := fun i hi h => by
    have : t.fSignatures.all sigOk = false := Bool.eq_false_iff.2 fun hx => by
      rw [List.all_eq_true.1 hx _ (List.getElem_mem hi)] at h; cases h
    unfold validTrait
    rw [this]; simp
  refine loop_at (ι := Nat × List (List UInt8)) Tryz.checked.mixed rfl [3, 48, 49, 50] (fun y => [.c (.tsl (0, 1) (y.2.map encS)), .c (.d (.sl (t.fSignatures.map MSignature.enc))), .c (.d (.i .i64 t.fSignatures.length)), .c (.d (.i .i64 y.1))]) (fun y => [.box (t.enc.map .d), .tok 1 (y.2.map encS)] :: S)
    (fun y => y.1 ≤ t.fSignatures.length ∧ y.2 = (sigNames t).take y.1 ∧ ∀ j, ∀ hj : j < t.fSignatures.length, j < y.1 → sigOk t.fSignatures[j] = true) (fun y => t.fSignatures.length - y.1) (0, []) rfl ?_ ⟨Nat.zero_le _, rfl, fun j _ h => by simp only at h; omega⟩ ?_
  · simp -implicitDefEqProofs (disch := omega) only [go_sem]
  rintro ⟨i, names⟩ ⟨p1, p2, p3⟩
  simp only at p1 p2 p3
  have pl : names.length ≤ t.fSignatures.length := by rw [p2]; simp [sigNames]; omega
  simp -implicitDefEqProofs (disch := omega) only [go_sem]
  with_reducible refine split2 (fun hb => ?_) (fun hb => ?_) <;> have h := hb <;> (try simp only [wf_preprocess] at h) <;> simp -implicitDefEqProofs (disch := omega) only [go_sem, hb] <;> (repeat (with_reducible refine And.intro ?_ ?_; focus first | omega | rfl | assumption | exact ⟨_, rfl, rfl⟩ | (simp; omega) | (simp; done)))
  · have hi : i < t.fSignatures.length := by omega
    (repeat (with_reducible refine And.intro ?_ ?_; focus first | omega | rfl | assumption | exact ⟨_, rfl, rfl⟩ | (simp; omega) | (simp; done)))
    refine call_w (isSignature_ok t.fSignatures[i] (hG _ (List.getElem_mem hi))) ?_
    simp -implicitDefEqProofs (disch := omega) only [go_sem] <;> (repeat (with_reducible refine And.intro ?_ ?_; focus first | omega | rfl | assumption | exact ⟨_, rfl, rfl⟩ | (simp; omega) | (simp; done)))
    with_reducible refine split2 (fun hb => ?_) (fun hb => ?_) <;> have h := hb <;> (try simp only [wf_preprocess] at h) <;> simp -implicitDefEqProofs (disch := omega) only [go_sem, hb] <;> (repeat (with_reducible refine And.intro ?_ ?_; focus first | omega | rfl | assumption | exact ⟨_, rfl, rfl⟩ | (simp; omega) | (simp; done)))
    · rw [bad i hi h]
    have k2 := h
    (repeat (with_reducible refine And.intro ?_ ?_; focus first | omega | rfl | assumption | exact ⟨_, rfl, rfl⟩ | (simp; omega) | (simp; done)))
    rw [show List.map encS names ++ [[D.s t.fSignatures[i].fName]] = List.map encS (names ++ [t.fSignatures[i].fName]) by simp [encS]]
    exact inv_drop 2 (by decide) (i + 1, names ++ [t.fSignatures[i].fName]) (by simp only; omega) rfl rfl rfl rfl ⟨by simp only; omega, by simp only; rw [p2, take_snoc (by simpa [sigNames] using hi)]; simp [sigNames], fun j hj hji => by
      simp only at hji
      by_cases e : j = i
      · subst e; exact k2
      · exact p3 j hj (by omega)⟩
  have hi : i = t.fSignatures.length := by omega
  have hn : names = sigNames t := by rw [p2, List.take_of_length_le (by simp [sigNames]; omega)]
  have hall : t.fSignatures.all sigOk = true := List.all_eq_true.2 fun c hc => by
    obtain ⟨j, hj, e⟩ := List.getElem_of_mem hc
    rw [← e]; exact p3 j hj (by omega)
  refine call_w (implDistinct_ok names (by omega)) ?_
  simp -implicitDefEqProofs (disch := omega) only [go_sem] <;> (repeat (with_reducible refine And.intro ?_ ?_; focus first | omega | rfl | assumption | exact ⟨_, rfl, rfl⟩ | (simp; omega) | (simp; done)))
  exact bool_eq (by unfold validTrait; rw [h1, h3, hall, ← hn, dec_true h2, dec_true h4, dec_false h5]; simp)
theorem specValidTrait_ok (t : MTrait) (hsz : t.sz ≤ 4194304) : PCall Tryz.prog 141 [t.v] (.c (.d (.b (validTrait t)))) := fun S => by
  have hs := MTrait.sum t
  have hV : ∀ s ∈ t.fSupertraits, s.length ≤ 4194304 := fun s h => by have := strs_b h; omega
  have hG : ∀ g ∈ t.fSignatures, g.sz ≤ 4194304 := fun g h => by have := mem_szG h; omega
  have bad : ∀ i, ∀ hi : i < t.fSignatures.length, sigOk t.fSignatures[i] = false → validTrait t = false := fun i hi h => by
    have : t.fSignatures.all sigOk = false := Bool.eq_false_iff.2 fun hx => by
      rw [List.all_eq_true.1 hx _ (List.getElem_mem hi)] at h; cases h
    unfold validTrait
    rw [this]; simp
  have badA : autoBad t → V.c (.d (.b false)) = V.c (.d (.b (validTrait t))) := fun h => bool_eq (by unfold validTrait; rw [dec_true h]; simp)
  refine acall_cw (rs := [.tmp 2]) Tryz.checked.mixed Tryz.func141 Tryz.ntmps141 rfl rfl rfl rfl rfl ?_
  simp -implicitDefEqProofs (disch := omega) only [go_sem]
  (repeat (with_reducible refine And.intro ?_ ?_; focus first | omega | rfl | assumption | exact ⟨_, rfl, rfl⟩ | (simp; omega) | (simp; done)))
  refine aw_tok 3 1 [] rfl (by simp) ?_
  refine loop_at (ι := Nat × List (List UInt8)) Tryz.checked.mixed rfl [1, 3, 4] (fun y => [.c (.ptr (0, 0) 0), .c (.tsl (0, 1) (y.2.map encS)), .c (.d (.i .i64 y.1))]) (fun y => [.box (t.enc.map .d), .tok 1 (y.2.map encS)] :: S)
    (fun y => y.1 ≤ t.fSignatures.length ∧ y.2 = (sigNames t).take y.1 ∧ ∀ j, ∀ hj : j < t.fSignatures.length, j < y.1 → sigOk t.fSignatures[j] = true) (fun y => t.fSignatures.length - y.1) (0, []) rfl ?_ ⟨Nat.zero_le _, rfl, fun j _ h => by simp only at h; omega⟩ ?_
  · simp -implicitDefEqProofs (disch := omega) only [go_sem]
  rintro ⟨i, names⟩ ⟨p1, p2, p3⟩
  simp only at p1 p2 p3
  have pl : names.length ≤ t.fSignatures.length := by rw [p2]; simp [sigNames]; omega
  simp -implicitDefEqProofs (disch := omega) only [go_sem]
  with_reducible refine split2 (fun hb => ?_) (fun hb => ?_) <;> have h := hb <;> (try simp only [wf_preprocess] at h) <;> simp -implicitDefEqProofs (disch := omega) only [go_sem, hb] <;> (repeat (with_reducible refine And.intro ?_ ?_; focus first | omega | rfl | assumption | exact ⟨_, rfl, rfl⟩ | (simp; omega) | (simp; done)))
  · have hi : i < t.fSignatures.length := by omega
    (repeat (with_reducible refine And.intro ?_ ?_; focus first | omega | rfl | assumption | exact ⟨_, rfl, rfl⟩ | (simp; omega) | (simp; done)))
    refine call_w (l13Sig_ok t.fSignatures[i] (hG _ (List.getElem_mem hi))) ?_
    simp -implicitDefEqProofs (disch := omega) only [go_sem] <;> (repeat (with_reducible refine And.intro ?_ ?_; focus first | omega | rfl | assumption | exact ⟨_, rfl, rfl⟩ | (simp; omega) | (simp; done)))
    with_reducible refine split2 (fun hb => ?_) (fun hb => ?_) <;> have h := hb <;> (try simp only [wf_preprocess] at h) <;> simp -implicitDefEqProofs (disch := omega) only [go_sem, hb] <;> (repeat (with_reducible refine And.intro ?_ ?_; focus first | omega | rfl | assumption | exact ⟨_, rfl, rfl⟩ | (simp; omega) | (simp; done)))
    · rw [bad i hi h]
    have k2 := h
    (repeat (with_reducible refine And.intro ?_ ?_; focus first | omega | rfl | assumption | exact ⟨_, rfl, rfl⟩ | (simp; omega) | (simp; done)))
    rw [show List.map encS names ++ [[D.s t.fSignatures[i].fName]] = List.map encS (names ++ [t.fSignatures[i].fName]) by simp [encS]]
    exact inv_at (i + 1, names ++ [t.fSignatures[i].fName]) (by simp only; omega) rfl rfl ⟨by simp only; omega, by simp only; rw [p2, take_snoc (by simpa [sigNames] using hi)]; simp [sigNames], fun j hj hji => by
      simp only at hji
      by_cases e : j = i
      · subst e; exact k2
      · exact p3 j hj (by omega)⟩
  have hi : i = t.fSignatures.length := by omega
  have hn : names = sigNames t := by rw [p2, List.take_of_length_le (by simp [sigNames]; omega)]
  have hall : t.fSignatures.all sigOk = true := List.all_eq_true.2 fun c hc => by
    obtain ⟨j, hj, e⟩ := List.getElem_of_mem hc
    rw [← e]; exact p3 j hj (by omega)
  have hnv := names_valid hall
  have hnl : ∀ s ∈ names, s.length ≤ 4194304 := fun s hm => by
    rw [hn] at hm
    obtain ⟨g, hg, e⟩ := List.mem_map.1 hm
    have := hG g hg
    have := MSignature.sum g
    rw [← e]
    omega
  have hlen : names.length = t.fSignatures.length := by rw [hn]; simp [sigNames]
  clear bad p2 p3
  repeat' (first | with_reducible refine split2 (fun hb => ?_) (fun hb => ?_) <;> have h := hb <;> (try simp only [wf_preprocess] at h) <;> simp -implicitDefEqProofs (disch := omega) only [go_sem, hb] <;> (repeat (with_reducible refine And.intro ?_ ?_; focus first | omega | rfl | assumption | exact ⟨_, rfl, rfl⟩ | (simp; omega) | (simp; done))))
  all_goals first
    | (refine badA ⟨by assumption, ?_⟩; first | exact .inl (by assumption) | exact .inr (.inl (by omega)) | exact .inr (.inr (by omega)))
    | skip
  all_goals
    have na : ¬ autoBad t := fun x => by
      obtain ⟨x1, x2⟩ := x
      rcases x2 with x2 | x2 | x2 <;> first | omega | simp_all
    (repeat (with_reducible refine And.intro ?_ ?_; focus first | omega | rfl | assumption | exact ⟨_, rfl, rfl⟩ | (simp; omega) | (simp; done)))
    refine call_w (specValidName_ok t.fName (by omega)) ?_
    simp -implicitDefEqProofs (disch := omega) only [go_sem]
    with_reducible refine split2 (fun hb => ?_) (fun hb => ?_) <;> have h := hb <;> (try simp only [wf_preprocess] at h) <;> simp -implicitDefEqProofs (disch := omega) only [go_sem, hb] <;> (repeat (with_reducible refine And.intro ?_ ?_; focus first | omega | rfl | assumption | exact ⟨_, rfl, rfl⟩ | (simp; omega) | (simp; done)))
    · have h1 := h
      (repeat (with_reducible refine And.intro ?_ ?_; focus first | omega | rfl | assumption | exact ⟨_, rfl, rfl⟩ | (simp; omega) | (simp; done)))
      refine call_w (l13Words_ok t.fSupertraits 4 (by omega) hV) ?_
      simp -implicitDefEqProofs (disch := omega) only [go_sem] <;> (repeat (with_reducible refine And.intro ?_ ?_; focus first | omega | rfl | assumption | exact ⟨_, rfl, rfl⟩ | (simp; omega) | (simp; done)))
      with_reducible refine split2 (fun hb => ?_) (fun hb => ?_) <;> have h := hb <;> (try simp only [wf_preprocess] at h) <;> simp -implicitDefEqProofs (disch := omega) only [go_sem, hb] <;> (repeat (with_reducible refine And.intro ?_ ?_; focus first | omega | rfl | assumption | exact ⟨_, rfl, rfl⟩ | (simp; omega) | (simp; done)))
      · have h2 := h
        rw [Bool.and_eq_true] at h2
        have h3 := of_dec h2.1
        refine call_w (l13Words_ok names 6 (by omega) hnl) ?_
        simp -implicitDefEqProofs (disch := omega) only [go_sem] <;> (repeat (with_reducible refine And.intro ?_ ?_; focus first | omega | rfl | assumption | exact ⟨_, rfl, rfl⟩ | (simp; omega) | (simp; done)))
        refine bool_eq ?_
        unfold validTrait
        rw [h1, h2.2, hall, dec_false na, dec_true (show t.fSupertraits.length ≤ 4 by omega), hlen]
        unfold namesOk
        rw [hn, hnv, Bool.and_true]
        simp only [Bool.true_and, Bool.not_false]
        congr 1
        exact dec_congr ⟨fun h => by omega, fun h => by omega⟩
      · refine bool_eq ?_
        unfold validTrait
        have h2 : (dec (t.fSupertraits.length ≤ 4) && namesOk t.fSupertraits) = false := by
          rw [← h]; congr 1; exact dec_congr ⟨fun h => by omega, fun h => by omega⟩
        rw [← Bool.and_assoc (dec (t.fSupertraits.length ≤ 4)), h2]; simp
    · exact bool_eq (by unfold validTrait; rw [h]; rfl)
end Go.Proofs.YtnleocfkdidhoaaGreat

namespace Go.Proofs.YtnleocfkdidhoaaGreat
open Go Go.Ab
theorem szConstructor_ok (x : MConstructor) : ∀ left : Int, 0 ≤ left → left ≤ 1048576 → FitL x.enc → PCall Tryz.prog 253 [x.v, .c (.d (.i .i64 left))] (.c (.d (.i .i64 (sub1 left x.sz)))) := by
  intro left h0 h1 hf S
  simp only [MConstructor.enc_eq, List.cons_append, List.nil_append, fitL_cons, fitL_append, fitL_nil_iff, and_true] at hf
  obtain ⟨fName, fFields⟩ := hf
  have hz : x.sz = x.fName.length + ((x.fFields.length + szRows (x.fFields.map MType.enc))) := by
    simp only [MConstructor.sz, MConstructor.enc_eq, szRow, szRow_append, D.sz, List.length_map, Nat.add_zero, Nat.zero_add] <;> omega
  refine acall_cw (rs := [.tmp 4]) Tryz.checked.mixed Tryz.func253 Tryz.ntmps253 rfl rfl rfl rfl rfl ?_
  rw [hz]
  have gName := fit_s fName
  simp -implicitDefEqProofs (disch := omega) only [go_sem]
  with_reducible refine split2 (fun hb => ?_) (fun hb => ?_) <;> have h := hb <;> (try simp only [wf_preprocess] at h) <;> simp -implicitDefEqProofs (disch := omega) only [go_sem, hb] <;> (repeat (with_reducible refine And.intro ?_ ?_; focus first | omega | rfl | assumption | exact ⟨_, rfl, rfl⟩ | (simp; omega) | (simp; done)))
  · exact int_eq (sub1_no (by omega)).symm
  refine call_w (szTypeS_ok x.fFields _ (by omega) (by omega) fFields) ?_
  simp -implicitDefEqProofs (disch := omega) only [go_sem]
  with_reducible refine split2 (fun hb => ?_) (fun hb => ?_) <;> have h := hb <;> (try simp only [wf_preprocess] at h) <;> simp -implicitDefEqProofs (disch := omega) only [go_sem, hb] <;> (repeat (with_reducible refine And.intro ?_ ?_; focus first | omega | rfl | assumption | exact ⟨_, rfl, rfl⟩ | (simp; omega) | (simp; done)))
  · have h' := sub1_neg h
    exact int_eq (sub1_no (by omega)).symm
  have hFields := sub1_nn h
  simp only [hFields.1]
  refine int_eq ?_
  rw [sub1_yes (by omega)]
  omega
theorem szConstructorS_ok (xs : List MConstructor) : ∀ left : Int, 0 ≤ left → left ≤ 1048576 → (D.sl (xs.map MConstructor.enc)).Fit → PCall Tryz.prog 207 [.c (.d (.sl (xs.map MConstructor.enc))), .c (.d (.i .i64 left))] (.c (.d (.i .i64 (sub1 left (xs.length + szRows (xs.map MConstructor.enc)))))) := by
  intro left h0 h1 hf S
  obtain ⟨hf1, hf2⟩ := fit_sl hf
  rw [List.length_map] at hf1
  refine acall_cw (rs := [.tmp 4]) Tryz.checked.mixed Tryz.func207 Tryz.ntmps207 rfl rfl rfl rfl rfl ?_
  simp -implicitDefEqProofs (disch := omega) only [go_sem]
  with_reducible refine split2 (fun hb => ?_) (fun hb => ?_) <;> have h := hb <;> (try simp only [wf_preprocess] at h) <;> simp -implicitDefEqProofs (disch := omega) only [go_sem, hb] <;> (repeat (with_reducible refine And.intro ?_ ?_; focus first | omega | rfl | assumption | exact ⟨_, rfl, rfl⟩ | (simp; omega) | (simp; done)))
  · exact int_eq (sub1_no (by omega)).symm
  refine loop_at (ι := Nat × Int) Tryz.checked.mixed rfl [0, 1, 5] (fun y => [.c (.d (.sl (xs.map MConstructor.enc))), .c (.d (.i .i64 y.2)), .c (.d (.i .i64 y.1))]) (fun _ => [] :: S)
    (fun y => y.1 ≤ xs.length ∧ 0 ≤ y.2 ∧ y.2 ≤ 1048576 ∧ sub1 y.2 (szRows ((xs.map MConstructor.enc).drop y.1)) = sub1 left (xs.length + szRows (xs.map MConstructor.enc))) (fun y => xs.length - y.1) (0, left - xs.length) rfl rfl ⟨by omega, by omega, by omega, ?_⟩ ?_
  · unfold sub1
    rw [List.drop_zero]
    split <;> split <;> omega
  rintro ⟨i, l⟩ ⟨p1, p2, p3, p4⟩
  simp only at p1 p2 p3 p4
  simp -implicitDefEqProofs (disch := omega) only [go_sem]
  with_reducible refine split2 (fun hb => ?_) (fun hb => ?_) <;> have h := hb <;> (try simp only [wf_preprocess] at h) <;> simp -implicitDefEqProofs (disch := omega) only [go_sem, hb] <;> (repeat (with_reducible refine And.intro ?_ ?_; focus first | omega | rfl | assumption | exact ⟨_, rfl, rfl⟩ | (simp; omega) | (simp; done)))
  · have hi : i < xs.length := by omega
    rw [List.drop_eq_getElem_cons (by rw [List.length_map]; exact hi), szRows, List.getElem_map, MConstructor.sz_def] at p4
    (repeat (with_reducible refine And.intro ?_ ?_; focus first | omega | rfl | assumption | exact ⟨_, rfl, rfl⟩ | (simp; omega) | (simp; done)))
    refine call_w (szConstructor_ok xs[i] _ (by omega) (by omega) (hf2 _ (List.mem_map_of_mem (List.getElem_mem hi)))) ?_
    simp -implicitDefEqProofs (disch := omega) only [go_sem]
    with_reducible refine split2 (fun hb => ?_) (fun hb => ?_) <;> have h := hb <;> (try simp only [wf_preprocess] at h) <;> simp -implicitDefEqProofs (disch := omega) only [go_sem, hb] <;> (repeat (with_reducible refine And.intro ?_ ?_; focus first | omega | rfl | assumption | exact ⟨_, rfl, rfl⟩ | (simp; omega) | (simp; done)))
    · have h' := sub1_neg h
      rw [← p4, sub1_no (by omega)]
    · have h' := sub1_nn h
      refine inv_at (i + 1, sub1 l _) (by simp only; omega) rfl rfl ⟨by simp only; omega, by simp only; omega, by simp only; omega, ?_⟩
      simp only
      rw [← p4, h'.1]
      unfold sub1
      split <;> split <;> omega
  · have hi : i = xs.length := by omega
    rw [hi, List.drop_of_length_le (by simp), szRows, sub1_yes (by omega)] at p4
    rw [← p4]
    refine int_eq ?_
    omega
theorem toConstructor_ok (x : MConstructor) : x.sz ≤ 1048576 → PCall Tryz.prog 265 [x.v] x.v := by
  intro hsz S
  simp only [MConstructor.sz, MConstructor.enc_eq, szRow, szRow_append, D.sz, List.length_map] at hsz
  refine acall_cw (rs := [.cell 2 185]) Tryz.checked.mixed Tryz.func265 Tryz.ntmps265 rfl rfl rfl rfl rfl ?_
  simp -implicitDefEqProofs (disch := omega) only [go_sem]
  refine call_w (toTypeS_ok x.fFields (by omega)) ?_
  simp -implicitDefEqProofs (disch := omega) only [go_sem]
theorem toConstructorS_ok (xs : List MConstructor) : xs.length + szRows (xs.map MConstructor.enc) ≤ 1048576 → PCall Tryz.prog 220 [.c (.d (.sl (xs.map MConstructor.enc)))] (.c (.d (.sl (xs.map MConstructor.enc)))) := by
  intro hsz S
  refine acall_cw (rs := [.tmp 2]) Tryz.checked.mixed Tryz.func220 Tryz.ntmps220 rfl rfl rfl rfl rfl ?_
  simp -implicitDefEqProofs (disch := omega) only [go_sem]
  (repeat (with_reducible refine And.intro ?_ ?_; focus first | omega | rfl | assumption | exact ⟨_, rfl, rfl⟩ | (simp; omega) | (simp; done)))
  refine loop_at (ι := Nat × List (List D)) Tryz.checked.mixed rfl [0, 3, 4] (fun y => [.c (.d (.sl (xs.map MConstructor.enc))), .c (.msl (0, 0)), .c (.d (.i .i64 y.1))]) (fun y => [.mrow 2 y.2] :: S)
    (fun y => y.1 ≤ xs.length ∧ Filled 2 y.1 y.2 (xs.map MConstructor.enc)) (fun y => xs.length - y.1) (0, _) rfl rfl ⟨Nat.zero_le _, Filled.start (by simp) rfl⟩ ?_
  rintro ⟨i, R⟩ ⟨p1, p2⟩
  simp only at p1 p2
  simp -implicitDefEqProofs (disch := omega) only [go_sem]
  with_reducible refine split2 (fun hb => ?_) (fun hb => ?_) <;> have h := hb <;> (try simp only [wf_preprocess] at h) <;> simp -implicitDefEqProofs (disch := omega) only [go_sem, hb] <;> (repeat (with_reducible refine And.intro ?_ ?_; focus first | omega | rfl | assumption | exact ⟨_, rfl, rfl⟩ | (simp; omega) | (simp; done)))
  · have hi : i < xs.length := by omega
    have hx : xs[i].sz ≤ szRows (xs.map MConstructor.enc) := szRows_mem (List.mem_map_of_mem (List.getElem_mem hi))
    (repeat (with_reducible refine And.intro ?_ ?_; focus first | omega | rfl | assumption | exact ⟨_, rfl, rfl⟩ | (simp; omega) | (simp; done)))
    refine call_w (toConstructor_ok xs[i] (by omega)) ?_
    simp -implicitDefEqProofs (disch := omega) only [go_sem]
    have hR := p2.1
    rw [List.length_map] at hR
    (repeat (with_reducible refine And.intro ?_ ?_; focus first | omega | rfl | assumption | exact ⟨_, rfl, rfl⟩ | (simp; omega) | (simp; done)))
    refine inv_at (i + 1, _) (by simp only; omega) rfl rfl ⟨by simp only; omega, p2.step (by simp [hi, MConstructor.enc_eq]) rfl⟩
  · have hi : i = xs.length := by omega
    rw [p2.done (by rw [List.length_map]; omega)]
theorem eqConstructor_ok (x : MConstructor) : ∀ y : MConstructor, x.sz ≤ 1048576 → PCall Tryz.prog 180 [x.v, y.v] (.c (.d (.b (dec (x = y))))) := by
  intro y hsz S
  simp only [MConstructor.sz, MConstructor.enc_eq, szRow, szRow_append, D.sz, List.length_map] at hsz
  refine acall_cw (rs := [.tmp 4]) Tryz.checked.mixed Tryz.func180 Tryz.ntmps180 rfl rfl rfl rfl rfl ?_
  simp -implicitDefEqProofs (disch := omega) only [go_sem]
  with_reducible refine split2 (fun hb => ?_) (fun hb => ?_) <;> have h := hb <;> (try simp only [wf_preprocess] at h) <;> simp -implicitDefEqProofs (disch := omega) only [go_sem, hb] <;> (repeat (with_reducible refine And.intro ?_ ?_; focus first | omega | rfl | assumption | exact ⟨_, rfl, rfl⟩ | (simp; omega) | (simp; done)))
  · exact bool_eq (dec_false (fun e => h (by rw [e]))).symm
  have eName := h
  clear h
  refine call_w (eqTypeS_ok x.fFields _ (by omega)) ?_
  simp -implicitDefEqProofs (disch := omega) only [go_sem]
  with_reducible refine split2 (fun hb => ?_) (fun hb => ?_) <;> have h := hb <;> (try simp only [wf_preprocess] at h) <;> simp -implicitDefEqProofs (disch := omega) only [go_sem, hb] <;> (repeat (with_reducible refine And.intro ?_ ?_; focus first | omega | rfl | assumption | exact ⟨_, rfl, rfl⟩ | (simp; omega) | (simp; done)))
  · exact bool_eq (dec_false (fun e => h (by rw [e]))).symm
  have eFields := h
  clear h
  exact bool_eq (dec_true (MConstructor.ext' eName eFields)).symm
theorem eqConstructorS_ok (xs : List MConstructor) : ∀ ys : List MConstructor, xs.length + szRows (xs.map MConstructor.enc) ≤ 1048576 → PCall Tryz.prog 103 [.c (.d (.sl (xs.map MConstructor.enc))), .c (.d (.sl (ys.map MConstructor.enc)))] (.c (.d (.b (dec (xs = ys))))) := by
  intro ys hsz S
  refine acall_cw (rs := [.tmp 4]) Tryz.checked.mixed Tryz.func103 Tryz.ntmps103 rfl rfl rfl rfl rfl ?_
  simp -implicitDefEqProofs (disch := omega) only [go_sem]
  with_reducible refine split2 (fun hb => ?_) (fun hb => ?_) <;> have h := hb <;> (try simp only [wf_preprocess] at h) <;> simp -implicitDefEqProofs (disch := omega) only [go_sem, hb] <;> (repeat (with_reducible refine And.intro ?_ ?_; focus first | omega | rfl | assumption | exact ⟨_, rfl, rfl⟩ | (simp; omega) | (simp; done)))
  · exact bool_eq (dec_false (fun e => h (by rw [e]))).symm
  have hl : xs.length = ys.length := by omega
  refine loop_at (ι := Nat) Tryz.checked.mixed rfl [0, 1, 5] (fun y => [.c (.d (.sl (xs.map MConstructor.enc))), .c (.d (.sl (ys.map MConstructor.enc))), .c (.d (.i .i64 y))]) (fun y => [] :: S)
    (fun i => i ≤ xs.length ∧ ∀ j, j < i → xs[j]? = ys[j]?) (fun y => xs.length - y) 0 rfl rfl ⟨Nat.zero_le _, fun j h => by omega⟩ ?_
  rintro i ⟨p1, p2⟩
  simp -implicitDefEqProofs (disch := omega) only [go_sem]
  with_reducible refine split2 (fun hb => ?_) (fun hb => ?_) <;> have h := hb <;> (try simp only [wf_preprocess] at h) <;> simp -implicitDefEqProofs (disch := omega) only [go_sem, hb] <;> (repeat (with_reducible refine And.intro ?_ ?_; focus first | omega | rfl | assumption | exact ⟨_, rfl, rfl⟩ | (simp; omega) | (simp; done)))
  · have hi : i < xs.length := by omega
    have hi' : i < ys.length := by omega
    have hx : xs[i].sz ≤ szRows (xs.map MConstructor.enc) := szRows_mem (List.mem_map_of_mem (List.getElem_mem hi))
    (repeat (with_reducible refine And.intro ?_ ?_; focus first | omega | rfl | assumption | exact ⟨_, rfl, rfl⟩ | (simp; omega) | (simp; done)))
    refine call_w (eqConstructor_ok xs[i] ys[i] (by omega)) ?_
    simp -implicitDefEqProofs (disch := omega) only [go_sem]
    with_reducible refine split2 (fun hb => ?_) (fun hb => ?_) <;> have h := hb <;> (try simp only [wf_preprocess] at h) <;> simp -implicitDefEqProofs (disch := omega) only [go_sem, hb] <;> (repeat (with_reducible refine And.intro ?_ ?_; focus first | omega | rfl | assumption | exact ⟨_, rfl, rfl⟩ | (simp; omega) | (simp; done)))
    · exact bool_eq (dec_false (fun e => h (by simp only [e]))).symm
    refine inv_at (i + 1) (by omega) rfl rfl ⟨by omega, fun j hj => ?_⟩
    by_cases e : j = i
    · subst e
      rw [List.getElem?_eq_getElem hi, List.getElem?_eq_getElem hi', h]
    · exact p2 j (by omega)
  · have hi : i = xs.length := by omega
    refine bool_eq (dec_true (List.ext_getElem? fun j => ?_)).symm
    by_cases hj : j < i
    · exact p2 j hj
    · rw [List.getElem?_eq_none (by omega), List.getElem?_eq_none (by omega)]
end Go.Proofs.YtnleocfkdidhoaaGreat

namespace Go.Proofs.YtnleocfkdidhoaaGreat
open Go Go.Ab
theorem szDataType_ok (x : MDataType) : ∀ left : Int, 0 ≤ left → left ≤ 1048576 → FitL x.enc → PCall Tryz.prog 136 [x.v, .c (.d (.i .i64 left))] (.c (.d (.i .i64 (sub1 left x.sz)))) := by
  intro left h0 h1 hf S
  simp only [MDataType.enc_eq, List.cons_append, List.nil_append, fitL_cons, fitL_append, fitL_nil_iff, and_true] at hf
  obtain ⟨fName, fVars, fConstructors⟩ := hf
  have hz : x.sz = x.fName.length + ((x.fVars.length + szRows (x.fVars.map encS)) + ((x.fConstructors.length + szRows (x.fConstructors.map MConstructor.enc)))) := by
    simp only [MDataType.sz, MDataType.enc_eq, szRow, szRow_append, D.sz, List.length_map, Nat.add_zero, Nat.zero_add] <;> omega
  refine acall_cw (rs := [.tmp 4]) Tryz.checked.mixed Tryz.func136 Tryz.ntmps136 rfl rfl rfl rfl rfl ?_
  rw [hz]
  have gName := fit_s fName
  simp -implicitDefEqProofs (disch := omega) only [go_sem]
  with_reducible refine split2 (fun hb => ?_) (fun hb => ?_) <;> have h := hb <;> (try simp only [wf_preprocess] at h) <;> simp -implicitDefEqProofs (disch := omega) only [go_sem, hb] <;> (repeat (with_reducible refine And.intro ?_ ?_; focus first | omega | rfl | assumption | exact ⟨_, rfl, rfl⟩ | (simp; omega) | (simp; done)))
  · exact int_eq (sub1_no (by omega)).symm
  refine call_w (szStringS_ok x.fVars _ (by omega) (by omega) fVars) ?_
  simp -implicitDefEqProofs (disch := omega) only [go_sem]
  with_reducible refine split2 (fun hb => ?_) (fun hb => ?_) <;> have h := hb <;> (try simp only [wf_preprocess] at h) <;> simp -implicitDefEqProofs (disch := omega) only [go_sem, hb] <;> (repeat (with_reducible refine And.intro ?_ ?_; focus first | omega | rfl | assumption | exact ⟨_, rfl, rfl⟩ | (simp; omega) | (simp; done)))
  · have h' := sub1_neg h
    exact int_eq (sub1_no (by omega)).symm
  have hVars := sub1_nn h
  simp only [hVars.1]
  refine call_w (szConstructorS_ok x.fConstructors _ (by omega) (by omega) fConstructors) ?_
  simp -implicitDefEqProofs (disch := omega) only [go_sem]
  with_reducible refine split2 (fun hb => ?_) (fun hb => ?_) <;> have h := hb <;> (try simp only [wf_preprocess] at h) <;> simp -implicitDefEqProofs (disch := omega) only [go_sem, hb] <;> (repeat (with_reducible refine And.intro ?_ ?_; focus first | omega | rfl | assumption | exact ⟨_, rfl, rfl⟩ | (simp; omega) | (simp; done)))
  · have h' := sub1_neg h
    exact int_eq (sub1_no (by omega)).symm
  have hConstructors := sub1_nn h
  simp only [hConstructors.1]
  refine int_eq ?_
  rw [sub1_yes (by omega)]
  omega
theorem szDataTypeS_ok (xs : List MDataType) : ∀ left : Int, 0 ≤ left → left ≤ 1048576 → (D.sl (xs.map MDataType.enc)).Fit → PCall Tryz.prog 64 [.c (.d (.sl (xs.map MDataType.enc))), .c (.d (.i .i64 left))] (.c (.d (.i .i64 (sub1 left (xs.length + szRows (xs.map MDataType.enc)))))) := by
  intro left h0 h1 hf S
  obtain ⟨hf1, hf2⟩ := fit_sl hf
  rw [List.length_map] at hf1
  refine acall_cw (rs := [.tmp 4]) Tryz.checked.mixed Tryz.func64 Tryz.ntmps64 rfl rfl rfl rfl rfl ?_
  simp -implicitDefEqProofs (disch := omega) only [go_sem]
  with_reducible refine split2 (fun hb => ?_) (fun hb => ?_) <;> have h := hb <;> (try simp only [wf_preprocess] at h) <;> simp -implicitDefEqProofs (disch := omega) only [go_sem, hb] <;> (repeat (with_reducible refine And.intro ?_ ?_; focus first | omega | rfl | assumption | exact ⟨_, rfl, rfl⟩ | (simp; omega) | (simp; done)))
  · exact int_eq (sub1_no (by omega)).symm
  refine loop_at (ι := Nat × Int) Tryz.checked.mixed rfl [0, 1, 5] (fun y => [.c (.d (.sl (xs.map MDataType.enc))), .c (.d (.i .i64 y.2)), .c (.d (.i .i64 y.1))]) (fun _ => [] :: S)
    (fun y => y.1 ≤ xs.length ∧ 0 ≤ y.2 ∧ y.2 ≤ 1048576 ∧ sub1 y.2 (szRows ((xs.map MDataType.enc).drop y.1)) = sub1 left (xs.length + szRows (xs.map MDataType.enc))) (fun y => xs.length - y.1) (0, left - xs.length) rfl rfl ⟨by omega, by omega, by omega, ?_⟩ ?_
  · unfold sub1
    rw [List.drop_zero]
    split <;> split <;> omega
  rintro ⟨i, l⟩ ⟨p1, p2, p3, p4⟩
  simp only at p1 p2 p3 p4
  simp -implicitDefEqProofs (disch := omega) only [go_sem]
  with_reducible refine split2 (fun hb => ?_) (fun hb => ?_) <;> have h := hb <;> (try simp only [wf_preprocess] at h) <;> simp -implicitDefEqProofs (disch := omega) only [go_sem, hb] <;> (repeat (with_reducible refine And.intro ?_ ?_; focus first | omega | rfl | assumption | exact ⟨_, rfl, rfl⟩ | (simp; omega) | (simp; done)))
  · have hi : i < xs.length := by omega
    rw [List.drop_eq_getElem_cons (by rw [List.length_map]; exact hi), szRows, List.getElem_map, MDataType.sz_def] at p4
    (repeat (with_reducible refine And.intro ?_ ?_; focus first | omega | rfl | assumption | exact ⟨_, rfl, rfl⟩ | (simp; omega) | (simp; done)))
    refine call_w (szDataType_ok xs[i] _ (by omega) (by omega) (hf2 _ (List.mem_map_of_mem (List.getElem_mem hi)))) ?_
    simp -implicitDefEqProofs (disch := omega) only [go_sem]
    with_reducible refine split2 (fun hb => ?_) (fun hb => ?_) <;> have h := hb <;> (try simp only [wf_preprocess] at h) <;> simp -implicitDefEqProofs (disch := omega) only [go_sem, hb] <;> (repeat (with_reducible refine And.intro ?_ ?_; focus first | omega | rfl | assumption | exact ⟨_, rfl, rfl⟩ | (simp; omega) | (simp; done)))
    · have h' := sub1_neg h
      rw [← p4, sub1_no (by omega)]
    · have h' := sub1_nn h
      refine inv_at (i + 1, sub1 l _) (by simp only; omega) rfl rfl ⟨by simp only; omega, by simp only; omega, by simp only; omega, ?_⟩
      simp only
      rw [← p4, h'.1]
      unfold sub1
      split <;> split <;> omega
  · have hi : i = xs.length := by omega
    rw [hi, List.drop_of_length_le (by simp), szRows, sub1_yes (by omega)] at p4
    rw [← p4]
    refine int_eq ?_
    omega
theorem toDataType_ok (x : MDataType) : x.sz ≤ 1048576 → PCall Tryz.prog 146 [x.v] x.v := by
  intro hsz S
  simp only [MDataType.sz, MDataType.enc_eq, szRow, szRow_append, D.sz, List.length_map] at hsz
  refine acall_cw (rs := [.cell 2 82]) Tryz.checked.mixed Tryz.func146 Tryz.ntmps146 rfl rfl rfl rfl rfl ?_
  simp -implicitDefEqProofs (disch := omega) only [go_sem]
  refine call_w (toStringS_ok x.fVars (by omega)) ?_
  simp -implicitDefEqProofs (disch := omega) only [go_sem]
  refine call_w (toConstructorS_ok x.fConstructors (by omega)) ?_
  simp -implicitDefEqProofs (disch := omega) only [go_sem]
theorem toDataTypeS_ok (xs : List MDataType) : xs.length + szRows (xs.map MDataType.enc) ≤ 1048576 → PCall Tryz.prog 75 [.c (.d (.sl (xs.map MDataType.enc)))] (.c (.d (.sl (xs.map MDataType.enc)))) := by
  intro hsz S
  refine acall_cw (rs := [.tmp 2]) Tryz.checked.mixed Tryz.func75 Tryz.ntmps75 rfl rfl rfl rfl rfl ?_
  simp -implicitDefEqProofs (disch := omega) only [go_sem]
  (repeat (with_reducible refine And.intro ?_ ?_; focus first | omega | rfl | assumption | exact ⟨_, rfl, rfl⟩ | (simp; omega) | (simp; done)))
  refine loop_at (ι := Nat × List (List D)) Tryz.checked.mixed rfl [0, 3, 4] (fun y => [.c (.d (.sl (xs.map MDataType.enc))), .c (.msl (0, 0)), .c (.d (.i .i64 y.1))]) (fun y => [.mrow 3 y.2] :: S)
    (fun y => y.1 ≤ xs.length ∧ Filled 3 y.1 y.2 (xs.map MDataType.enc)) (fun y => xs.length - y.1) (0, _) rfl rfl ⟨Nat.zero_le _, Filled.start (by simp) rfl⟩ ?_
  rintro ⟨i, R⟩ ⟨p1, p2⟩
  simp only at p1 p2
  simp -implicitDefEqProofs (disch := omega) only [go_sem]
  with_reducible refine split2 (fun hb => ?_) (fun hb => ?_) <;> have h := hb <;> (try simp only [wf_preprocess] at h) <;> simp -implicitDefEqProofs (disch := omega) only [go_sem, hb] <;> (repeat (with_reducible refine And.intro ?_ ?_; focus first | omega | rfl | assumption | exact ⟨_, rfl, rfl⟩ | (simp; omega) | (simp; done)))
  · have hi : i < xs.length := by omega
    have hx : xs[i].sz ≤ szRows (xs.map MDataType.enc) := szRows_mem (List.mem_map_of_mem (List.getElem_mem hi))
    (repeat (with_reducible refine And.intro ?_ ?_; focus first | omega | rfl | assumption | exact ⟨_, rfl, rfl⟩ | (simp; omega) | (simp; done)))
    refine call_w (toDataType_ok xs[i] (by omega)) ?_
    simp -implicitDefEqProofs (disch := omega) only [go_sem]
    have hR := p2.1
    rw [List.length_map] at hR
    (repeat (with_reducible refine And.intro ?_ ?_; focus first | omega | rfl | assumption | exact ⟨_, rfl, rfl⟩ | (simp; omega) | (simp; done)))
    refine inv_at (i + 1, _) (by simp only; omega) rfl rfl ⟨by simp only; omega, p2.step (by simp [hi, MDataType.enc_eq]) rfl⟩
  · have hi : i = xs.length := by omega
    rw [p2.done (by rw [List.length_map]; omega)]
theorem eqDataType_ok (x : MDataType) : ∀ y : MDataType, x.sz ≤ 1048576 → PCall Tryz.prog 38 [x.v, y.v] (.c (.d (.b (dec (x = y))))) := by
  intro y hsz S
  simp only [MDataType.sz, MDataType.enc_eq, szRow, szRow_append, D.sz, List.length_map] at hsz
  refine acall_cw (rs := [.tmp 4]) Tryz.checked.mixed Tryz.func38 Tryz.ntmps38 rfl rfl rfl rfl rfl ?_
  simp -implicitDefEqProofs (disch := omega) only [go_sem]
  with_reducible refine split2 (fun hb => ?_) (fun hb => ?_) <;> have h := hb <;> (try simp only [wf_preprocess] at h) <;> simp -implicitDefEqProofs (disch := omega) only [go_sem, hb] <;> (repeat (with_reducible refine And.intro ?_ ?_; focus first | omega | rfl | assumption | exact ⟨_, rfl, rfl⟩ | (simp; omega) | (simp; done)))
  · exact bool_eq (dec_false (fun e => h (by rw [e]))).symm
  have eName := h
  clear h
  refine call_w (eqStringS_ok x.fVars _ (by omega)) ?_
  simp -implicitDefEqProofs (disch := omega) only [go_sem]
  with_reducible refine split2 (fun hb => ?_) (fun hb => ?_) <;> have h := hb <;> (try simp only [wf_preprocess] at h) <;> simp -implicitDefEqProofs (disch := omega) only [go_sem, hb] <;> (repeat (with_reducible refine And.intro ?_ ?_; focus first | omega | rfl | assumption | exact ⟨_, rfl, rfl⟩ | (simp; omega) | (simp; done)))
  · exact bool_eq (dec_false (fun e => h (by rw [e]))).symm
  have eVars := h
  clear h
  refine call_w (eqConstructorS_ok x.fConstructors _ (by omega)) ?_
  simp -implicitDefEqProofs (disch := omega) only [go_sem]
  with_reducible refine split2 (fun hb => ?_) (fun hb => ?_) <;> have h := hb <;> (try simp only [wf_preprocess] at h) <;> simp -implicitDefEqProofs (disch := omega) only [go_sem, hb] <;> (repeat (with_reducible refine And.intro ?_ ?_; focus first | omega | rfl | assumption | exact ⟨_, rfl, rfl⟩ | (simp; omega) | (simp; done)))
  · exact bool_eq (dec_false (fun e => h (by rw [e]))).symm
  have eConstructors := h
  clear h
  exact bool_eq (dec_true (MDataType.ext' eName eVars eConstructors)).symm
theorem eqDataTypeS_ok (xs : List MDataType) : ∀ ys : List MDataType, xs.length + szRows (xs.map MDataType.enc) ≤ 1048576 → PCall Tryz.prog 88 [.c (.d (.sl (xs.map MDataType.enc))), .c (.d (.sl (ys.map MDataType.enc)))] (.c (.d (.b (dec (xs = ys))))) := by
  intro ys hsz S
  refine acall_cw (rs := [.tmp 4]) Tryz.checked.mixed Tryz.func88 Tryz.ntmps88 rfl rfl rfl rfl rfl ?_
  simp -implicitDefEqProofs (disch := omega) only [go_sem]
  with_reducible refine split2 (fun hb => ?_) (fun hb => ?_) <;> have h := hb <;> (try simp only [wf_preprocess] at h) <;> simp -implicitDefEqProofs (disch := omega) only [go_sem, hb] <;> (repeat (with_reducible refine And.intro ?_ ?_; focus first | omega | rfl | assumption | exact ⟨_, rfl, rfl⟩ | (simp; omega) | (simp; done)))
  · exact bool_eq (dec_false (fun e => h (by rw [e]))).symm
  have hl : xs.length = ys.length := by omega
  refine loop_at (ι := Nat) Tryz.checked.mixed rfl [0, 1, 5] (fun y => [.c (.d (.sl (xs.map MDataType.enc))), .c (.d (.sl (ys.map MDataType.enc))), .c (.d (.i .i64 y))]) (fun y => [] :: S)
    (fun i => i ≤ xs.length ∧ ∀ j, j < i → xs[j]? = ys[j]?) (fun y => xs.length - y) 0 rfl rfl ⟨Nat.zero_le _, fun j h => by omega⟩ ?_
  rintro i ⟨p1, p2⟩
  simp -implicitDefEqProofs (disch := omega) only [go_sem]
  with_reducible refine split2 (fun hb => ?_) (fun hb => ?_) <;> have h := hb <;> (try simp only [wf_preprocess] at h) <;> simp -implicitDefEqProofs (disch := omega) only [go_sem, hb] <;> (repeat (with_reducible refine And.intro ?_ ?_; focus first | omega | rfl | assumption | exact ⟨_, rfl, rfl⟩ | (simp; omega) | (simp; done)))
  · have hi : i < xs.length := by omega
    have hi' : i < ys.length := by omega
    have hx : xs[i].sz ≤ szRows (xs.map MDataType.enc) := szRows_mem (List.mem_map_of_mem (List.getElem_mem hi))
    (repeat (with_reducible refine And.intro ?_ ?_; focus first | omega | rfl | assumption | exact ⟨_, rfl, rfl⟩ | (simp; omega) | (simp; done)))
    refine call_w (eqDataType_ok xs[i] ys[i] (by omega)) ?_
    simp -implicitDefEqProofs (disch := omega) only [go_sem]
    with_reducible refine split2 (fun hb => ?_) (fun hb => ?_) <;> have h := hb <;> (try simp only [wf_preprocess] at h) <;> simp -implicitDefEqProofs (disch := omega) only [go_sem, hb] <;> (repeat (with_reducible refine And.intro ?_ ?_; focus first | omega | rfl | assumption | exact ⟨_, rfl, rfl⟩ | (simp; omega) | (simp; done)))
    · exact bool_eq (dec_false (fun e => h (by simp only [e]))).symm
    refine inv_at (i + 1) (by omega) rfl rfl ⟨by omega, fun j hj => ?_⟩
    by_cases e : j = i
    · subst e
      rw [List.getElem?_eq_getElem hi, List.getElem?_eq_getElem hi', h]
    · exact p2 j (by omega)
  · have hi : i = xs.length := by omega
    refine bool_eq (dec_true (List.ext_getElem? fun j => ?_)).symm
    by_cases hj : j < i
    · exact p2 j hj
    · rw [List.getElem?_eq_none (by omega), List.getElem?_eq_none (by omega)]
end Go.Proofs.YtnleocfkdidhoaaGreat

namespace Go.Proofs.YtnleocfkdidhoaaGreat
open Go Go.Ab
theorem szMethod_ok (x : MMethod) : ∀ left : Int, 0 ≤ left → left ≤ 1048576 → FitL x.enc → PCall Tryz.prog 255 [x.v, .c (.d (.i .i64 left))] (.c (.d (.i .i64 (sub1 left x.sz)))) := by
  intro left h0 h1 hf S
  simp only [MMethod.enc_eq, List.cons_append, List.nil_append, fitL_cons, fitL_append, fitL_nil_iff, and_true] at hf
  obtain ⟨fName, fVars, fBody⟩ := hf
  have hz : x.sz = x.fName.length + ((x.fVars.length + szRows (x.fVars.map encS)) + (x.fBody.sz)) := by
    simp only [MMethod.sz, MMethod.enc_eq, szRow, szRow_append, D.sz, List.length_map, Nat.add_zero, Nat.zero_add, MExpr.sz_def] <;> omega
  refine acall_cw (rs := [.tmp 4]) Tryz.checked.mixed Tryz.func255 Tryz.ntmps255 rfl rfl rfl rfl rfl ?_
  rw [hz]
  have gName := fit_s fName
  simp -implicitDefEqProofs (disch := omega) only [go_sem]
  with_reducible refine split2 (fun hb => ?_) (fun hb => ?_) <;> have h := hb <;> (try simp only [wf_preprocess] at h) <;> simp -implicitDefEqProofs (disch := omega) only [go_sem, hb] <;> (repeat (with_reducible refine And.intro ?_ ?_; focus first | omega | rfl | assumption | exact ⟨_, rfl, rfl⟩ | (simp; omega) | (simp; done)))
  · exact int_eq (sub1_no (by omega)).symm
  refine call_w (szStringS_ok x.fVars _ (by omega) (by omega) fVars) ?_
  simp -implicitDefEqProofs (disch := omega) only [go_sem]
  with_reducible refine split2 (fun hb => ?_) (fun hb => ?_) <;> have h := hb <;> (try simp only [wf_preprocess] at h) <;> simp -implicitDefEqProofs (disch := omega) only [go_sem, hb] <;> (repeat (with_reducible refine And.intro ?_ ?_; focus first | omega | rfl | assumption | exact ⟨_, rfl, rfl⟩ | (simp; omega) | (simp; done)))
  · have h' := sub1_neg h
    exact int_eq (sub1_no (by omega)).symm
  have hVars := sub1_nn h
  simp only [hVars.1]
  refine call_w (szExpr_ok x.fBody _ (by omega) (by omega) fBody) ?_
  simp -implicitDefEqProofs (disch := omega) only [go_sem]
  with_reducible refine split2 (fun hb => ?_) (fun hb => ?_) <;> have h := hb <;> (try simp only [wf_preprocess] at h) <;> simp -implicitDefEqProofs (disch := omega) only [go_sem, hb] <;> (repeat (with_reducible refine And.intro ?_ ?_; focus first | omega | rfl | assumption | exact ⟨_, rfl, rfl⟩ | (simp; omega) | (simp; done)))
  · have h' := sub1_neg h
    exact int_eq (sub1_no (by omega)).symm
  have hBody := sub1_nn h
  simp only [hBody.1]
  refine int_eq ?_
  rw [sub1_yes (by omega)]
  omega
theorem szMethodS_ok (xs : List MMethod) : ∀ left : Int, 0 ≤ left → left ≤ 1048576 → (D.sl (xs.map MMethod.enc)).Fit → PCall Tryz.prog 209 [.c (.d (.sl (xs.map MMethod.enc))), .c (.d (.i .i64 left))] (.c (.d (.i .i64 (sub1 left (xs.length + szRows (xs.map MMethod.enc)))))) := by
  intro left h0 h1 hf S
  obtain ⟨hf1, hf2⟩ := fit_sl hf
  rw [List.length_map] at hf1
  refine acall_cw (rs := [.tmp 4]) Tryz.checked.mixed Tryz.func209 Tryz.ntmps209 rfl rfl rfl rfl rfl ?_
  simp -implicitDefEqProofs (disch := omega) only [go_sem]
  with_reducible refine split2 (fun hb => ?_) (fun hb => ?_) <;> have h := hb <;> (try simp only [wf_preprocess] at h) <;> simp -implicitDefEqProofs (disch := omega) only [go_sem, hb] <;> (repeat (with_reducible refine And.intro ?_ ?_; focus first | omega | rfl | assumption | exact ⟨_, rfl, rfl⟩ | (simp; omega) | (simp; done)))
  · exact int_eq (sub1_no (by omega)).symm
  refine loop_at (ι := Nat × Int) Tryz.checked.mixed rfl [0, 1, 5] (fun y => [.c (.d (.sl (xs.map MMethod.enc))), .c (.d (.i .i64 y.2)), .c (.d (.i .i64 y.1))]) (fun _ => [] :: S)
    (fun y => y.1 ≤ xs.length ∧ 0 ≤ y.2 ∧ y.2 ≤ 1048576 ∧ sub1 y.2 (szRows ((xs.map MMethod.enc).drop y.1)) = sub1 left (xs.length + szRows (xs.map MMethod.enc))) (fun y => xs.length - y.1) (0, left - xs.length) rfl rfl ⟨by omega, by omega, by omega, ?_⟩ ?_
  · unfold sub1
    rw [List.drop_zero]
    split <;> split <;> omega
  rintro ⟨i, l⟩ ⟨p1, p2, p3, p4⟩
  simp only at p1 p2 p3 p4
  simp -implicitDefEqProofs (disch := omega) only [go_sem]
  with_reducible refine split2 (fun hb => ?_) (fun hb => ?_) <;> have h := hb <;> (try simp only [wf_preprocess] at h) <;> simp -implicitDefEqProofs (disch := omega) only [go_sem, hb] <;> (repeat (with_reducible refine And.intro ?_ ?_; focus first | omega | rfl | assumption | exact ⟨_, rfl, rfl⟩ | (simp; omega) | (simp; done)))
  · have hi : i < xs.length := by omega
    rw [List.drop_eq_getElem_cons (by rw [List.length_map]; exact hi), szRows, List.getElem_map, MMethod.sz_def] at p4
    (repeat (with_reducible refine And.intro ?_ ?_; focus first | omega | rfl | assumption | exact ⟨_, rfl, rfl⟩ | (simp; omega) | (simp; done)))
    refine call_w (szMethod_ok xs[i] _ (by omega) (by omega) (hf2 _ (List.mem_map_of_mem (List.getElem_mem hi)))) ?_
    simp -implicitDefEqProofs (disch := omega) only [go_sem]
    with_reducible refine split2 (fun hb => ?_) (fun hb => ?_) <;> have h := hb <;> (try simp only [wf_preprocess] at h) <;> simp -implicitDefEqProofs (disch := omega) only [go_sem, hb] <;> (repeat (with_reducible refine And.intro ?_ ?_; focus first | omega | rfl | assumption | exact ⟨_, rfl, rfl⟩ | (simp; omega) | (simp; done)))
    · have h' := sub1_neg h
      rw [← p4, sub1_no (by omega)]
    · have h' := sub1_nn h
      refine inv_at (i + 1, sub1 l _) (by simp only; omega) rfl rfl ⟨by simp only; omega, by simp only; omega, by simp only; omega, ?_⟩
      simp only
      rw [← p4, h'.1]
      unfold sub1
      split <;> split <;> omega
  · have hi : i = xs.length := by omega
    rw [hi, List.drop_of_length_le (by simp), szRows, sub1_yes (by omega)] at p4
    rw [← p4]
    refine int_eq ?_
    omega
theorem toMethod_ok (x : MMethod) : x.sz ≤ 1048576 → PCall Tryz.prog 267 [x.v] x.v := by
  intro hsz S
  simp only [MMethod.sz, MMethod.enc_eq, szRow, szRow_append, D.sz, List.length_map, MExpr.sz_def] at hsz
  refine acall_cw (rs := [.cell 2 225]) Tryz.checked.mixed Tryz.func267 Tryz.ntmps267 rfl rfl rfl rfl rfl ?_
  simp -implicitDefEqProofs (disch := omega) only [go_sem]
  refine call_w (toStringS_ok x.fVars (by omega)) ?_
  simp -implicitDefEqProofs (disch := omega) only [go_sem]
  refine call_w (toExpr_ok x.fBody (by omega)) ?_
  simp -implicitDefEqProofs (disch := omega) only [go_sem]
theorem toMethodS_ok (xs : List MMethod) : xs.length + szRows (xs.map MMethod.enc) ≤ 1048576 → PCall Tryz.prog 222 [.c (.d (.sl (xs.map MMethod.enc)))] (.c (.d (.sl (xs.map MMethod.enc)))) := by
  intro hsz S
  refine acall_cw (rs := [.tmp 2]) Tryz.checked.mixed Tryz.func222 Tryz.ntmps222 rfl rfl rfl rfl rfl ?_
  simp -implicitDefEqProofs (disch := omega) only [go_sem]
  (repeat (with_reducible refine And.intro ?_ ?_; focus first | omega | rfl | assumption | exact ⟨_, rfl, rfl⟩ | (simp; omega) | (simp; done)))
  refine loop_at (ι := Nat × List (List D)) Tryz.checked.mixed rfl [0, 3, 4] (fun y => [.c (.d (.sl (xs.map MMethod.enc))), .c (.msl (0, 0)), .c (.d (.i .i64 y.1))]) (fun y => [.mrow 11 y.2] :: S)
    (fun y => y.1 ≤ xs.length ∧ Filled 11 y.1 y.2 (xs.map MMethod.enc)) (fun y => xs.length - y.1) (0, _) rfl rfl ⟨Nat.zero_le _, Filled.start (by simp) rfl⟩ ?_
  rintro ⟨i, R⟩ ⟨p1, p2⟩
  simp only at p1 p2
  simp -implicitDefEqProofs (disch := omega) only [go_sem]
  with_reducible refine split2 (fun hb => ?_) (fun hb => ?_) <;> have h := hb <;> (try simp only [wf_preprocess] at h) <;> simp -implicitDefEqProofs (disch := omega) only [go_sem, hb] <;> (repeat (with_reducible refine And.intro ?_ ?_; focus first | omega | rfl | assumption | exact ⟨_, rfl, rfl⟩ | (simp; omega) | (simp; done)))
  · have hi : i < xs.length := by omega
    have hx : xs[i].sz ≤ szRows (xs.map MMethod.enc) := szRows_mem (List.mem_map_of_mem (List.getElem_mem hi))
    (repeat (with_reducible refine And.intro ?_ ?_; focus first | omega | rfl | assumption | exact ⟨_, rfl, rfl⟩ | (simp; omega) | (simp; done)))
    refine call_w (toMethod_ok xs[i] (by omega)) ?_
    simp -implicitDefEqProofs (disch := omega) only [go_sem]
    have hR := p2.1
    rw [List.length_map] at hR
    (repeat (with_reducible refine And.intro ?_ ?_; focus first | omega | rfl | assumption | exact ⟨_, rfl, rfl⟩ | (simp; omega) | (simp; done)))
    refine inv_at (i + 1, _) (by simp only; omega) rfl rfl ⟨by simp only; omega, p2.step (by simp [hi, MExpr.enc_eq, MMethod.enc_eq, MType.enc_eq]) rfl⟩
  · have hi : i = xs.length := by omega
    rw [p2.done (by rw [List.length_map]; omega)]
theorem eqMethod_ok (x : MMethod) : ∀ y : MMethod, x.sz ≤ 1048576 → PCall Tryz.prog 190 [x.v, y.v] (.c (.d (.b (dec (x = y))))) := by
  intro y hsz S
  simp only [MMethod.sz, MMethod.enc_eq, szRow, szRow_append, D.sz, List.length_map, MExpr.sz_def] at hsz
  refine acall_cw (rs := [.tmp 4]) Tryz.checked.mixed Tryz.func190 Tryz.ntmps190 rfl rfl rfl rfl rfl ?_
  simp -implicitDefEqProofs (disch := omega) only [go_sem]
  with_reducible refine split2 (fun hb => ?_) (fun hb => ?_) <;> have h := hb <;> (try simp only [wf_preprocess] at h) <;> simp -implicitDefEqProofs (disch := omega) only [go_sem, hb] <;> (repeat (with_reducible refine And.intro ?_ ?_; focus first | omega | rfl | assumption | exact ⟨_, rfl, rfl⟩ | (simp; omega) | (simp; done)))
  · exact bool_eq (dec_false (fun e => h (by rw [e]))).symm
  have eName := h
  clear h
  refine call_w (eqStringS_ok x.fVars _ (by omega)) ?_
  simp -implicitDefEqProofs (disch := omega) only [go_sem]
  with_reducible refine split2 (fun hb => ?_) (fun hb => ?_) <;> have h := hb <;> (try simp only [wf_preprocess] at h) <;> simp -implicitDefEqProofs (disch := omega) only [go_sem, hb] <;> (repeat (with_reducible refine And.intro ?_ ?_; focus first | omega | rfl | assumption | exact ⟨_, rfl, rfl⟩ | (simp; omega) | (simp; done)))
  · exact bool_eq (dec_false (fun e => h (by rw [e]))).symm
  have eVars := h
  clear h
  refine call_w (eqExpr_ok x.fBody _ (by omega)) ?_
  simp -implicitDefEqProofs (disch := omega) only [go_sem]
  with_reducible refine split2 (fun hb => ?_) (fun hb => ?_) <;> have h := hb <;> (try simp only [wf_preprocess] at h) <;> simp -implicitDefEqProofs (disch := omega) only [go_sem, hb] <;> (repeat (with_reducible refine And.intro ?_ ?_; focus first | omega | rfl | assumption | exact ⟨_, rfl, rfl⟩ | (simp; omega) | (simp; done)))
  · exact bool_eq (dec_false (fun e => h (by rw [e]))).symm
  have eBody := h
  clear h
  exact bool_eq (dec_true (MMethod.ext' eName eVars eBody)).symm
theorem eqMethodS_ok (xs : List MMethod) : ∀ ys : List MMethod, xs.length + szRows (xs.map MMethod.enc) ≤ 1048576 → PCall Tryz.prog 113 [.c (.d (.sl (xs.map MMethod.enc))), .c (.d (.sl (ys.map MMethod.enc)))] (.c (.d (.b (dec (xs = ys))))) := by
  intro ys hsz S
  refine acall_cw (rs := [.tmp 4]) Tryz.checked.mixed Tryz.func113 Tryz.ntmps113 rfl rfl rfl rfl rfl ?_
  simp -implicitDefEqProofs (disch := omega) only [go_sem]
  with_reducible refine split2 (fun hb => ?_) (fun hb => ?_) <;> have h := hb <;> (try simp only [wf_preprocess] at h) <;> simp -implicitDefEqProofs (disch := omega) only [go_sem, hb] <;> (repeat (with_reducible refine And.intro ?_ ?_; focus first | omega | rfl | assumption | exact ⟨_, rfl, rfl⟩ | (simp; omega) | (simp; done)))
  · exact bool_eq (dec_false (fun e => h (by rw [e]))).symm
  have hl : xs.length = ys.length := by omega
  refine loop_at (ι := Nat) Tryz.checked.mixed rfl [0, 1, 5] (fun y => [.c (.d (.sl (xs.map MMethod.enc))), .c (.d (.sl (ys.map MMethod.enc))), .c (.d (.i .i64 y))]) (fun y => [] :: S)
    (fun i => i ≤ xs.length ∧ ∀ j, j < i → xs[j]? = ys[j]?) (fun y => xs.length - y) 0 rfl rfl ⟨Nat.zero_le _, fun j h => by omega⟩ ?_
  rintro i ⟨p1, p2⟩
  simp -implicitDefEqProofs (disch := omega) only [go_sem]
  with_reducible refine split2 (fun hb => ?_) (fun hb => ?_) <;> have h := hb <;> (try simp only [wf_preprocess] at h) <;> simp -implicitDefEqProofs (disch := omega) only [go_sem, hb] <;> (repeat (with_reducible refine And.intro ?_ ?_; focus first | omega | rfl | assumption | exact ⟨_, rfl, rfl⟩ | (simp; omega) | (simp; done)))
  · have hi : i < xs.length := by omega
    have hi' : i < ys.length := by omega
    have hx : xs[i].sz ≤ szRows (xs.map MMethod.enc) := szRows_mem (List.mem_map_of_mem (List.getElem_mem hi))
    (repeat (with_reducible refine And.intro ?_ ?_; focus first | omega | rfl | assumption | exact ⟨_, rfl, rfl⟩ | (simp; omega) | (simp; done)))
    refine call_w (eqMethod_ok xs[i] ys[i] (by omega)) ?_
    simp -implicitDefEqProofs (disch := omega) only [go_sem]
    with_reducible refine split2 (fun hb => ?_) (fun hb => ?_) <;> have h := hb <;> (try simp only [wf_preprocess] at h) <;> simp -implicitDefEqProofs (disch := omega) only [go_sem, hb] <;> (repeat (with_reducible refine And.intro ?_ ?_; focus first | omega | rfl | assumption | exact ⟨_, rfl, rfl⟩ | (simp; omega) | (simp; done)))
    · exact bool_eq (dec_false (fun e => h (by simp only [e]))).symm
    refine inv_at (i + 1) (by omega) rfl rfl ⟨by omega, fun j hj => ?_⟩
    by_cases e : j = i
    · subst e
      rw [List.getElem?_eq_getElem hi, List.getElem?_eq_getElem hi', h]
    · exact p2 j (by omega)
  · have hi : i = xs.length := by omega
    refine bool_eq (dec_true (List.ext_getElem? fun j => ?_)).symm
    by_cases hj : j < i
    · exact p2 j hj
    · rw [List.getElem?_eq_none (by omega), List.getElem?_eq_none (by omega)]
end Go.Proofs.YtnleocfkdidhoaaGreat

namespace Go.Proofs.YtnleocfkdidhoaaGreat
open Go Go.Ab
theorem szInstance_ok (x : MInstance) : ∀ left : Int, 0 ≤ left → left ≤ 1048576 → FitL x.enc → PCall Tryz.prog 137 [x.v, .c (.d (.i .i64 left))] (.c (.d (.i .i64 (sub1 left x.sz)))) := by
  intro left h0 h1 hf S
  simp only [MInstance.enc_eq, List.cons_append, List.nil_append, fitL_cons, fitL_append, fitL_nil_iff, and_true] at hf
  obtain ⟨fTrait, fVars, fHead, fWhere, fDefault, fHasAssoc, fAssoc, fMethods⟩ := hf
  have hz : x.sz = x.fTrait.length + ((x.fVars.length + szRows (x.fVars.map encS)) + (x.fHead.sz + ((x.fWhere.length + szRows (x.fWhere.map MBound.enc)) + (x.fAssoc.sz + ((x.fMethods.length + szRows (x.fMethods.map MMethod.enc))))))) := by
    simp only [MInstance.sz, MInstance.enc_eq, szRow, szRow_append, D.sz, List.length_map, Nat.add_zero, Nat.zero_add, MType.sz_def] <;> omega
  refine acall_cw (rs := [.tmp 4]) Tryz.checked.mixed Tryz.func137 Tryz.ntmps137 rfl rfl rfl rfl rfl ?_
  rw [hz]
  have gTrait := fit_s fTrait
  simp -implicitDefEqProofs (disch := omega) only [go_sem]
  with_reducible refine split2 (fun hb => ?_) (fun hb => ?_) <;> have h := hb <;> (try simp only [wf_preprocess] at h) <;> simp -implicitDefEqProofs (disch := omega) only [go_sem, hb] <;> (repeat (with_reducible refine And.intro ?_ ?_; focus first | omega | rfl | assumption | exact ⟨_, rfl, rfl⟩ | (simp; omega) | (simp; done)))
  · exact int_eq (sub1_no (by omega)).symm
  refine call_w (szStringS_ok x.fVars _ (by omega) (by omega) fVars) ?_
  simp -implicitDefEqProofs (disch := omega) only [go_sem]
  with_reducible refine split2 (fun hb => ?_) (fun hb => ?_) <;> have h := hb <;> (try simp only [wf_preprocess] at h) <;> simp -implicitDefEqProofs (disch := omega) only [go_sem, hb] <;> (repeat (with_reducible refine And.intro ?_ ?_; focus first | omega | rfl | assumption | exact ⟨_, rfl, rfl⟩ | (simp; omega) | (simp; done)))
  · have h' := sub1_neg h
    exact int_eq (sub1_no (by omega)).symm
  have hVars := sub1_nn h
  simp only [hVars.1]
  refine call_w (szType_ok x.fHead _ (by omega) (by omega) fHead) ?_
  simp -implicitDefEqProofs (disch := omega) only [go_sem]
  with_reducible refine split2 (fun hb => ?_) (fun hb => ?_) <;> have h := hb <;> (try simp only [wf_preprocess] at h) <;> simp -implicitDefEqProofs (disch := omega) only [go_sem, hb] <;> (repeat (with_reducible refine And.intro ?_ ?_; focus first | omega | rfl | assumption | exact ⟨_, rfl, rfl⟩ | (simp; omega) | (simp; done)))
  · have h' := sub1_neg h
    exact int_eq (sub1_no (by omega)).symm
  have hHead := sub1_nn h
  simp only [hHead.1]
  refine call_w (szBoundS_ok x.fWhere _ (by omega) (by omega) fWhere) ?_
  simp -implicitDefEqProofs (disch := omega) only [go_sem]
  with_reducible refine split2 (fun hb => ?_) (fun hb => ?_) <;> have h := hb <;> (try simp only [wf_preprocess] at h) <;> simp -implicitDefEqProofs (disch := omega) only [go_sem, hb] <;> (repeat (with_reducible refine And.intro ?_ ?_; focus first | omega | rfl | assumption | exact ⟨_, rfl, rfl⟩ | (simp; omega) | (simp; done)))
  · have h' := sub1_neg h
    exact int_eq (sub1_no (by omega)).symm
  have hWhere := sub1_nn h
  simp only [hWhere.1]
  refine call_w (szType_ok x.fAssoc _ (by omega) (by omega) fAssoc) ?_
  simp -implicitDefEqProofs (disch := omega) only [go_sem]
  with_reducible refine split2 (fun hb => ?_) (fun hb => ?_) <;> have h := hb <;> (try simp only [wf_preprocess] at h) <;> simp -implicitDefEqProofs (disch := omega) only [go_sem, hb] <;> (repeat (with_reducible refine And.intro ?_ ?_; focus first | omega | rfl | assumption | exact ⟨_, rfl, rfl⟩ | (simp; omega) | (simp; done)))
  · have h' := sub1_neg h
    exact int_eq (sub1_no (by omega)).symm
  have hAssoc := sub1_nn h
  simp only [hAssoc.1]
  refine call_w (szMethodS_ok x.fMethods _ (by omega) (by omega) fMethods) ?_
  simp -implicitDefEqProofs (disch := omega) only [go_sem]
  with_reducible refine split2 (fun hb => ?_) (fun hb => ?_) <;> have h := hb <;> (try simp only [wf_preprocess] at h) <;> simp -implicitDefEqProofs (disch := omega) only [go_sem, hb] <;> (repeat (with_reducible refine And.intro ?_ ?_; focus first | omega | rfl | assumption | exact ⟨_, rfl, rfl⟩ | (simp; omega) | (simp; done)))
  · have h' := sub1_neg h
    exact int_eq (sub1_no (by omega)).symm
  have hMethods := sub1_nn h
  simp only [hMethods.1]
  refine int_eq ?_
  rw [sub1_yes (by omega)]
  omega
theorem szInstanceS_ok (xs : List MInstance) : ∀ left : Int, 0 ≤ left → left ≤ 1048576 → (D.sl (xs.map MInstance.enc)).Fit → PCall Tryz.prog 65 [.c (.d (.sl (xs.map MInstance.enc))), .c (.d (.i .i64 left))] (.c (.d (.i .i64 (sub1 left (xs.length + szRows (xs.map MInstance.enc)))))) := by
  intro left h0 h1 hf S
  obtain ⟨hf1, hf2⟩ := fit_sl hf
  rw [List.length_map] at hf1
  refine acall_cw (rs := [.tmp 4]) Tryz.checked.mixed Tryz.func65 Tryz.ntmps65 rfl rfl rfl rfl rfl ?_
  simp -implicitDefEqProofs (disch := omega) only [go_sem]
  with_reducible refine split2 (fun hb => ?_) (fun hb => ?_) <;> have h := hb <;> (try simp only [wf_preprocess] at h) <;> simp -implicitDefEqProofs (disch := omega) only [go_sem, hb] <;> (repeat (with_reducible refine And.intro ?_ ?_; focus first | omega | rfl | assumption | exact ⟨_, rfl, rfl⟩ | (simp; omega) | (simp; done)))
  · exact int_eq (sub1_no (by omega)).symm
  refine loop_at (ι := Nat × Int) Tryz.checked.mixed rfl [0, 1, 5] (fun y => [.c (.d (.sl (xs.map MInstance.enc))), .c (.d (.i .i64 y.2)), .c (.d (.i .i64 y.1))]) (fun _ => [] :: S)
    (fun y => y.1 ≤ xs.length ∧ 0 ≤ y.2 ∧ y.2 ≤ 1048576 ∧ sub1 y.2 (szRows ((xs.map MInstance.enc).drop y.1)) = sub1 left (xs.length + szRows (xs.map MInstance.enc))) (fun y => xs.length - y.1) (0, left - xs.length) rfl rfl ⟨by omega, by omega, by omega, ?_⟩ ?_
  · unfold sub1
    rw [List.drop_zero]
    split <;> split <;> omega
  rintro ⟨i, l⟩ ⟨p1, p2, p3, p4⟩
  simp only at p1 p2 p3 p4
  simp -implicitDefEqProofs (disch := omega) only [go_sem]
  with_reducible refine split2 (fun hb => ?_) (fun hb => ?_) <;> have h := hb <;> (try simp only [wf_preprocess] at h) <;> simp -implicitDefEqProofs (disch := omega) only [go_sem, hb] <;> (repeat (with_reducible refine And.intro ?_ ?_; focus first | omega | rfl | assumption | exact ⟨_, rfl, rfl⟩ | (simp; omega) | (simp; done)))
  · have hi : i < xs.length := by omega
    rw [List.drop_eq_getElem_cons (by rw [List.length_map]; exact hi), szRows, List.getElem_map, MInstance.sz_def] at p4
    (repeat (with_reducible refine And.intro ?_ ?_; focus first | omega | rfl | assumption | exact ⟨_, rfl, rfl⟩ | (simp; omega) | (simp; done)))
    refine call_w (szInstance_ok xs[i] _ (by omega) (by omega) (hf2 _ (List.mem_map_of_mem (List.getElem_mem hi)))) ?_
    simp -implicitDefEqProofs (disch := omega) only [go_sem]
    with_reducible refine split2 (fun hb => ?_) (fun hb => ?_) <;> have h := hb <;> (try simp only [wf_preprocess] at h) <;> simp -implicitDefEqProofs (disch := omega) only [go_sem, hb] <;> (repeat (with_reducible refine And.intro ?_ ?_; focus first | omega | rfl | assumption | exact ⟨_, rfl, rfl⟩ | (simp; omega) | (simp; done)))
    · have h' := sub1_neg h
      rw [← p4, sub1_no (by omega)]
    · have h' := sub1_nn h
      refine inv_at (i + 1, sub1 l _) (by simp only; omega) rfl rfl ⟨by simp only; omega, by simp only; omega, by simp only; omega, ?_⟩
      simp only
      rw [← p4, h'.1]
      unfold sub1
      split <;> split <;> omega
  · have hi : i = xs.length := by omega
    rw [hi, List.drop_of_length_le (by simp), szRows, sub1_yes (by omega)] at p4
    rw [← p4]
    refine int_eq ?_
    omega
theorem toInstance_ok (x : MInstance) : x.sz ≤ 1048576 → PCall Tryz.prog 147 [x.v] x.v := by
  intro hsz S
  simp only [MInstance.sz, MInstance.enc_eq, szRow, szRow_append, D.sz, List.length_map, MType.sz_def] at hsz
  refine acall_cw (rs := [.cell 2 93]) Tryz.checked.mixed Tryz.func147 Tryz.ntmps147 rfl rfl rfl rfl rfl ?_
  simp -implicitDefEqProofs (disch := omega) only [go_sem]
  refine call_w (toStringS_ok x.fVars (by omega)) ?_
  simp -implicitDefEqProofs (disch := omega) only [go_sem]
  refine call_w (toType_ok x.fHead (by omega)) ?_
  simp -implicitDefEqProofs (disch := omega) only [go_sem]
  refine call_w (toBoundS_ok x.fWhere (by omega)) ?_
  simp -implicitDefEqProofs (disch := omega) only [go_sem]
  refine call_w (toType_ok x.fAssoc (by omega)) ?_
  simp -implicitDefEqProofs (disch := omega) only [go_sem]
  refine call_w (toMethodS_ok x.fMethods (by omega)) ?_
  simp -implicitDefEqProofs (disch := omega) only [go_sem]
theorem toInstanceS_ok (xs : List MInstance) : xs.length + szRows (xs.map MInstance.enc) ≤ 1048576 → PCall Tryz.prog 76 [.c (.d (.sl (xs.map MInstance.enc)))] (.c (.d (.sl (xs.map MInstance.enc)))) := by
  intro hsz S
  refine acall_cw (rs := [.tmp 2]) Tryz.checked.mixed Tryz.func76 Tryz.ntmps76 rfl rfl rfl rfl rfl ?_
  simp -implicitDefEqProofs (disch := omega) only [go_sem]
  (repeat (with_reducible refine And.intro ?_ ?_; focus first | omega | rfl | assumption | exact ⟨_, rfl, rfl⟩ | (simp; omega) | (simp; done)))
  refine loop_at (ι := Nat × List (List D)) Tryz.checked.mixed rfl [0, 3, 4] (fun y => [.c (.d (.sl (xs.map MInstance.enc))), .c (.msl (0, 0)), .c (.d (.i .i64 y.1))]) (fun y => [.mrow 12 y.2] :: S)
    (fun y => y.1 ≤ xs.length ∧ Filled 12 y.1 y.2 (xs.map MInstance.enc)) (fun y => xs.length - y.1) (0, _) rfl rfl ⟨Nat.zero_le _, Filled.start (by simp) rfl⟩ ?_
  rintro ⟨i, R⟩ ⟨p1, p2⟩
  simp only at p1 p2
  simp -implicitDefEqProofs (disch := omega) only [go_sem]
  with_reducible refine split2 (fun hb => ?_) (fun hb => ?_) <;> have h := hb <;> (try simp only [wf_preprocess] at h) <;> simp -implicitDefEqProofs (disch := omega) only [go_sem, hb] <;> (repeat (with_reducible refine And.intro ?_ ?_; focus first | omega | rfl | assumption | exact ⟨_, rfl, rfl⟩ | (simp; omega) | (simp; done)))
  · have hi : i < xs.length := by omega
    have hx : xs[i].sz ≤ szRows (xs.map MInstance.enc) := szRows_mem (List.mem_map_of_mem (List.getElem_mem hi))
    (repeat (with_reducible refine And.intro ?_ ?_; focus first | omega | rfl | assumption | exact ⟨_, rfl, rfl⟩ | (simp; omega) | (simp; done)))
    refine call_w (toInstance_ok xs[i] (by omega)) ?_
    simp -implicitDefEqProofs (disch := omega) only [go_sem]
    have hR := p2.1
    rw [List.length_map] at hR
    (repeat (with_reducible refine And.intro ?_ ?_; focus first | omega | rfl | assumption | exact ⟨_, rfl, rfl⟩ | (simp; omega) | (simp; done)))
    refine inv_at (i + 1, _) (by simp only; omega) rfl rfl ⟨by simp only; omega, p2.step (by simp [hi, MInstance.enc_eq, MType.enc_eq]) rfl⟩
  · have hi : i = xs.length := by omega
    rw [p2.done (by rw [List.length_map]; omega)]
theorem eqInstance_ok (x : MInstance) : ∀ y : MInstance, x.sz ≤ 1048576 → PCall Tryz.prog 44 [x.v, y.v] (.c (.d (.b (dec (x = y))))) := by
  intro y hsz S
  simp only [MInstance.sz, MInstance.enc_eq, szRow, szRow_append, D.sz, List.length_map, MType.sz_def] at hsz
  refine acall_cw (rs := [.tmp 4]) Tryz.checked.mixed Tryz.func44 Tryz.ntmps44 rfl rfl rfl rfl rfl ?_
  simp -implicitDefEqProofs (disch := omega) only [go_sem]
  with_reducible refine split2 (fun hb => ?_) (fun hb => ?_) <;> have h := hb <;> (try simp only [wf_preprocess] at h) <;> simp -implicitDefEqProofs (disch := omega) only [go_sem, hb] <;> (repeat (with_reducible refine And.intro ?_ ?_; focus first | omega | rfl | assumption | exact ⟨_, rfl, rfl⟩ | (simp; omega) | (simp; done)))
  · exact bool_eq (dec_false (fun e => h (by rw [e]))).symm
  have eTrait := h
  clear h
  refine call_w (eqStringS_ok x.fVars _ (by omega)) ?_
  simp -implicitDefEqProofs (disch := omega) only [go_sem]
  with_reducible refine split2 (fun hb => ?_) (fun hb => ?_) <;> have h := hb <;> (try simp only [wf_preprocess] at h) <;> simp -implicitDefEqProofs (disch := omega) only [go_sem, hb] <;> (repeat (with_reducible refine And.intro ?_ ?_; focus first | omega | rfl | assumption | exact ⟨_, rfl, rfl⟩ | (simp; omega) | (simp; done)))
  · exact bool_eq (dec_false (fun e => h (by rw [e]))).symm
  have eVars := h
  clear h
  refine call_w (eqType_ok x.fHead _ (by omega)) ?_
  simp -implicitDefEqProofs (disch := omega) only [go_sem]
  with_reducible refine split2 (fun hb => ?_) (fun hb => ?_) <;> have h := hb <;> (try simp only [wf_preprocess] at h) <;> simp -implicitDefEqProofs (disch := omega) only [go_sem, hb] <;> (repeat (with_reducible refine And.intro ?_ ?_; focus first | omega | rfl | assumption | exact ⟨_, rfl, rfl⟩ | (simp; omega) | (simp; done)))
  · exact bool_eq (dec_false (fun e => h (by rw [e]))).symm
  have eHead := h
  clear h
  refine call_w (eqBoundS_ok x.fWhere _ (by omega)) ?_
  simp -implicitDefEqProofs (disch := omega) only [go_sem]
  with_reducible refine split2 (fun hb => ?_) (fun hb => ?_) <;> have h := hb <;> (try simp only [wf_preprocess] at h) <;> simp -implicitDefEqProofs (disch := omega) only [go_sem, hb] <;> (repeat (with_reducible refine And.intro ?_ ?_; focus first | omega | rfl | assumption | exact ⟨_, rfl, rfl⟩ | (simp; omega) | (simp; done)))
  · exact bool_eq (dec_false (fun e => h (by rw [e]))).symm
  have eWhere := h
  clear h
  with_reducible refine split2 (fun hb => ?_) (fun hb => ?_) <;> have h := hb <;> (try simp only [wf_preprocess] at h) <;> simp -implicitDefEqProofs (disch := omega) only [go_sem, hb] <;> (repeat (with_reducible refine And.intro ?_ ?_; focus first | omega | rfl | assumption | exact ⟨_, rfl, rfl⟩ | (simp; omega) | (simp; done)))
  · exact bool_eq (dec_false (fun e => h (by rw [e]))).symm
  have eDefault := h
  clear h
  with_reducible refine split2 (fun hb => ?_) (fun hb => ?_) <;> have h := hb <;> (try simp only [wf_preprocess] at h) <;> simp -implicitDefEqProofs (disch := omega) only [go_sem, hb] <;> (repeat (with_reducible refine And.intro ?_ ?_; focus first | omega | rfl | assumption | exact ⟨_, rfl, rfl⟩ | (simp; omega) | (simp; done)))
  · exact bool_eq (dec_false (fun e => h (by rw [e]))).symm
  have eHasAssoc := h
  clear h
  refine call_w (eqType_ok x.fAssoc _ (by omega)) ?_
  simp -implicitDefEqProofs (disch := omega) only [go_sem]
  with_reducible refine split2 (fun hb => ?_) (fun hb => ?_) <;> have h := hb <;> (try simp only [wf_preprocess] at h) <;> simp -implicitDefEqProofs (disch := omega) only [go_sem, hb] <;> (repeat (with_reducible refine And.intro ?_ ?_; focus first | omega | rfl | assumption | exact ⟨_, rfl, rfl⟩ | (simp; omega) | (simp; done)))
  · exact bool_eq (dec_false (fun e => h (by rw [e]))).symm
  have eAssoc := h
  clear h
  refine call_w (eqMethodS_ok x.fMethods _ (by omega)) ?_
  simp -implicitDefEqProofs (disch := omega) only [go_sem]
  with_reducible refine split2 (fun hb => ?_) (fun hb => ?_) <;> have h := hb <;> (try simp only [wf_preprocess] at h) <;> simp -implicitDefEqProofs (disch := omega) only [go_sem, hb] <;> (repeat (with_reducible refine And.intro ?_ ?_; focus first | omega | rfl | assumption | exact ⟨_, rfl, rfl⟩ | (simp; omega) | (simp; done)))
  · exact bool_eq (dec_false (fun e => h (by rw [e]))).symm
  have eMethods := h
  clear h
  exact bool_eq (dec_true (MInstance.ext' eTrait eVars eHead eWhere eDefault eHasAssoc eAssoc eMethods)).symm
theorem eqInstanceS_ok (xs : List MInstance) : ∀ ys : List MInstance, xs.length + szRows (xs.map MInstance.enc) ≤ 1048576 → PCall Tryz.prog 89 [.c (.d (.sl (xs.map MInstance.enc))), .c (.d (.sl (ys.map MInstance.enc)))] (.c (.d (.b (dec (xs = ys))))) := by
  intro ys hsz S
  refine acall_cw (rs := [.tmp 4]) Tryz.checked.mixed Tryz.func89 Tryz.ntmps89 rfl rfl rfl rfl rfl ?_
  simp -implicitDefEqProofs (disch := omega) only [go_sem]
  with_reducible refine split2 (fun hb => ?_) (fun hb => ?_) <;> have h := hb <;> (try simp only [wf_preprocess] at h) <;> simp -implicitDefEqProofs (disch := omega) only [go_sem, hb] <;> (repeat (with_reducible refine And.intro ?_ ?_; focus first | omega | rfl | assumption | exact ⟨_, rfl, rfl⟩ | (simp; omega) | (simp; done)))
  · exact bool_eq (dec_false (fun e => h (by rw [e]))).symm
  have hl : xs.length = ys.length := by omega
  refine loop_at (ι := Nat) Tryz.checked.mixed rfl [0, 1, 5] (fun y => [.c (.d (.sl (xs.map MInstance.enc))), .c (.d (.sl (ys.map MInstance.enc))), .c (.d (.i .i64 y))]) (fun y => [] :: S)
    (fun i => i ≤ xs.length ∧ ∀ j, j < i → xs[j]? = ys[j]?) (fun y => xs.length - y) 0 rfl rfl ⟨Nat.zero_le _, fun j h => by omega⟩ ?_
  rintro i ⟨p1, p2⟩
  simp -implicitDefEqProofs (disch := omega) only [go_sem]
  with_reducible refine split2 (fun hb => ?_) (fun hb => ?_) <;> have h := hb <;> (try simp only [wf_preprocess] at h) <;> simp -implicitDefEqProofs (disch := omega) only [go_sem, hb] <;> (repeat (with_reducible refine And.intro ?_ ?_; focus first | omega | rfl | assumption | exact ⟨_, rfl, rfl⟩ | (simp; omega) | (simp; done)))
  · have hi : i < xs.length := by omega
    have hi' : i < ys.length := by omega
    have hx : xs[i].sz ≤ szRows (xs.map MInstance.enc) := szRows_mem (List.mem_map_of_mem (List.getElem_mem hi))
    (repeat (with_reducible refine And.intro ?_ ?_; focus first | omega | rfl | assumption | exact ⟨_, rfl, rfl⟩ | (simp; omega) | (simp; done)))
    refine call_w (eqInstance_ok xs[i] ys[i] (by omega)) ?_
    simp -implicitDefEqProofs (disch := omega) only [go_sem]
    with_reducible refine split2 (fun hb => ?_) (fun hb => ?_) <;> have h := hb <;> (try simp only [wf_preprocess] at h) <;> simp -implicitDefEqProofs (disch := omega) only [go_sem, hb] <;> (repeat (with_reducible refine And.intro ?_ ?_; focus first | omega | rfl | assumption | exact ⟨_, rfl, rfl⟩ | (simp; omega) | (simp; done)))
    · exact bool_eq (dec_false (fun e => h (by simp only [e]))).symm
    refine inv_at (i + 1) (by omega) rfl rfl ⟨by omega, fun j hj => ?_⟩
    by_cases e : j = i
    · subst e
      rw [List.getElem?_eq_getElem hi, List.getElem?_eq_getElem hi', h]
    · exact p2 j (by omega)
  · have hi : i = xs.length := by omega
    refine bool_eq (dec_true (List.ext_getElem? fun j => ?_)).symm
    by_cases hj : j < i
    · exact p2 j hj
    · rw [List.getElem?_eq_none (by omega), List.getElem?_eq_none (by omega)]
end Go.Proofs.YtnleocfkdidhoaaGreat

namespace Go.Ab
noncomputable def methOk (m : MMethod) : Bool := dec (1 ≤ m.fVars.length) && (dec (m.fVars.length ≤ 5) && bodyOk m.fVars m.fBody)
noncomputable def methNames (x : MInstance) : List (List UInt8) := x.fMethods.map MMethod.fName
noncomputable def headOk (x : MInstance) : Bool := validName x.fTrait && (dec (x.fVars.length ≤ 3) && (namesOk x.fVars && (typeOver x.fVars x.fHead && (!hasProj x.fHead && (dec (x.fHead.fKind = 2 ∨ x.fHead.fKind = 1) && (among x.fVars (tvars [] x.fHead) && (boundsOk x.fVars x.fWhere && ((if x.fHasAssoc = true then typeOver x.fVars x.fAssoc else dec (zeroT x.fAssoc)) && dec (x.fMethods.length ≤ 6)))))))))
noncomputable def validInst (x : MInstance) : Bool := headOk x && (x.fMethods.all methOk && namesOk (methNames x))
theorem MInstance.sum (x : MInstance) : x.fTrait.length + (x.fVars.length + szRows (x.fVars.map encS)) + x.fHead.sz + (x.fWhere.length + szRows (x.fWhere.map MBound.enc)) + x.fAssoc.sz + (x.fMethods.length + szRows (x.fMethods.map MMethod.enc)) ≤ x.sz := by
  simp only [MInstance.sz, MInstance.enc_eq, szRow, szRow_append, D.sz, List.length_map, MType.sz_def]
  omega
theorem MMethod.sum (x : MMethod) : x.fName.length + (x.fVars.length + szRows (x.fVars.map encS)) + x.fBody.sz ≤ x.sz := by
  simp only [MMethod.sz, MMethod.enc_eq, szRow, szRow_append, D.sz, List.length_map, MExpr.sz_def]
  omega
theorem mem_szM {xs : List MMethod} {t : MMethod} (h : t ∈ xs) : t.sz ≤ szRows (xs.map MMethod.enc) := szRows_mem (List.mem_map_of_mem h)
theorem mem_foldV (v : List UInt8) : ∀ (us : List MType) (out : List (List UInt8)), v ∈ us.foldl addV out ↔ v ∈ out ∨ 0 < us.countP (isV v)
  | [], out => by simp
  | u :: us, out => by
    rw [List.foldl_cons, mem_foldV v us, List.countP_cons]
    have h : v ∈ addV out u ↔ v ∈ out ∨ isV v u = true := by
      unfold addV isV
      split
      · rename_i h
        simp only [List.mem_append, List.mem_singleton]
        constructor
        · rintro (h1 | h1)
          · exact .inl h1
          · right; simp [h1, h.1]
        · rintro (h1 | h1)
          · exact .inl h1
          · right; simp at h1; exact h1.2.symm
      · rename_i h
        constructor
        · exact .inl
        · rintro (h1 | h1)
          · exact h1
          · simp at h1
            by_cases e : u.fName ∈ out
            · rw [← h1.2]; exact e
            · exact absurd ⟨h1.1, e⟩ h
    rw [h]
    cases isV v u <;> simp
theorem occurs_mem (v : List UInt8) (t : MType) : occurs v t = dec (v ∈ tvars [] t) := by
  unfold occurs tvars countV
  rw [decide_dec]
  exact dec_congr (by rw [mem_foldV]; simp)
theorem valid_kind {t : MType} (h : validType t = true) : t.fKind = 1 ∨ t.fKind = 2 ∨ t.fKind = 3 ∨ t.fKind = 4 := by
  have h1 := (of_dec h).1
  rw [formed_eq, Bool.and_eq_true] at h1
  have h2 := of_dec h1.1
  omega
theorem proj_kind {t : MType} (h : hasProj t = false) : t.fKind ≠ 3 := by
  rw [hasProj_eq] at h
  intro e
  simp [e] at h
end Go.Ab
namespace Go.Proofs.YtnleocfkdidhoaaGreat
open Go Go.Ab
set_option maxHeartbeats 2000000 in
theorem implValidInst_ok (x : MInstance) (hsz : x.sz ≤ 4194304) : PCall Tryz.prog 84 [x.v] (.c (.d (.b (validInst x)))) := fun S => by
  have hs := MInstance.sum x
  have hV : ∀ s ∈ x.fVars, s.length ≤ 4194304 := fun s h => by have := strs_b h; omega
  have hW : ∀ b ∈ x.fWhere, b.sz ≤ 4194304 := fun b h => by have := mem_szB h; omega
  have hM : ∀ m ∈ x.fMethods, m.sz ≤ 4194304 := fun m h => by have := mem_szM h; omega
  have no : headOk x = false → V.c (.d (.b false)) = V.c (.d (.b (validInst x))) := fun h => bool_eq (by unfold validInst; rw [h]; rfl)
  refine (show Hold (headOk x = true → ?T) → _ from fun tail => ?main) ?tp
  case' main =>
    refine acall_cw (rs := [.tmp 2]) Tryz.checked.mixed Tryz.func84 Tryz.ntmps84 rfl rfl rfl rfl rfl ?_
    simp -implicitDefEqProofs (disch := omega) only [go_sem]
    repeat' (first
      | with_reducible refine split2 (fun hb => ?_) (fun hb => ?_) <;> have h := hb <;> (try simp only [wf_preprocess] at h) <;> simp -implicitDefEqProofs (disch := omega) only [go_sem, hb] <;> (repeat (with_reducible refine And.intro ?_ ?_; focus first | omega | rfl | assumption | exact ⟨_, rfl, rfl⟩ | (simp; omega) | (simp; done)))
      | ((with_reducible show CallG _ _ 78 _ _ _ _); refine call_w (implValidName_ok x.fTrait (by omega)) ?_; simp -implicitDefEqProofs (disch := omega) only [go_sem])
      | ((with_reducible show CallG _ _ 79 _ _ _ _); refine call_w (areNames_ok x.fVars (by omega) hV) ?_; simp -implicitDefEqProofs (disch := omega) only [go_sem])
      | ((with_reducible show CallG _ _ 158 _ _ _ _); refine call_w (isTypeOver_ok x.fHead x.fVars (by omega) (by omega)) ?_; simp -implicitDefEqProofs (disch := omega) only [go_sem])
      | ((with_reducible show CallG _ _ 158 _ _ _ _); refine call_w (isTypeOver_ok x.fAssoc x.fVars (by omega) (by omega)) ?_; simp -implicitDefEqProofs (disch := omega) only [go_sem])
      | ((with_reducible show CallG _ _ 159 _ _ _ _); refine call_w (implHasProj_ok x.fHead (by omega)) ?_; simp -implicitDefEqProofs (disch := omega) only [go_sem])
      | ((with_reducible show CallG _ _ 160 _ _ _ _); refine call_w (implTypeVars_ok x.fHead (by omega)) ?_; simp -implicitDefEqProofs (disch := omega) only [go_sem])
      | ((with_reducible show CallG _ _ 93 _ _ _ _); refine call_w (areAmong_ok x.fVars (tvars [] x.fHead) (by omega) (tvars_len0 _ (by omega))) ?_; simp -implicitDefEqProofs (disch := omega) only [go_sem])
      | ((with_reducible show CallG _ _ 161 _ _ _ _); refine call_w (areBounds_ok x.fWhere x.fVars (by omega) hW (by omega)) ?_; simp -implicitDefEqProofs (disch := omega) only [go_sem])
      | ((with_reducible show CallG _ _ 162 _ _ _ _); refine call_w (isZeroType_ok x.fAssoc) ?_; simp -implicitDefEqProofs (disch := omega) only [go_sem])
      | (refine no ?_; unfold headOk; grind [of_dec, of_dec_false, dec_true, dec_false]))
    all_goals
      have hh : headOk x = true := by unfold headOk; grind [of_dec, of_dec_false, dec_true, dec_false]
      (repeat (with_reducible refine And.intro ?_ ?_; focus first | omega | rfl | assumption | exact ⟨_, rfl, rfl⟩ | (simp; omega) | (simp; done)))
      refine aw_tok 3 1 [] rfl (by simp) ?_
      refine aw_canon (st' := [.box (x.enc.map .d), .tok 1 []] :: S) [3, 91, 92, 93] [.c (.tsl (0, 1) []), .c (.d (.sl (x.fMethods.map MMethod.enc))), .c (.d (.i .i64 x.fMethods.length)), .c (.d (.i .i64 0))] ?_ ?_ ?_
      · rfl
      · first | (simp -implicitDefEqProofs (disch := omega) only [go_sem]; done) | (simp -implicitDefEqProofs (disch := omega) only [go_sem]; simp [*])
      · exact tail.out hh
  refine ⟨fun hh => ?_⟩
  have bad : ∀ i, ∀ hi : i < x.fMethods.length, methOk x.fMethods[i] = false → V.c (.d (.b false)) = V.c (.d (.b (validInst x))) := fun i hi h => by
    have : x.fMethods.all methOk = false := Bool.eq_false_iff.2 fun hx => by
      rw [List.all_eq_true.1 hx _ (List.getElem_mem hi)] at h; cases h
    unfold validInst
    rw [this]; simp
  refine loop_at (ι := Nat × List (List UInt8)) Tryz.checked.mixed rfl [3, 91, 92, 93] (fun y => [.c (.tsl (0, 1) (y.2.map encS)), .c (.d (.sl (x.fMethods.map MMethod.enc))), .c (.d (.i .i64 x.fMethods.length)), .c (.d (.i .i64 y.1))]) (fun y => [.box (x.enc.map .d), .tok 1 (y.2.map encS)] :: S)
    (fun y => y.1 ≤ x.fMethods.length ∧ y.2 = (methNames x).take y.1 ∧ ∀ j, ∀ hj : j < x.fMethods.length, j < y.1 → methOk x.fMethods[j] = true) (fun y => x.fMethods.length - y.1) (0, []) rfl ?_ ⟨Nat.zero_le _, rfl, fun j _ h => by simp only at h; omega⟩ ?_
  · simp -implicitDefEqProofs (disch := omega) only [go_sem]
  rintro ⟨i, names⟩ ⟨p1, p2, p3⟩
  simp only at p1 p2 p3
  have pl : names.length ≤ x.fMethods.length := by rw [p2]; simp [methNames]; omega
  simp -implicitDefEqProofs (disch := omega) only [go_sem]
  with_reducible refine split2 (fun hb => ?_) (fun hb => ?_) <;> have h := hb <;> (try simp only [wf_preprocess] at h) <;> simp -implicitDefEqProofs (disch := omega) only [go_sem, hb] <;> (repeat (with_reducible refine And.intro ?_ ?_; focus first | omega | rfl | assumption | exact ⟨_, rfl, rfl⟩ | (simp; omega) | (simp; done)))
  · have hi : i < x.fMethods.length := by omega
    have hm := hM _ (List.getElem_mem hi)
    have hms := MMethod.sum x.fMethods[i]
    have hmv : ∀ s ∈ x.fMethods[i].fVars, s.length ≤ 4194304 := fun s h => by have := strs_b h; omega
    (repeat (with_reducible refine And.intro ?_ ?_; focus first | omega | rfl | assumption | exact ⟨_, rfl, rfl⟩ | (simp; omega) | (simp; done)))
    with_reducible refine split2 (fun hb => ?_) (fun hb => ?_) <;> have h := hb <;> (try simp only [wf_preprocess] at h) <;> simp -implicitDefEqProofs (disch := omega) only [go_sem, hb] <;> (repeat (with_reducible refine And.intro ?_ ?_; focus first | omega | rfl | assumption | exact ⟨_, rfl, rfl⟩ | (simp; omega) | (simp; done)))
    · exact bad i hi (by unfold methOk; rw [dec_false (by omega)]; rfl)
    (repeat (with_reducible refine And.intro ?_ ?_; focus first | omega | rfl | assumption | exact ⟨_, rfl, rfl⟩ | (simp; omega) | (simp; done)))
    with_reducible refine split2 (fun hb => ?_) (fun hb => ?_) <;> have h := hb <;> (try simp only [wf_preprocess] at h) <;> simp -implicitDefEqProofs (disch := omega) only [go_sem, hb] <;> (repeat (with_reducible refine And.intro ?_ ?_; focus first | omega | rfl | assumption | exact ⟨_, rfl, rfl⟩ | (simp; omega) | (simp; done)))
    · exact bad i hi (by unfold methOk; rw [dec_false (show ¬ x.fMethods[i].fVars.length ≤ 5 by omega)]; simp)
    (repeat (with_reducible refine And.intro ?_ ?_; focus first | omega | rfl | assumption | exact ⟨_, rfl, rfl⟩ | (simp; omega) | (simp; done)))
    refine call_w (isBody_ok x.fMethods[i].fVars x.fMethods[i].fBody (by omega) hmv (by omega)) ?_
    simp -implicitDefEqProofs (disch := omega) only [go_sem] <;> (repeat (with_reducible refine And.intro ?_ ?_; focus first | omega | rfl | assumption | exact ⟨_, rfl, rfl⟩ | (simp; omega) | (simp; done)))
    with_reducible refine split2 (fun hb => ?_) (fun hb => ?_) <;> have h := hb <;> (try simp only [wf_preprocess] at h) <;> simp -implicitDefEqProofs (disch := omega) only [go_sem, hb] <;> (repeat (with_reducible refine And.intro ?_ ?_; focus first | omega | rfl | assumption | exact ⟨_, rfl, rfl⟩ | (simp; omega) | (simp; done)))
    · exact bad i hi (by unfold methOk; rw [h]; simp)
    have k2 := h
    have k3 : methOk x.fMethods[i] = true := by unfold methOk; rw [k2, dec_true (by omega), dec_true (by omega)]; rfl
    (repeat (with_reducible refine And.intro ?_ ?_; focus first | omega | rfl | assumption | exact ⟨_, rfl, rfl⟩ | (simp; omega) | (simp; done)))
    rw [show List.map encS names ++ [[D.s x.fMethods[i].fName]] = List.map encS (names ++ [x.fMethods[i].fName]) by simp [encS]]
    exact inv_drop 2 (by decide) (i + 1, names ++ [x.fMethods[i].fName]) (by simp only; omega) rfl rfl rfl rfl ⟨by simp only; omega, by simp only; rw [p2, take_snoc (by simpa [methNames] using hi)]; simp [methNames], fun j hj hji => by
      simp only at hji
      by_cases e : j = i
      · subst e; exact k3
      · exact p3 j hj (by omega)⟩
  have hi : i = x.fMethods.length := by omega
  have hn : names = methNames x := by rw [p2, List.take_of_length_le (by simp [methNames]; omega)]
  have hall : x.fMethods.all methOk = true := List.all_eq_true.2 fun c hc => by
    obtain ⟨j, hj, e⟩ := List.getElem_of_mem hc
    rw [← e]; exact p3 j hj (by omega)
  have hnl : ∀ s ∈ names, s.length ≤ 4194304 := fun s hm => by
    rw [hn] at hm
    obtain ⟨g, hg, e⟩ := List.mem_map.1 hm
    have := hM g hg
    have := MMethod.sum g
    rw [← e]; omega
  refine call_w (areNames_ok names (by omega) hnl) ?_
  simp -implicitDefEqProofs (disch := omega) only [go_sem] <;> (repeat (with_reducible refine And.intro ?_ ?_; focus first | omega | rfl | assumption | exact ⟨_, rfl, rfl⟩ | (simp; omega) | (simp; done)))
  exact bool_eq (by unfold validInst; rw [hh, hall, hn]; rfl)
set_option maxHeartbeats 2000000 in
theorem specValidInst_ok (x : MInstance) (hsz : x.sz ≤ 4194304) : PCall Tryz.prog 143 [x.v] (.c (.d (.b (validInst x)))) := fun S => by
  have hs := MInstance.sum x
  have hV : ∀ s ∈ x.fVars, s.length ≤ 4194304 := fun s h => by have := strs_b h; omega
  have hW : ∀ b ∈ x.fWhere, b.sz ≤ 4194304 := fun b h => by have := mem_szB h; omega
  have hM : ∀ m ∈ x.fMethods, m.sz ≤ 4194304 := fun m h => by have := mem_szM h; omega
  have bad : x.fMethods.all methOk = false → V.c (.d (.b false)) = V.c (.d (.b (validInst x))) := fun h => bool_eq (by unfold validInst; rw [h]; simp)
  have no : headOk x = false → V.c (.d (.b false)) = V.c (.d (.b (validInst x))) := fun h => bool_eq (by unfold validInst; rw [h]; rfl)
  have hk : typeOver x.fVars x.fHead = true → hasProj x.fHead = false → (x.fHead.fKind = 1 ∨ x.fHead.fKind = 2 ∨ x.fHead.fKind = 4) := fun h1 h2 => by
    unfold typeOver at h1
    rw [Bool.and_eq_true] at h1
    have := valid_kind h1.1
    have := proj_kind h2
    omega
  refine acall_cw (rs := [.tmp 2]) Tryz.checked.mixed Tryz.func143 Tryz.ntmps143 rfl rfl rfl rfl rfl ?_
  simp -implicitDefEqProofs (disch := omega) only [go_sem]
  repeat' (first
    | with_reducible refine split2 (fun hb => ?_) (fun hb => ?_) <;> have h := hb <;> (try simp only [wf_preprocess] at h) <;> simp -implicitDefEqProofs (disch := omega) only [go_sem, hb] <;> (repeat (with_reducible refine And.intro ?_ ?_; focus first | omega | rfl | assumption | exact ⟨_, rfl, rfl⟩ | (simp; omega) | (simp; done)))
    | ((with_reducible show CallG _ _ 68 _ _ _ _); refine call_w (specValidName_ok x.fTrait (by omega)) ?_; simp -implicitDefEqProofs (disch := omega) only [go_sem])
    | ((with_reducible show CallG _ _ 69 _ _ _ _); refine call_w (l13Words_ok x.fVars 3 (by omega) hV) ?_; simp -implicitDefEqProofs (disch := omega) only [go_sem])
    | ((with_reducible show CallG _ _ 213 _ _ _ _); refine call_w (l13Vars_ok x.fHead x.fVars (by omega) (by omega)) ?_; simp -implicitDefEqProofs (disch := omega) only [go_sem])
    | ((with_reducible show CallG _ _ 214 _ _ _ _); refine call_w (specHasProj_ok x.fHead (by omega)) ?_; simp -implicitDefEqProofs (disch := omega) only [go_sem])
    | ((with_reducible show CallG _ _ 215 _ _ _ _); refine call_w (l13Where_ok x.fWhere x.fVars (by omega) hW (by omega)) ?_; simp -implicitDefEqProofs (disch := omega) only [go_sem])
    | (refine no ?_; unfold headOk; grind [of_dec, of_dec_false, dec_true, dec_false]))
  all_goals
    have h1 : validName x.fTrait = true := by assumption
    have h2 : (dec ((x.fVars.length : Int) ≤ 3) && namesOk x.fVars) = true := by assumption
    have h3 : typeOver x.fVars x.fHead = true := by assumption
    have h4 : hasProj x.fHead = false := by assumption
    have h5 : ¬ x.fHead.fKind = 4 := by assumption
    have h6 : boundsOk x.fVars x.fWhere = true := by assumption
  have h7 := hk h3 h4
  clear hk
  rw [Bool.and_eq_true] at h2
  have h8 := of_dec h2.1
  have pre : headOk x = (among x.fVars (tvars [] x.fHead) && ((if x.fHasAssoc = true then typeOver x.fVars x.fAssoc else dec (zeroT x.fAssoc)) && dec (x.fMethods.length ≤ 6))) := by
    unfold headOk
    rw [h1, h2.2, h3, h4, h6, dec_true (show x.fVars.length ≤ 3 by omega), dec_true (show x.fHead.fKind = 2 ∨ x.fHead.fKind = 1 by omega)]
    simp
  clear h1 h2 h3 h4 h5 h6 h7 h8
  refine loop_at (ι := Nat) Tryz.checked.mixed rfl [1, 3] (fun i => [.c (.ptr (0, 0) 0), .c (.d (.i .i64 i))]) (fun _ => [.box (x.enc.map .d)] :: S)
    (fun i => i ≤ x.fVars.length ∧ among (x.fVars.drop i) (tvars [] x.fHead) = among x.fVars (tvars [] x.fHead)) (fun i => x.fVars.length - i) 0 rfl ?_ ⟨Nat.zero_le _, rfl⟩ ?_
  · simp -implicitDefEqProofs (disch := omega) only [go_sem]
  rintro i ⟨p1, p2⟩
  simp -implicitDefEqProofs (disch := omega) only [go_sem, encS]
  with_reducible refine split2 (fun hb => ?_) (fun hb => ?_) <;> have h := hb <;> (try simp only [wf_preprocess] at h) <;> simp -implicitDefEqProofs (disch := omega) only [go_sem, hb, encS] <;> (repeat (with_reducible refine And.intro ?_ ?_; focus first | omega | rfl | assumption | exact ⟨_, rfl, rfl⟩ | (simp; omega) | (simp; done)))
  · have hi : i < x.fVars.length := by omega
    rw [List.drop_eq_getElem_cons hi] at p2
    have p3 : among x.fVars (tvars [] x.fHead) = (dec (x.fVars[i] ∈ tvars [] x.fHead) && among (x.fVars.drop (i + 1)) (tvars [] x.fHead)) := p2.symm
    (repeat (with_reducible refine And.intro ?_ ?_; focus first | omega | rfl | assumption | exact ⟨_, rfl, rfl⟩ | (simp; omega) | (simp; done)))
    refine call_w (specOccurs_ok x.fVars[i] x.fHead (by omega)) ?_
    simp -implicitDefEqProofs (disch := omega) only [go_sem] <;> (repeat (with_reducible refine And.intro ?_ ?_; focus first | omega | rfl | assumption | exact ⟨_, rfl, rfl⟩ | (simp; omega) | (simp; done)))
    rw [occurs_mem]
    with_reducible refine split2 (fun hb => ?_) (fun hb => ?_) <;> have h := hb <;> (try simp only [wf_preprocess] at h) <;> simp -implicitDefEqProofs (disch := omega) only [go_sem, hb] <;> (repeat (with_reducible refine And.intro ?_ ?_; focus first | omega | rfl | assumption | exact ⟨_, rfl, rfl⟩ | (simp; omega) | (simp; done)))
    · exact no (by rw [pre, p3, dec_false h]; rfl)
    · exact inv_at (i + 1) (by omega) rfl rfl ⟨by omega, by rw [p3, dec_true h]; rfl⟩
  rw [List.drop_of_length_le (by omega)] at p2
  have p3 : among x.fVars (tvars [] x.fHead) = true := p2.symm
  rw [p3, Bool.true_and] at pre
  refine (show Hold ((if x.fHasAssoc = true then typeOver x.fVars x.fAssoc else dec (zeroT x.fAssoc)) = true → ?T) → _ from fun tail => ?main) ?tp
  case' main =>
    repeat' (first
      | with_reducible refine split2 (fun hb => ?_) (fun hb => ?_) <;> have h := hb <;> (try simp only [wf_preprocess] at h) <;> simp -implicitDefEqProofs (disch := omega) only [go_sem, hb] <;> (repeat (with_reducible refine And.intro ?_ ?_; focus first | omega | rfl | assumption | exact ⟨_, rfl, rfl⟩ | (simp; omega) | (simp; done)))
      | ((with_reducible show CallG _ _ 213 _ _ _ _); refine call_w (l13Vars_ok x.fAssoc x.fVars (by omega) (by omega)) ?_; simp -implicitDefEqProofs (disch := omega) only [go_sem])
      | ((with_reducible show CallG _ _ 217 _ _ _ _); refine call_w (l11Zero_ok x.fAssoc) ?_; simp -implicitDefEqProofs (disch := omega) only [go_sem])
      | (refine no ?_; rw [pre]; grind [of_dec, of_dec_false, dec_true, dec_false]))
    all_goals
      have hh : (if x.fHasAssoc = true then typeOver x.fVars x.fAssoc else dec (zeroT x.fAssoc)) = true := by grind [of_dec, of_dec_false, dec_true, dec_false]
      (repeat (with_reducible refine And.intro ?_ ?_; focus first | omega | rfl | assumption | exact ⟨_, rfl, rfl⟩ | (simp; omega) | (simp; done)))
      refine aw_tok 4 1 [] rfl (by simp) ?_
      refine aw_canon (st' := [.box (x.enc.map .d), .tok 1 []] :: S) [1, 4, 5] [.c (.ptr (0, 0) 0), .c (.tsl (0, 1) []), .c (.d (.i .i64 0))] ?_ ?_ ?_
      · rfl
      · first | (simp -implicitDefEqProofs (disch := omega) only [go_sem]; done) | (simp -implicitDefEqProofs (disch := omega) only [go_sem]; simp [*])
      · exact tail.out hh
  refine ⟨fun hh => ?_⟩
  rw [hh, Bool.true_and] at pre
  clear p2 p3 p1 hh no
  have badI : ∀ i, ∀ hi : i < x.fMethods.length, methOk x.fMethods[i] = false → V.c (.d (.b false)) = V.c (.d (.b (validInst x))) := fun i hi h => bad (Bool.eq_false_iff.2 fun hx => by
      rw [List.all_eq_true.1 hx _ (List.getElem_mem hi)] at h; cases h)
  refine loop_at (ι := Nat × List (List UInt8)) Tryz.checked.mixed rfl [1, 4, 5] (fun y => [.c (.ptr (0, 0) 0), .c (.tsl (0, 1) (y.2.map encS)), .c (.d (.i .i64 y.1))]) (fun y => [.box (x.enc.map .d), .tok 1 (y.2.map encS)] :: S)
    (fun y => y.1 ≤ x.fMethods.length ∧ y.2 = (methNames x).take y.1 ∧ ∀ j, ∀ hj : j < x.fMethods.length, j < y.1 → methOk x.fMethods[j] = true) (fun y => x.fMethods.length - y.1) (0, []) rfl ?_ ⟨Nat.zero_le _, rfl, fun j _ h => by simp only at h; omega⟩ ?_
  · simp -implicitDefEqProofs (disch := omega) only [go_sem]
  rintro ⟨i, names⟩ ⟨p1, p2, p3⟩
  simp only at p1 p2 p3
  have pl : names.length ≤ x.fMethods.length := by rw [p2]; simp [methNames]; omega
  simp -implicitDefEqProofs (disch := omega) only [go_sem]
  with_reducible refine split2 (fun hb => ?_) (fun hb => ?_) <;> have h := hb <;> (try simp only [wf_preprocess] at h) <;> simp -implicitDefEqProofs (disch := omega) only [go_sem, hb] <;> (repeat (with_reducible refine And.intro ?_ ?_; focus first | omega | rfl | assumption | exact ⟨_, rfl, rfl⟩ | (simp; omega) | (simp; done)))
  · have hi : i < x.fMethods.length := by omega
    have hm := hM _ (List.getElem_mem hi)
    have hms := MMethod.sum x.fMethods[i]
    have hmv : ∀ s ∈ x.fMethods[i].fVars, s.length ≤ 4194304 := fun s h => by have := strs_b h; omega
    (repeat (with_reducible refine And.intro ?_ ?_; focus first | omega | rfl | assumption | exact ⟨_, rfl, rfl⟩ | (simp; omega) | (simp; done)))
    with_reducible refine split2 (fun hb => ?_) (fun hb => ?_) <;> have h := hb <;> (try simp only [wf_preprocess] at h) <;> simp -implicitDefEqProofs (disch := omega) only [go_sem, hb] <;> (repeat (with_reducible refine And.intro ?_ ?_; focus first | omega | rfl | assumption | exact ⟨_, rfl, rfl⟩ | (simp; omega) | (simp; done)))
    · exact badI i hi (by unfold methOk; rw [dec_false (by omega)]; rfl)
    (repeat (with_reducible refine And.intro ?_ ?_; focus first | omega | rfl | assumption | exact ⟨_, rfl, rfl⟩ | (simp; omega) | (simp; done)))
    refine call_w (l13Words_ok x.fMethods[i].fVars 5 (by omega) hmv) ?_
    simp -implicitDefEqProofs (disch := omega) only [go_sem] <;> (repeat (with_reducible refine And.intro ?_ ?_; focus first | omega | rfl | assumption | exact ⟨_, rfl, rfl⟩ | (simp; omega) | (simp; done)))
    with_reducible refine split2 (fun hb => ?_) (fun hb => ?_) <;> have h := hb <;> (try simp only [wf_preprocess] at h) <;> simp -implicitDefEqProofs (disch := omega) only [go_sem, hb] <;> (repeat (with_reducible refine And.intro ?_ ?_; focus first | omega | rfl | assumption | exact ⟨_, rfl, rfl⟩ | (simp; omega) | (simp; done)))
    · refine badI i hi ?_
      unfold methOk bodyOk
      have : (dec (x.fMethods[i].fVars.length ≤ 5) && namesOk x.fMethods[i].fVars) = false := by
        rw [← h]; congr 1; exact dec_congr ⟨fun h => by omega, fun h => by omega⟩
      rw [← Bool.and_assoc (dec (x.fMethods[i].fVars.length ≤ 5)), this]; simp
    have k1 := h
    rw [Bool.and_eq_true] at k1
    have k4 := of_dec k1.1
    (repeat (with_reducible refine And.intro ?_ ?_; focus first | omega | rfl | assumption | exact ⟨_, rfl, rfl⟩ | (simp; omega) | (simp; done)))
    refine call_w (l13Body_ok x.fMethods[i].fVars x.fMethods[i].fBody (by omega) (by omega)) ?_
    simp -implicitDefEqProofs (disch := omega) only [go_sem] <;> (repeat (with_reducible refine And.intro ?_ ?_; focus first | omega | rfl | assumption | exact ⟨_, rfl, rfl⟩ | (simp; omega) | (simp; done)))
    with_reducible refine split2 (fun hb => ?_) (fun hb => ?_) <;> have h := hb <;> (try simp only [wf_preprocess] at h) <;> simp -implicitDefEqProofs (disch := omega) only [go_sem, hb] <;> (repeat (with_reducible refine And.intro ?_ ?_; focus first | omega | rfl | assumption | exact ⟨_, rfl, rfl⟩ | (simp; omega) | (simp; done)))
    · exact badI i hi (by unfold methOk bodyOk; rw [h]; simp)
    have k2 := h
    have k3 : methOk x.fMethods[i] = true := by unfold methOk bodyOk; rw [k2, k1.2, dec_true (by omega), dec_true (by omega)]; rfl
    (repeat (with_reducible refine And.intro ?_ ?_; focus first | omega | rfl | assumption | exact ⟨_, rfl, rfl⟩ | (simp; omega) | (simp; done)))
    rw [show List.map encS names ++ [[D.s x.fMethods[i].fName]] = List.map encS (names ++ [x.fMethods[i].fName]) by simp [encS]]
    exact inv_drop 2 (by decide) (i + 1, names ++ [x.fMethods[i].fName]) (by simp only; omega) rfl rfl rfl rfl ⟨by simp only; omega, by simp only; rw [p2, take_snoc (by simpa [methNames] using hi)]; simp [methNames], fun j hj hji => by
      simp only at hji
      by_cases e : j = i
      · subst e; exact k3
      · exact p3 j hj (by omega)⟩
  have hi : i = x.fMethods.length := by omega
  have hn : names = methNames x := by rw [p2, List.take_of_length_le (by simp [methNames]; omega)]
  have hall : x.fMethods.all methOk = true := List.all_eq_true.2 fun c hc => by
    obtain ⟨j, hj, e⟩ := List.getElem_of_mem hc
    rw [← e]; exact p3 j hj (by omega)
  have hnl : ∀ s ∈ names, s.length ≤ 4194304 := fun s hm => by
    rw [hn] at hm
    obtain ⟨g, hg, e⟩ := List.mem_map.1 hm
    have := hM g hg
    have := MMethod.sum g
    rw [← e]; omega
  have hlen : names.length = x.fMethods.length := by rw [hn]; simp [methNames]
  refine call_w (l13Words_ok names 6 (by omega) hnl) ?_
  simp -implicitDefEqProofs (disch := omega) only [go_sem] <;> (repeat (with_reducible refine And.intro ?_ ?_; focus first | omega | rfl | assumption | exact ⟨_, rfl, rfl⟩ | (simp; omega) | (simp; done)))
  refine bool_eq ?_
  unfold validInst
  rw [pre, hall, hn, Bool.true_and]
  congr 1
  rw [← hn, hlen]
  exact dec_congr ⟨fun h => by omega, fun h => by omega⟩
end Go.Proofs.YtnleocfkdidhoaaGreat

namespace Go.Proofs.YtnleocfkdidhoaaGreat
open Go Go.Ab
theorem szParam_ok (x : MParam) : ∀ left : Int, 0 ≤ left → left ≤ 1048576 → FitL x.enc → PCall Tryz.prog 256 [x.v, .c (.d (.i .i64 left))] (.c (.d (.i .i64 (sub1 left x.sz)))) := by
  intro left h0 h1 hf S
  simp only [MParam.enc_eq, List.cons_append, List.nil_append, fitL_cons, fitL_append, fitL_nil_iff, and_true] at hf
  obtain ⟨fName, fType⟩ := hf
  have hz : x.sz = x.fName.length + (x.fType.sz) := by
    simp only [MParam.sz, MParam.enc_eq, szRow, szRow_append, D.sz, List.length_map, Nat.add_zero, Nat.zero_add, MType.sz_def] <;> omega
  refine acall_cw (rs := [.tmp 4]) Tryz.checked.mixed Tryz.func256 Tryz.ntmps256 rfl rfl rfl rfl rfl ?_
  rw [hz]
  have gName := fit_s fName
  simp -implicitDefEqProofs (disch := omega) only [go_sem]
  with_reducible refine split2 (fun hb => ?_) (fun hb => ?_) <;> have h := hb <;> (try simp only [wf_preprocess] at h) <;> simp -implicitDefEqProofs (disch := omega) only [go_sem, hb] <;> (repeat (with_reducible refine And.intro ?_ ?_; focus first | omega | rfl | assumption | exact ⟨_, rfl, rfl⟩ | (simp; omega) | (simp; done)))
  · exact int_eq (sub1_no (by omega)).symm
  refine call_w (szType_ok x.fType _ (by omega) (by omega) fType) ?_
  simp -implicitDefEqProofs (disch := omega) only [go_sem]
  with_reducible refine split2 (fun hb => ?_) (fun hb => ?_) <;> have h := hb <;> (try simp only [wf_preprocess] at h) <;> simp -implicitDefEqProofs (disch := omega) only [go_sem, hb] <;> (repeat (with_reducible refine And.intro ?_ ?_; focus first | omega | rfl | assumption | exact ⟨_, rfl, rfl⟩ | (simp; omega) | (simp; done)))
  · have h' := sub1_neg h
    exact int_eq (sub1_no (by omega)).symm
  have hType := sub1_nn h
  simp only [hType.1]
  refine int_eq ?_
  rw [sub1_yes (by omega)]
  omega
theorem szParamS_ok (xs : List MParam) : ∀ left : Int, 0 ≤ left → left ≤ 1048576 → (D.sl (xs.map MParam.enc)).Fit → PCall Tryz.prog 210 [.c (.d (.sl (xs.map MParam.enc))), .c (.d (.i .i64 left))] (.c (.d (.i .i64 (sub1 left (xs.length + szRows (xs.map MParam.enc)))))) := by
  intro left h0 h1 hf S
  obtain ⟨hf1, hf2⟩ := fit_sl hf
  rw [List.length_map] at hf1
  refine acall_cw (rs := [.tmp 4]) Tryz.checked.mixed Tryz.func210 Tryz.ntmps210 rfl rfl rfl rfl rfl ?_
  simp -implicitDefEqProofs (disch := omega) only [go_sem]
  with_reducible refine split2 (fun hb => ?_) (fun hb => ?_) <;> have h := hb <;> (try simp only [wf_preprocess] at h) <;> simp -implicitDefEqProofs (disch := omega) only [go_sem, hb] <;> (repeat (with_reducible refine And.intro ?_ ?_; focus first | omega | rfl | assumption | exact ⟨_, rfl, rfl⟩ | (simp; omega) | (simp; done)))
  · exact int_eq (sub1_no (by omega)).symm
  refine loop_at (ι := Nat × Int) Tryz.checked.mixed rfl [0, 1, 5] (fun y => [.c (.d (.sl (xs.map MParam.enc))), .c (.d (.i .i64 y.2)), .c (.d (.i .i64 y.1))]) (fun _ => [] :: S)
    (fun y => y.1 ≤ xs.length ∧ 0 ≤ y.2 ∧ y.2 ≤ 1048576 ∧ sub1 y.2 (szRows ((xs.map MParam.enc).drop y.1)) = sub1 left (xs.length + szRows (xs.map MParam.enc))) (fun y => xs.length - y.1) (0, left - xs.length) rfl rfl ⟨by omega, by omega, by omega, ?_⟩ ?_
  · unfold sub1
    rw [List.drop_zero]
    split <;> split <;> omega
  rintro ⟨i, l⟩ ⟨p1, p2, p3, p4⟩
  simp only at p1 p2 p3 p4
  simp -implicitDefEqProofs (disch := omega) only [go_sem]
  with_reducible refine split2 (fun hb => ?_) (fun hb => ?_) <;> have h := hb <;> (try simp only [wf_preprocess] at h) <;> simp -implicitDefEqProofs (disch := omega) only [go_sem, hb] <;> (repeat (with_reducible refine And.intro ?_ ?_; focus first | omega | rfl | assumption | exact ⟨_, rfl, rfl⟩ | (simp; omega) | (simp; done)))
  · have hi : i < xs.length := by omega
    rw [List.drop_eq_getElem_cons (by rw [List.length_map]; exact hi), szRows, List.getElem_map, MParam.sz_def] at p4
    (repeat (with_reducible refine And.intro ?_ ?_; focus first | omega | rfl | assumption | exact ⟨_, rfl, rfl⟩ | (simp; omega) | (simp; done)))
    refine call_w (szParam_ok xs[i] _ (by omega) (by omega) (hf2 _ (List.mem_map_of_mem (List.getElem_mem hi)))) ?_
    simp -implicitDefEqProofs (disch := omega) only [go_sem]
    with_reducible refine split2 (fun hb => ?_) (fun hb => ?_) <;> have h := hb <;> (try simp only [wf_preprocess] at h) <;> simp -implicitDefEqProofs (disch := omega) only [go_sem, hb] <;> (repeat (with_reducible refine And.intro ?_ ?_; focus first | omega | rfl | assumption | exact ⟨_, rfl, rfl⟩ | (simp; omega) | (simp; done)))
    · have h' := sub1_neg h
      rw [← p4, sub1_no (by omega)]
    · have h' := sub1_nn h
      refine inv_at (i + 1, sub1 l _) (by simp only; omega) rfl rfl ⟨by simp only; omega, by simp only; omega, by simp only; omega, ?_⟩
      simp only
      rw [← p4, h'.1]
      unfold sub1
      split <;> split <;> omega
  · have hi : i = xs.length := by omega
    rw [hi, List.drop_of_length_le (by simp), szRows, sub1_yes (by omega)] at p4
    rw [← p4]
    refine int_eq ?_
    omega
theorem toParam_ok (x : MParam) : x.sz ≤ 1048576 → PCall Tryz.prog 268 [x.v] x.v := by
  intro hsz S
  simp only [MParam.sz, MParam.enc_eq, szRow, szRow_append, D.sz, List.length_map, MType.sz_def] at hsz
  refine acall_cw (rs := [.cell 2 267]) Tryz.checked.mixed Tryz.func268 Tryz.ntmps268 rfl rfl rfl rfl rfl ?_
  simp -implicitDefEqProofs (disch := omega) only [go_sem]
  refine call_w (toType_ok x.fType (by omega)) ?_
  simp -implicitDefEqProofs (disch := omega) only [go_sem]
theorem toParamS_ok (xs : List MParam) : xs.length + szRows (xs.map MParam.enc) ≤ 1048576 → PCall Tryz.prog 223 [.c (.d (.sl (xs.map MParam.enc)))] (.c (.d (.sl (xs.map MParam.enc)))) := by
  intro hsz S
  refine acall_cw (rs := [.tmp 2]) Tryz.checked.mixed Tryz.func223 Tryz.ntmps223 rfl rfl rfl rfl rfl ?_
  simp -implicitDefEqProofs (disch := omega) only [go_sem]
  (repeat (with_reducible refine And.intro ?_ ?_; focus first | omega | rfl | assumption | exact ⟨_, rfl, rfl⟩ | (simp; omega) | (simp; done)))
  refine loop_at (ι := Nat × List (List D)) Tryz.checked.mixed rfl [0, 3, 4] (fun y => [.c (.d (.sl (xs.map MParam.enc))), .c (.msl (0, 0)), .c (.d (.i .i64 y.1))]) (fun y => [.mrow 4 y.2] :: S)
    (fun y => y.1 ≤ xs.length ∧ Filled 4 y.1 y.2 (xs.map MParam.enc)) (fun y => xs.length - y.1) (0, _) rfl rfl ⟨Nat.zero_le _, Filled.start (by simp) rfl⟩ ?_
  rintro ⟨i, R⟩ ⟨p1, p2⟩
  simp only at p1 p2
  simp -implicitDefEqProofs (disch := omega) only [go_sem]
  with_reducible refine split2 (fun hb => ?_) (fun hb => ?_) <;> have h := hb <;> (try simp only [wf_preprocess] at h) <;> simp -implicitDefEqProofs (disch := omega) only [go_sem, hb] <;> (repeat (with_reducible refine And.intro ?_ ?_; focus first | omega | rfl | assumption | exact ⟨_, rfl, rfl⟩ | (simp; omega) | (simp; done)))
  · have hi : i < xs.length := by omega
    have hx : xs[i].sz ≤ szRows (xs.map MParam.enc) := szRows_mem (List.mem_map_of_mem (List.getElem_mem hi))
    (repeat (with_reducible refine And.intro ?_ ?_; focus first | omega | rfl | assumption | exact ⟨_, rfl, rfl⟩ | (simp; omega) | (simp; done)))
    refine call_w (toParam_ok xs[i] (by omega)) ?_
    simp -implicitDefEqProofs (disch := omega) only [go_sem]
    have hR := p2.1
    rw [List.length_map] at hR
    (repeat (with_reducible refine And.intro ?_ ?_; focus first | omega | rfl | assumption | exact ⟨_, rfl, rfl⟩ | (simp; omega) | (simp; done)))
    refine inv_at (i + 1, _) (by simp only; omega) rfl rfl ⟨by simp only; omega, p2.step (by simp [hi, MParam.enc_eq, MType.enc_eq]) rfl⟩
  · have hi : i = xs.length := by omega
    rw [p2.done (by rw [List.length_map]; omega)]
theorem eqParam_ok (x : MParam) : ∀ y : MParam, x.sz ≤ 1048576 → PCall Tryz.prog 280 [x.v, y.v] (.c (.d (.b (dec (x = y))))) := by
  intro y hsz S
  simp only [MParam.sz, MParam.enc_eq, szRow, szRow_append, D.sz, List.length_map, MType.sz_def] at hsz
  refine acall_cw (rs := [.tmp 4]) Tryz.checked.mixed Tryz.func280 Tryz.ntmps280 rfl rfl rfl rfl rfl ?_
  simp -implicitDefEqProofs (disch := omega) only [go_sem]
  with_reducible refine split2 (fun hb => ?_) (fun hb => ?_) <;> have h := hb <;> (try simp only [wf_preprocess] at h) <;> simp -implicitDefEqProofs (disch := omega) only [go_sem, hb] <;> (repeat (with_reducible refine And.intro ?_ ?_; focus first | omega | rfl | assumption | exact ⟨_, rfl, rfl⟩ | (simp; omega) | (simp; done)))
  · exact bool_eq (dec_false (fun e => h (by rw [e]))).symm
  have eName := h
  clear h
  refine call_w (eqType_ok x.fType _ (by omega)) ?_
  simp -implicitDefEqProofs (disch := omega) only [go_sem]
  with_reducible refine split2 (fun hb => ?_) (fun hb => ?_) <;> have h := hb <;> (try simp only [wf_preprocess] at h) <;> simp -implicitDefEqProofs (disch := omega) only [go_sem, hb] <;> (repeat (with_reducible refine And.intro ?_ ?_; focus first | omega | rfl | assumption | exact ⟨_, rfl, rfl⟩ | (simp; omega) | (simp; done)))
  · exact bool_eq (dec_false (fun e => h (by rw [e]))).symm
  have eType := h
  clear h
  exact bool_eq (dec_true (MParam.ext' eName eType)).symm
theorem eqParamS_ok (xs : List MParam) : ∀ ys : List MParam, xs.length + szRows (xs.map MParam.enc) ≤ 1048576 → PCall Tryz.prog 238 [.c (.d (.sl (xs.map MParam.enc))), .c (.d (.sl (ys.map MParam.enc)))] (.c (.d (.b (dec (xs = ys))))) := by
  intro ys hsz S
  refine acall_cw (rs := [.tmp 4]) Tryz.checked.mixed Tryz.func238 Tryz.ntmps238 rfl rfl rfl rfl rfl ?_
  simp -implicitDefEqProofs (disch := omega) only [go_sem]
  with_reducible refine split2 (fun hb => ?_) (fun hb => ?_) <;> have h := hb <;> (try simp only [wf_preprocess] at h) <;> simp -implicitDefEqProofs (disch := omega) only [go_sem, hb] <;> (repeat (with_reducible refine And.intro ?_ ?_; focus first | omega | rfl | assumption | exact ⟨_, rfl, rfl⟩ | (simp; omega) | (simp; done)))
  · exact bool_eq (dec_false (fun e => h (by rw [e]))).symm
  have hl : xs.length = ys.length := by omega
  refine loop_at (ι := Nat) Tryz.checked.mixed rfl [0, 1, 5] (fun y => [.c (.d (.sl (xs.map MParam.enc))), .c (.d (.sl (ys.map MParam.enc))), .c (.d (.i .i64 y))]) (fun y => [] :: S)
    (fun i => i ≤ xs.length ∧ ∀ j, j < i → xs[j]? = ys[j]?) (fun y => xs.length - y) 0 rfl rfl ⟨Nat.zero_le _, fun j h => by omega⟩ ?_
  rintro i ⟨p1, p2⟩
  simp -implicitDefEqProofs (disch := omega) only [go_sem]
  with_reducible refine split2 (fun hb => ?_) (fun hb => ?_) <;> have h := hb <;> (try simp only [wf_preprocess] at h) <;> simp -implicitDefEqProofs (disch := omega) only [go_sem, hb] <;> (repeat (with_reducible refine And.intro ?_ ?_; focus first | omega | rfl | assumption | exact ⟨_, rfl, rfl⟩ | (simp; omega) | (simp; done)))
  · have hi : i < xs.length := by omega
    have hi' : i < ys.length := by omega
    have hx : xs[i].sz ≤ szRows (xs.map MParam.enc) := szRows_mem (List.mem_map_of_mem (List.getElem_mem hi))
    (repeat (with_reducible refine And.intro ?_ ?_; focus first | omega | rfl | assumption | exact ⟨_, rfl, rfl⟩ | (simp; omega) | (simp; done)))
    refine call_w (eqParam_ok xs[i] ys[i] (by omega)) ?_
    simp -implicitDefEqProofs (disch := omega) only [go_sem]
    with_reducible refine split2 (fun hb => ?_) (fun hb => ?_) <;> have h := hb <;> (try simp only [wf_preprocess] at h) <;> simp -implicitDefEqProofs (disch := omega) only [go_sem, hb] <;> (repeat (with_reducible refine And.intro ?_ ?_; focus first | omega | rfl | assumption | exact ⟨_, rfl, rfl⟩ | (simp; omega) | (simp; done)))
    · exact bool_eq (dec_false (fun e => h (by simp only [e]))).symm
    refine inv_at (i + 1) (by omega) rfl rfl ⟨by omega, fun j hj => ?_⟩
    by_cases e : j = i
    · subst e
      rw [List.getElem?_eq_getElem hi, List.getElem?_eq_getElem hi', h]
    · exact p2 j (by omega)
  · have hi : i = xs.length := by omega
    refine bool_eq (dec_true (List.ext_getElem? fun j => ?_)).symm
    by_cases hj : j < i
    · exact p2 j hj
    · rw [List.getElem?_eq_none (by omega), List.getElem?_eq_none (by omega)]
end Go.Proofs.YtnleocfkdidhoaaGreat

