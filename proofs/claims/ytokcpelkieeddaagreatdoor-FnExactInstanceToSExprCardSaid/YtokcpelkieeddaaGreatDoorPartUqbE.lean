/-
  SEVERAL TEXTS IN ONE (merged by program): contracts and models, each with its own heading.
-/
import Derived.Test.YtokcpelkieeddaaGreatDoorPartUqbD
set_option linter.unusedSimpArgs false
set_option linter.unusedVariables false
set_option maxRecDepth 4000
namespace Go.Ab
theorem ACall.args {P : Program} {f : FuncId} {args args' : List V} {S : Store} {post : V → Store → Prop} (h : ACall P f args' S post) (hl : Lesses args args') : ACall P f args S post := h.weaken hl.length fun j x y hx hy w σ β v hr => hl.at j x y hx hy w σ S β v hr
theorem less_lfls (n : Nat) (es : List (List D)) : Less (.c (.lfl n es)) (.c (.d (.sl es))) := fun w σ S β v h => ⟨rep_ol h.1.1, h.2⟩
end Go.Ab
namespace Go.Proofs.YtokcpelkieeddaaGreatDoor
open Go Go.Ab
theorem implAtoms_esc (xs : List (List UInt8)) (hx : xs.length ≤ 1073741824) (n q : Nat) (own0 : List Ab.Obj) (Ω : Store) : ACall Tryz.prog 160 [.c (.d (.sl (xs.map encS)))] (own0 :: Ω)
    (fun r S' => r = .c (.tsl (0, own0.length + 1) (lx (wordsX xs) q)) ∧ S' = (own0 ++ [.seed n, .ltok n 2 (lx (wordsX xs) q)]) :: Ω) := by
  refine acall_cwLe (n) (rs := [.tmp 2]) Tryz.checked.mixed Tryz.func160 Tryz.ntmps160 rfl rfl rfl rfl rfl ?_
  simp -implicitDefEqProofs (disch := omega) only [go_sem]
  (repeat (with_reducible refine And.intro ?_ ?_; focus first | omega | rfl | assumption | exact ⟨_, rfl, rfl⟩ | (simp; omega) | (simp; done)))
  refine aw_ltok n 3 2 [] (.inl rfl) (by simp) ?_
  refine loop_at (ι := Nat) Tryz.checked.mixed rfl [3, 7, 8, 9] (fun i => [.c (.tsl (0, 1) (lx ((wordsX xs).take i) q)), .c (.d (.sl (xs.map encS))), .c (.d (.i .i64 xs.length)), .c (.d (.i .i64 i))]) (fun i => [.seed n, .ltok n 2 (lx ((wordsX xs).take i) q)] :: own0 :: Ω)
    (fun i => i ≤ xs.length) (fun i => xs.length - i) 0 rfl rfl (Nat.zero_le _) ?_
  intro i hi
  simp -implicitDefEqProofs (disch := omega) only [go_sem]
  with_reducible refine split2 (fun hb => ?_) (fun hb => ?_) <;> have h := hb <;> (try simp only [wf_preprocess] at h) <;> simp -implicitDefEqProofs (disch := omega) only [go_sem, hb] <;> (repeat (with_reducible refine And.intro ?_ ?_; focus first | omega | rfl | assumption | exact ⟨_, rfl, rfl⟩ | (simp; omega) | (simp; done)))
  · have hi' : i < xs.length := by omega
    have hw : i < (wordsX xs).length := by rw [words_len]; exact hi'
    have hg : (wordsX xs)[i] = atomX xs[i] := by simp [wordsX]
    have hl : (lx ((wordsX xs).take i) q).length ≤ i := by rw [lx_length]; exact List.length_take_le _ _
    (repeat (with_reducible refine And.intro ?_ ?_; focus first | omega | rfl | assumption | exact ⟨_, rfl, rfl⟩ | (simp; omega) | (simp; done)))
    refine call_w (implAtom_lab xs[i] (q + cntXs ((wordsX xs).take i))) ?_
    simp -implicitDefEqProofs (disch := omega) only [go_sem]
    (repeat (with_reducible refine And.intro ?_ ?_; focus first | omega | rfl | assumption | exact ⟨_, rfl, rfl⟩ | (simp; omega) | (simp; done)))
    have hs := lx_snoc hw q
    rw [hg, labX_atom] at hs
    rw [hs]
    exact inv_at (i + 1) (by omega) rfl rfl (by omega)
  · have hi' : i = (wordsX xs).length := by rw [words_len]; omega
    rw [hi', List.take_length]
    exact ⟨rfl, rfl⟩
theorem growX_run (base : Option Addr) (n : Nat) (h1 : 1 ≤ n) (hn : n ≤ 1073741824) (w : World) : Calls Tryz.prog 249 #[.slice base 0 0, .int .i64 n] w fun e w' =>
    ∃ cap row, n ≤ cap ∧ row.size = cap * 2 ∧ e = .returned (.slice (some ⟨w.heap.size, 0, none⟩) 0 cap) ∧ w' = { w.drew with heap := w.heap.push (.cells row 32) } := by
  obtain ⟨cap, row, hc, hr, hm⟩ := run_app_make (P := Tryz.prog) (w := w) (t := 30) (u := 3) (ty := 30) (e := 32) (base := base) (n := n) Tryz.underlying30 Tryz.underlying3 rfl rfl h1 hn (by decide +kernel) rfl
  have h0 : ¬ ((n : Int) < 0) := by omega
  have h2 : (0 : Int) < n := by omega
  go_enter Tryz.func249, Tryz.ntmps249
  go_wp2_with (at_builtin; refine Lib.wpList_append_run _ rfl _ _ _ _ rfl _ _ rfl rfl _ _ hm ?_)
  all_goals go_ret
  exact ⟨cap, hc, row, hr, rfl, rfl⟩
theorem growX_run0 (base : Option Addr) (w : World) : Calls Tryz.prog 249 #[.slice base 0 0, .int .i64 0] w fun e w' => e = .returned (.slice base 0 0) ∧ w' = w := by
  go_enter Tryz.func249, Tryz.ntmps249
  go_wp2
  all_goals go_ret
  exact ⟨rfl, rfl⟩
theorem growX_lab (m n : Nat) (hn : n ≤ 1073741824) (own0 : List Ab.Obj) (Ω : Store) : ACall Tryz.prog 249 [.c (.fsl []), .c (.d (.i .i64 n))] (own0 :: Ω)
    (fun r S' => r = .c (.tsl (0, own0.length) []) ∧ S' = (own0 ++ [.ltok m 2 []]) :: Ω) := by
  refine ⟨⟨_, Tryz.func249, by kernel_rfl, by kernel_rfl⟩, fun w σ β vs hS hv => ?_⟩
  obtain ⟨hl, h⟩ := hv
  obtain ⟨v0, e0, ⟨h0, a, m', h00⟩, _⟩ := h 0 _ rfl
  obtain ⟨v1, e1, h1, _⟩ := h 1 _ rfl
  have h1' : v1 = .int .i64 n := by cases h1; rfl
  subst h1'
  have hm : m' = 0 := by rw [h00] at h0; cases h0 <;> rfl
  subst hm
  subst h00
  have hvs : vs = [.slice a 0 0, .int .i64 n] := by
    match vs, hl, e0, e1 with
    | [x, y], _, e0, e1 => simp at e0 e1; rw [e0, e1]
  subst hvs
  cases β with
  | nil => have := hS.shape.1; simp at this
  | cons bo bΩ =>
  have hlen : bo.length = own0.length := by
    obtain ⟨gr, g1, g2⟩ := hS.shape.2 0 own0 rfl
    simp at g1; rw [g1]; exact g2
  by_cases hz : n = 0
  · subst hz
    refine (growX_run0 a w).mono fun e w' ⟨he, hw⟩ => ?_
    subst hw
    obtain ⟨hS', hk, hst⟩ := hS.push (o := .ltok m 2 []) (h := .slice a 0 0) (Grow.refl hS.live) hlen ⟨h0, by simp, a, 0, rfl, by simp, .inl ⟨rfl, .onil _ _ _⟩⟩ (fun b hb => by cases a <;> simp [owns, blk] at hb)
    refine ⟨_, .c (.tsl (0, own0.length) []), _, _, _, he, hS', hk, hst, ⟨⟨h0, .ltok m 2 [], ?_, fun esz es e => ?_⟩, rfl⟩, rfl, rfl⟩
    · rw [getO_push_new]
    · obtain ⟨_, rfl⟩ := istok_of (lab := some m) e; exact ⟨Nat.le_refl _, fun _ => by rw [← hlen, getO_push_new]⟩
  · refine (growX_run a n (by omega) hn w).mono fun e w' ⟨cap, row, hc, hr, he, hw⟩ => ?_
    subst hw
    have hσ : σ w.heap.size = 0 := (hS.live w.heap.size).resolve_left (by omega)
    have hg : Grow w σ { w.drew with heap := w.heap.push (.cells row 32) } σ := by
      refine ⟨by simp, rfl, rfl, fun b hb => ⟨?_, rfl⟩, fun b => ?_⟩
      · simp only [Array.getElem?_push]
        rw [if_neg (by omega)]
      · rcases hS.live b with hb | hb
        · left; simp; omega
        · exact .inr hb
    obtain ⟨hS', hk, hst⟩ := hS.push (o := .ltok m 2 []) (h := .slice (some ⟨w.heap.size, 0, none⟩) 0 cap) hg hlen ⟨.nil _ _, by simp, _, cap, rfl, by simp, .inr ⟨by simp; omega, w.heap.size, 0, row, 32, rfl, by simp, by simp [hσ], by omega⟩⟩ (fun b hb => by
      simp only [owns, blk] at hb
      split at hb
      · cases hb
      · cases hb; exact Nat.le_refl _)
    refine ⟨_, .c (.tsl (0, own0.length) []), _, _, _, he, hS', hk, hst, ⟨⟨.nil _ _, .ltok m 2 [], ?_, fun esz es e => ?_⟩, rfl⟩, rfl, rfl⟩
    · rw [getO_push_new]
    · obtain ⟨_, rfl⟩ := istok_of (lab := some m) e; exact ⟨Nat.le_refl _, fun _ => by rw [← hlen, getO_push_new]⟩
theorem concatX_lab (m l : Nat) (xss : List (Nat × List (List D))) (hl : xss.length ≤ 1073741824) (hr : ∀ p ∈ xss, ∀ r ∈ p.2, r.length = 2) (hf : (xss.map (·.2)).flatten.length ≤ 1073741824) : PCall Tryz.prog 161 [.c (.lfl l (xss.map fun p => [.ol p.1 p.2]))] (.c (.d (.ol m (xss.map (·.2)).flatten))) := fun S => by
  obtain ⟨ys, hys⟩ : ∃ ys : List (List (List D)), ys = xss.map (·.2) := ⟨_, rfl⟩
  rw [← hys] at hf ⊢
  have hyl : ys.length = xss.length := by rw [hys, List.length_map]
  have hyi : ∀ i (hi : i < xss.length), ys[i]'(by omega) = xss[i].2 := fun i hi => by simp [hys]
  have hyr : ∀ i (hi : i < xss.length), ∀ r ∈ xss[i].2, r.length = 2 := fun i hi => hr _ (List.getElem_mem hi)
  refine acall_cwL (m) (rs := [.tmp 2]) Tryz.checked.mixed Tryz.func161 Tryz.ntmps161 rfl rfl rfl rfl rfl ?_
  simp -implicitDefEqProofs (disch := omega) only [go_sem]
  refine loop_at (ι := Nat) Tryz.checked.mixed rfl [0, 3, 9, 10, 11] (fun i => [.c (.lfl l (xss.map fun p => [.ol p.1 p.2])), .c (.d (.i .i64 (ys.take i).flatten.length)), .c (.lfl l (xss.map fun p => [.ol p.1 p.2])), .c (.d (.i .i64 xss.length)), .c (.d (.i .i64 i))]) (fun _ => [.seed m] :: S)
    (fun i => i ≤ xss.length) (fun i => xss.length - i) 0 rfl rfl (Nat.zero_le _) ?_
  rintro i p1
  have hfi := flat_le ys i
  by_cases hi : i < xss.length
  · have hs := flat_sum ys (i := i) (by omega)
    rw [hyi i hi] at hs
    have hfi' := flat_le ys (i + 1)
    simp -implicitDefEqProofs (disch := omega) only [go_sem]
    with_reducible refine split2 (fun hb => ?_) (fun hb => ?_) <;> have h := hb <;> (try simp only [wf_preprocess] at h) <;> simp -implicitDefEqProofs (disch := omega) only [go_sem, hb] <;> (repeat (with_reducible refine And.intro ?_ ?_; focus first | omega | rfl | assumption | exact ⟨_, rfl, rfl⟩ | (simp; omega) | (simp; done)))
    · (repeat (with_reducible refine And.intro ?_ ?_; focus first | omega | rfl | assumption | exact ⟨_, rfl, rfl⟩ | (simp; omega) | (simp; done)))
      with_reducible refine split2 (fun hb => ?_) (fun hb => ?_) <;> have h := hb <;> (try simp only [wf_preprocess] at h) <;> simp -implicitDefEqProofs (disch := omega) only [go_sem, hb] <;> (repeat (with_reducible refine And.intro ?_ ?_; focus first | omega | rfl | assumption | exact ⟨_, rfl, rfl⟩ | (simp; omega) | (simp; done)))
      · omega
      · refine inv_at (i + 1) (by omega) ?_ rfl (by omega)
        rw [hs]; rfl
    · omega
  have hi : i = xss.length := by omega
  subst hi
  simp -implicitDefEqProofs (disch := omega) only [go_sem]
  with_reducible refine split2 (fun hb => ?_) (fun hb => ?_) <;> have h := hb <;> (try simp only [wf_preprocess] at h) <;> simp -implicitDefEqProofs (disch := omega) only [go_sem, hb] <;> (repeat (with_reducible refine And.intro ?_ ?_; focus first | omega | rfl | assumption | exact ⟨_, rfl, rfl⟩ | (simp; omega) | (simp; done)))
  · omega
  rw [← hyl, List.take_length]
  clear hfi
  refine call_d rfl (growX_lab m ys.flatten.length hf [.seed m] S) ?_
  simp -implicitDefEqProofs (disch := omega) only [go_sem]
  refine loop_at (ι := Nat) Tryz.checked.mixed rfl [6, 25, 26, 27] (fun i => [.c (.tsl (0, 1) (ys.take i).flatten), .c (.lfl l (xss.map fun p => [.ol p.1 p.2])), .c (.d (.i .i64 xss.length)), .c (.d (.i .i64 i))]) (fun i => [.seed m, .ltok m 2 (ys.take i).flatten] :: S)
    (fun i => i ≤ xss.length) (fun i => xss.length - i) 0 (by rw [← hyl]; rfl) rfl (Nat.zero_le _) ?_
  rintro i p1
  have hfi := flat_le ys i
  by_cases hi : i < xss.length
  · have hs := flat_sum ys (i := i) (by omega)
    rw [hyi i hi] at hs
    have hfi' := flat_le ys (i + 1)
    have e : (ys.take (i + 1)).flatten = (ys.take i).flatten ++ xss[i].2 := by
      rw [List.take_succ_eq_append_getElem (by omega), List.flatten_append, hyi i hi]
      simp only [List.flatten_cons, List.flatten_nil, List.append_nil]
    have hri := hyr i hi
    simp -implicitDefEqProofs (disch := omega) only [go_sem]
    with_reducible refine split2 (fun hb => ?_) (fun hb => ?_) <;> have h := hb <;> (try simp only [wf_preprocess] at h) <;> simp -implicitDefEqProofs (disch := omega) only [go_sem, hb] <;> (repeat (with_reducible refine And.intro ?_ ?_; focus first | omega | rfl | assumption | exact ⟨_, rfl, rfl⟩ | (simp; omega) | (simp; done)))
    · (repeat (with_reducible refine And.intro ?_ ?_; focus first | omega | rfl | assumption | exact ⟨_, rfl, rfl⟩ | (simp; omega) | (simp; done)))
      exact inv_at (i + 1) (by omega) (by rw [e]; rfl) (by rw [e]) (by omega)
    · omega
  · have hi : i = ys.length := by omega
    simp -implicitDefEqProofs (disch := omega) only [go_sem]
    with_reducible refine split2 (fun hb => ?_) (fun hb => ?_) <;> have h := hb <;> (try simp only [wf_preprocess] at h) <;> simp -implicitDefEqProofs (disch := omega) only [go_sem, hb] <;> (repeat (with_reducible refine And.intro ?_ ?_; focus first | omega | rfl | assumption | exact ⟨_, rfl, rfl⟩ | (simp; omega) | (simp; done)))
    · omega
    rw [hi, List.take_length]
end Go.Proofs.YtokcpelkieeddaaGreatDoor

namespace Go.Ab
theorem headE_at {x : MExpr} {k : Int} (h : x.fKind = k) : headE x.fKind x.fTrait x.fName x.fType = headE k x.fTrait x.fName x.fType := by rw [h]
theorem ex_mem_sz {l : List MExpr} {t : MExpr} (h : t ∈ l) : t.sz ≤ szE l := by
  rw [← szE_rows]; exact szRows_mem (List.mem_map_of_mem h)
theorem arm_mem_sz {l : List MArm} {t : MArm} (h : t ∈ l) : t.sz ≤ szM l := by
  rw [← szM_rows]; exact szRows_mem (List.mem_map_of_mem h)
theorem exprsOk_iff : ∀ {xs : List MExpr}, exprsOk xs = true ↔ ∀ t ∈ xs, exprOk t = true
  | [] => by simp [exprsOk]
  | t :: ts => by simp [exprsOk, exprsOk_iff (xs := ts)]
theorem armsOk_iff : ∀ {xs : List MArm}, armsOk xs = true ↔ ∀ t ∈ xs, armOk t = true
  | [] => by simp [armsOk]
  | t :: ts => by simp [armsOk, armsOk_iff (xs := ts)]
theorem sxE_head {x : MExpr} (h1 : x.fKind ≠ 1) (h2 : x.fKind ≠ 2) (h3 : x.fKind ≠ 3) (h : x.fKind = 4 ∨ x.fKind = 5 ∨ x.fKind = 6 ∨ x.fKind = 8 ∨ x.fKind = 9 ∨ x.fKind = 10 ∨ x.fKind = 11 ∨ x.fKind = 12) :
    sxE x = listX (headE x.fKind x.fTrait x.fName x.fType ++ x.fArgs.map sxE) := by rw [sxE_eq, if_neg h1, if_neg h2, if_neg h3, if_pos h, List.append_nil]
end Go.Ab
namespace Go.Proofs.YtokcpelkieeddaaGreatDoor
open Go Go.Ab
theorem implEx_all : ∀ N : Nat, ∀ x : MExpr, SizeOf.sizeOf x < N → ∀ n : Nat, exprOk x = true → x.sz ≤ 4194304 → PCall Tryz.prog 64 [x.v] (.agg [.d (.s (sxE x).fAtom), .d (.ol n (lx (sxE x).fList (n + 1)))])
  | 0 => fun x h => by omega
  | N + 1 => by
    have ih := implEx_all N
    intro x hn n hok hsz S
    have lArgs := MExpr.lt_Args x
    have lArms := MExpr.lt_Arms x
    have hzz := ex_sz_eq x
    rw [exprOk_eq, Bool.and_eq_true, Bool.and_eq_true] at hok
    obtain ⟨hfi, hoa, hom⟩ := hok
    have hfi := of_dec hfi
    have hoa := exprsOk_iff.1 hoa
    have hom := armsOk_iff.1 hom
    obtain ⟨qa, hqa⟩ : ∃ qa, qa = n + 1 + cntXs (headE x.fKind x.fTrait x.fName x.fType) := ⟨_, rfl⟩
    obtain ⟨T, hT⟩ : ∃ T : Nat → List (List D), T = fun i => lx ((x.fArgs.map sxE).take i) qa := ⟨_, rfl⟩
    have hT0 : T 0 = [] := by rw [hT]; rfl
    have hTl : ∀ i, (T i).length ≤ i := fun i => by rw [hT]; simp only [lx_length]; exact List.length_take_le _ _
    have hTr : ∀ i, ∀ r ∈ T i, r.length = 2 := fun i => by rw [hT]; exact lx_rows
    have hTs : ∀ i (hi : i < x.fArgs.length), T i ++ [[.s (sxE x.fArgs[i]).fAtom, .ol (qa + cntXs ((x.fArgs.map sxE).take i)) (lx (sxE x.fArgs[i]).fList (qa + cntXs ((x.fArgs.map sxE).take i) + 1))]] = T (i + 1) := fun i hi => by
      have := lx_snoc' (l := x.fArgs.map sxE) (i := i) (by rw [List.length_map]; exact hi) qa
      rw [List.getElem_map] at this
      rw [hT]; exact this
    have hTe : T x.fArgs.length = lx (x.fArgs.map sxE) qa := by rw [hT]; simp only; rw [List.take_of_length_le (by simp)]
    clear hT
    refine acall_cwL (n) (rs := [.cell 2 32]) Tryz.checked.mixed Tryz.func64 Tryz.ntmps64 rfl rfl rfl rfl rfl ?_
    simp -implicitDefEqProofs (disch := omega) only [go_sem]
    (repeat (with_reducible refine And.intro ?_ ?_; focus first | omega | rfl | assumption | exact ⟨_, rfl, rfl⟩ | (simp; omega) | (simp; done)))
    refine aw_ltok n 3 2 [] (.inl rfl) (by simp) ?_
    refine loop_at (ι := Nat) Tryz.checked.mixed rfl [1, 2, 3, 11, 12, 13] (fun i => [.c (.ptr (0, 1) 0), .c (.ptr (0, 2) 0), .c (.tsl (0, 3) (T i)), .c (.d (.sl (x.fArgs.map MExpr.enc))), .c (.d (.i .i64 x.fArgs.length)), .c (.d (.i .i64 i))])
      (fun i => [.seed n, .box [.d (.i .i64 x.fKind), .d (.s x.fTrait), .d (.s x.fName), .d (.i .i64 x.fN), .d (.i .i64 x.fType.fKind), .d (.s x.fType.fName), .d (.sl (x.fType.fArgs.map MType.enc)), .d (.sl (x.fArgs.map MExpr.enc)), .d (.sl (x.fArms.map MArm.enc))], .box [.d (.s []), .fsl []], .ltok n 2 (T i)] :: S)
      (fun i => i ≤ x.fArgs.length) (fun i => x.fArgs.length - i) 0 (by rw [hT0]; rfl) (by rw [hT0]; rfl) (Nat.zero_le _) ?_
    intro i hi
    have hl := hTl i
    simp -implicitDefEqProofs (disch := omega) only [go_sem]
    with_reducible refine split2 (fun hb => ?_) (fun hb => ?_) <;> have h := hb <;> (try simp only [wf_preprocess] at h) <;> simp -implicitDefEqProofs (disch := omega) only [go_sem, hb] <;> (repeat (with_reducible refine And.intro ?_ ?_; focus first | omega | rfl | assumption | exact ⟨_, rfl, rfl⟩ | (simp; omega) | (simp; done)))
    · have hi' : i < x.fArgs.length := by omega
      have hm := List.getElem_mem hi'
      have hez := ex_mem_sz hm
      have hs := hTs i hi'
      (repeat (with_reducible refine And.intro ?_ ?_; focus first | omega | rfl | assumption | exact ⟨_, rfl, rfl⟩ | (simp; omega) | (simp; done)))
      refine call_w (ih x.fArgs[i] (by have := List.sizeOf_lt_of_mem hm; omega) (qa + cntXs ((x.fArgs.map sxE).take i)) (hoa _ hm) (by omega)) ?_
      simp -implicitDefEqProofs (disch := omega) only [go_sem]
      (repeat (with_reducible refine And.intro ?_ ?_; focus first | omega | rfl | assumption | exact ⟨_, rfl, rfl⟩ | (simp; omega) | (simp; done)))
      rw [hs]
      exact inv_drop 4 (by decide) (i + 1) (by omega) rfl rfl rfl rfl (by omega)
    have hi' : i = x.fArgs.length := by omega
    subst hi'
    clear hTs hi h hb
    have hTT := hTr x.fArgs.length
    have hxe := sxE_eq x
    with_reducible refine split2 (fun hb => ?_) (fun hb => ?_) <;> have h := hb <;> (try simp only [wf_preprocess] at h) <;> simp -implicitDefEqProofs (disch := omega) only [go_sem, hb] <;> (repeat (with_reducible refine And.intro ?_ ?_; focus first | omega | rfl | assumption | exact ⟨_, rfl, rfl⟩ | (simp; omega) | (simp; done)))
    · rw [if_pos h] at hxe
      rw [hxe]
      have hb := hfi.2.2.2.1
      rw [if_pos h] at hb
      refine call_w (implFormatInt_ok x.fN (by omega) (by omega)) ?_
      simp -implicitDefEqProofs (disch := omega) only [go_sem]
      refine call_w (implAtom_lab _ n) ?_
      simp -implicitDefEqProofs (disch := omega) only [go_sem]
      rfl
    have k1 := h
    rw [if_neg h] at hxe
    with_reducible refine split2 (fun hb => ?_) (fun hb => ?_) <;> have h := hb <;> (try simp only [wf_preprocess] at h) <;> simp -implicitDefEqProofs (disch := omega) only [go_sem, hb] <;> (repeat (with_reducible refine And.intro ?_ ?_; focus first | omega | rfl | assumption | exact ⟨_, rfl, rfl⟩ | (simp; omega) | (simp; done)))
    · rw [if_pos h] at hxe
      rw [hxe]
      with_reducible refine split2 (fun hb => ?_) (fun hb => ?_) <;> have h := hb <;> (try simp only [wf_preprocess] at h) <;> simp -implicitDefEqProofs (disch := omega) only [go_sem, hb] <;> (repeat (with_reducible refine And.intro ?_ ?_; focus first | omega | rfl | assumption | exact ⟨_, rfl, rfl⟩ | (simp; omega) | (simp; done)))
      · rw [if_pos h]
        refine call_w (implAtom_lab _ n) ?_
        simp -implicitDefEqProofs (disch := omega) only [go_sem]
        rfl
      · rw [if_neg h]
        refine call_w (implAtom_lab _ n) ?_
        simp -implicitDefEqProofs (disch := omega) only [go_sem]
        rfl
    have k2 := h
    rw [if_neg h] at hxe
    with_reducible refine split2 (fun hb => ?_) (fun hb => ?_) <;> have h := hb <;> (try simp only [wf_preprocess] at h) <;> simp -implicitDefEqProofs (disch := omega) only [go_sem, hb] <;> (repeat (with_reducible refine And.intro ?_ ?_; focus first | omega | rfl | assumption | exact ⟨_, rfl, rfl⟩ | (simp; omega) | (simp; done)))
    · rw [if_pos h] at hxe
      rw [hxe]
      refine call_w (implAtom_lab _ n) ?_
      simp -implicitDefEqProofs (disch := omega) only [go_sem]
      rfl
    have k3 := h
    clear hxe
    with_reducible refine split2 (fun hb => ?_) (fun hb => ?_) <;> have h := hb <;> (try simp only [wf_preprocess] at h) <;> simp -implicitDefEqProofs (disch := omega) only [go_sem, hb] <;> (repeat (with_reducible refine And.intro ?_ ?_; focus first | omega | rfl | assumption | exact ⟨_, rfl, rfl⟩ | (simp; omega) | (simp; done)))
    · have hx := sxE_head k1 k2 k3 (by omega)
      have hh : headE x.fKind x.fTrait x.fName x.fType = wordsX [wCall, x.fName] := by rw [headE_at h]; rfl
      rw [hh] at hx hqa
      (repeat (with_reducible refine And.intro ?_ ?_; focus first | omega | rfl | assumption | exact ⟨_, rfl, rfl⟩ | (simp; omega) | (simp; done)))
      refine call_d rfl (ACall.args (implAtoms_esc [wCall, x.fName] (by simp) n (n + 1) _ _) (.cons (less_lfls n _) .nil)) ?_
      have hhl : (lx (wordsX [wCall, x.fName]) (n + 1)).length = 2 := by rw [lx_length]; rfl
      have hhr := lx_rows (l := wordsX [wCall, x.fName]) (n := n + 1)
      simp -implicitDefEqProofs (disch := omega) only [go_sem]
      (repeat (with_reducible refine And.intro ?_ ?_; focus first | omega | rfl | assumption | exact ⟨_, rfl, rfl⟩ | (simp; omega) | (simp; done)))
      refine call_d rfl (implList_t 0 5 _ _) ?_
      simp -implicitDefEqProofs (disch := omega) only [go_sem]
      rw [hx, hTe, hqa, fAtom_list, fList_list, lx_append]
    have k4 := h
    with_reducible refine split2 (fun hb => ?_) (fun hb => ?_) <;> have h := hb <;> (try simp only [wf_preprocess] at h) <;> simp -implicitDefEqProofs (disch := omega) only [go_sem, hb] <;> (repeat (with_reducible refine And.intro ?_ ?_; focus first | omega | rfl | assumption | exact ⟨_, rfl, rfl⟩ | (simp; omega) | (simp; done)))
    · have hx := sxE_head k1 k2 k3 (by omega)
      have hh : headE x.fKind x.fTrait x.fName x.fType = wordsX [wMethod, x.fTrait, x.fName] := by rw [headE_at h]; rfl
      rw [hh] at hx hqa
      (repeat (with_reducible refine And.intro ?_ ?_; focus first | omega | rfl | assumption | exact ⟨_, rfl, rfl⟩ | (simp; omega) | (simp; done)))
      refine call_d rfl (ACall.args (implAtoms_esc [wMethod, x.fTrait, x.fName] (by simp) n (n + 1) _ _) (.cons (less_lfls n _) .nil)) ?_
      have hhl : (lx (wordsX [wMethod, x.fTrait, x.fName]) (n + 1)).length = 3 := by rw [lx_length]; rfl
      have hhr := lx_rows (l := wordsX [wMethod, x.fTrait, x.fName]) (n := n + 1)
      simp -implicitDefEqProofs (disch := omega) only [go_sem]
      (repeat (with_reducible refine And.intro ?_ ?_; focus first | omega | rfl | assumption | exact ⟨_, rfl, rfl⟩ | (simp; omega) | (simp; done)))
      refine call_d rfl (implList_t 0 5 _ _) ?_
      simp -implicitDefEqProofs (disch := omega) only [go_sem]
      rw [hx, hTe, hqa, fAtom_list, fList_list, lx_append]
    have k5 := h
    with_reducible refine split2 (fun hb => ?_) (fun hb => ?_) <;> have h := hb <;> (try simp only [wf_preprocess] at h) <;> simp -implicitDefEqProofs (disch := omega) only [go_sem, hb] <;> (repeat (with_reducible refine And.intro ?_ ?_; focus first | omega | rfl | assumption | exact ⟨_, rfl, rfl⟩ | (simp; omega) | (simp; done)))
    · have hx := sxE_head k1 k2 k3 (by omega)
      have hh : headE x.fKind x.fTrait x.fName x.fType = wordsX [wNew, x.fName] := by rw [headE_at h]; rfl
      rw [hh] at hx hqa
      (repeat (with_reducible refine And.intro ?_ ?_; focus first | omega | rfl | assumption | exact ⟨_, rfl, rfl⟩ | (simp; omega) | (simp; done)))
      refine call_d rfl (ACall.args (implAtoms_esc [wNew, x.fName] (by simp) n (n + 1) _ _) (.cons (less_lfls n _) .nil)) ?_
      have hhl : (lx (wordsX [wNew, x.fName]) (n + 1)).length = 2 := by rw [lx_length]; rfl
      have hhr := lx_rows (l := wordsX [wNew, x.fName]) (n := n + 1)
      simp -implicitDefEqProofs (disch := omega) only [go_sem]
      (repeat (with_reducible refine And.intro ?_ ?_; focus first | omega | rfl | assumption | exact ⟨_, rfl, rfl⟩ | (simp; omega) | (simp; done)))
      refine call_d rfl (implList_t 0 5 _ _) ?_
      simp -implicitDefEqProofs (disch := omega) only [go_sem]
      rw [hx, hTe, hqa, fAtom_list, fList_list, lx_append]
    have k6 := h
    with_reducible refine split2 (fun hb => ?_) (fun hb => ?_) <;> have h := hb <;> (try simp only [wf_preprocess] at h) <;> simp -implicitDefEqProofs (disch := omega) only [go_sem, hb] <;> (repeat (with_reducible refine And.intro ?_ ?_; focus first | omega | rfl | assumption | exact ⟨_, rfl, rfl⟩ | (simp; omega) | (simp; done)))
    · have hx := sxE_eq x
      rw [if_neg k1, if_neg k2, if_neg k3, if_neg (by omega)] at hx
      have hh : headE x.fKind x.fTrait x.fName x.fType = wordsX [wCase] := by rw [headE_at h]; rfl
      rw [hh] at hx hqa
      obtain ⟨B, hB⟩ : ∃ B : Nat → List (List D), B = fun i => lx (x.fArgs.map sxE ++ (x.fArms.map sxM).take i) qa := ⟨_, rfl⟩
      obtain ⟨L, hL⟩ : ∃ L : Nat → Nat, L = fun i => qa + cntXs (x.fArgs.map sxE ++ (x.fArms.map sxM).take i) := ⟨_, rfl⟩
      have hB0 : T x.fArgs.length = B 0 := by rw [hTe, hB]; simp only [List.take_zero, List.append_nil]
      have hBl : ∀ i, (B i).length ≤ i + x.fArgs.length := fun i => by
        rw [hB]; simp only [lx_length, List.length_append, List.length_map]
        have := List.length_take_le i (x.fArms.map sxM)
        omega
      have hBr : ∀ i, ∀ r ∈ B i, r.length = 2 := fun i => by rw [hB]; exact lx_rows
      have hBs : ∀ i (hi : i < x.fArms.length), B i ++ [[.s [], .ol (L i) (lx ([atomX x.fArms[i].fConstructor] ++ wordsX x.fArms[i].fVars ++ [sxE x.fArms[i].fBody]) (L i + 1))]] = B (i + 1) := fun i hi => by
        have := lx_snocB (base := x.fArgs.map sxE) (l := x.fArms.map sxM) (i := i) (by rw [List.length_map]; exact hi) qa
        rw [List.getElem_map, sxM_eq, fAtom_list, fList_list] at this
        rw [hB, hL]; exact this
      have hBe : B x.fArms.length = lx (x.fArgs.map sxE ++ x.fArms.map sxM) qa := by rw [hB]; simp only; rw [List.take_of_length_le (by simp)]
      clear hB hL hTT
      (repeat (with_reducible refine And.intro ?_ ?_; focus first | omega | rfl | assumption | exact ⟨_, rfl, rfl⟩ | (simp; omega) | (simp; done)))
      refine call_d rfl (ACall.args (implAtoms_esc [wCase] (by simp) n (n + 1) _ _) (.cons (less_lfls n _) .nil)) ?_
      have hhl : (lx (wordsX [wCase]) (n + 1)).length = 1 := by rw [lx_length]; rfl
      have hhr := lx_rows (l := wordsX [wCase]) (n := n + 1)
      simp -implicitDefEqProofs (disch := omega) only [go_sem]
      rw [hB0]
      obtain ⟨HD, hHD⟩ : ∃ HD, HD = lx (wordsX [wCase]) (n + 1) := ⟨_, rfl⟩
      rw [← hHD] at hhl hhr ⊢
      refine loop_at (ι := Nat) Tryz.checked.mixed rfl [2, 3, 6, 69, 70, 71] (fun i => [.c (.ptr (0, 2) 0), .c (.tsl (0, 3) (B i)), .c (.tsl (0, 5) HD), .c (.d (.sl (x.fArms.map MArm.enc))), .c (.d (.i .i64 x.fArms.length)), .c (.d (.i .i64 i))])
        (fun i => [.seed n, .box [.d (.i .i64 x.fKind), .d (.s x.fTrait), .d (.s x.fName), .d (.i .i64 x.fN), .d (.i .i64 x.fType.fKind), .d (.s x.fType.fName), .d (.sl (x.fType.fArgs.map MType.enc)), .d (.sl (x.fArgs.map MExpr.enc)), .d (.sl (x.fArms.map MArm.enc))], .box [.d (.s []), .fsl []], .ltok n 2 (B i), .seed n, .ltok n 2 HD] :: S)
        (fun i => i ≤ x.fArms.length) (fun i => x.fArms.length - i) 0 rfl rfl (Nat.zero_le _) ?_
      intro i hi
      have hl := hBl i
      have hr := hBr i
      simp -implicitDefEqProofs (disch := omega) only [go_sem]
      with_reducible refine split2 (fun hb => ?_) (fun hb => ?_) <;> have h := hb <;> (try simp only [wf_preprocess] at h) <;> simp -implicitDefEqProofs (disch := omega) only [go_sem, hb] <;> (repeat (with_reducible refine And.intro ?_ ?_; focus first | omega | rfl | assumption | exact ⟨_, rfl, rfl⟩ | (simp; omega) | (simp; done)))
      · have hi' : i < x.fArms.length := by omega
        have hm := List.getElem_mem hi'
        have hez := arm_mem_sz hm
        have hea := arm_sz_eq x.fArms[i]
        have hs := hBs i hi'
        have hak := hom _ hm
        rw [armOk_eq, Bool.and_eq_true, Bool.and_eq_true] at hak
        have hls := List.sizeOf_lt_of_mem hm
        have hlb := MArm.lt_Body x.fArms[i]
        (repeat (with_reducible refine And.intro ?_ ?_; focus first | omega | rfl | assumption | exact ⟨_, rfl, rfl⟩ | (simp; omega) | (simp; done)))
        refine call_l (implAtoms_lab [x.fArms[i].fConstructor] (by simp) 0 (L i + 1)) (.cons (less_lfls n _) .nil) ?_
        simp -implicitDefEqProofs (disch := omega) only [go_sem]
        refine call_w (implAtoms_lab x.fArms[i].fVars (by omega) 0 (L i + 1 + cntXs (wordsX [x.fArms[i].fConstructor]))) ?_
        simp -implicitDefEqProofs (disch := omega) only [go_sem]
        refine call_w (ih x.fArms[i].fBody (by omega) (L i + 1 + cntXs (wordsX [x.fArms[i].fConstructor] ++ wordsX x.fArms[i].fVars)) hak.2.2 (by omega)) ?_
        simp -implicitDefEqProofs (disch := omega) only [go_sem]
        (repeat (with_reducible refine And.intro ?_ ?_; focus first | omega | rfl | assumption | exact ⟨_, rfl, rfl⟩ | (simp; omega) | (simp; done)))
        refine call_w (concatX_lab (L i) n [(0, lx (wordsX [x.fArms[i].fConstructor]) (L i + 1)), (0, lx (wordsX x.fArms[i].fVars) (L i + 1 + cntXs (wordsX [x.fArms[i].fConstructor]))), (n, [[.s (sxE x.fArms[i].fBody).fAtom, .ol (L i + 1 + cntXs (wordsX [x.fArms[i].fConstructor] ++ wordsX x.fArms[i].fVars)) (lx (sxE x.fArms[i].fBody).fList (L i + 1 + cntXs (wordsX [x.fArms[i].fConstructor] ++ wordsX x.fArms[i].fVars) + 1))]])] (by simp) ?_ ?_) ?_
        · intro p hp
          simp only [List.mem_cons, List.not_mem_nil, or_false] at hp
          rcases hp with rfl | rfl | rfl
          · exact lx_rows
          · exact lx_rows
          · simp
        · simp only [List.map_cons, List.map_nil, List.flatten_cons, List.flatten_nil, List.length_append, lx_length, words_len, List.length_cons, List.length_nil]; omega
        simp -implicitDefEqProofs (disch := omega) only [go_sem]
        refine call_w (implList_d _) ?_
        simp -implicitDefEqProofs (disch := omega) only [go_sem]
        (repeat (with_reducible refine And.intro ?_ ?_; focus first | omega | rfl | assumption | exact ⟨_, rfl, rfl⟩ | (simp; omega) | (simp; done)))
        have hrow : [lx (wordsX [x.fArms[i].fConstructor]) (L i + 1), lx (wordsX x.fArms[i].fVars) (L i + 1 + cntXs (wordsX [x.fArms[i].fConstructor])), [[.s (sxE x.fArms[i].fBody).fAtom, .ol (L i + 1 + cntXs (wordsX [x.fArms[i].fConstructor] ++ wordsX x.fArms[i].fVars)) (lx (sxE x.fArms[i].fBody).fList (L i + 1 + cntXs (wordsX [x.fArms[i].fConstructor] ++ wordsX x.fArms[i].fVars) + 1))]]].flatten = lx ([atomX x.fArms[i].fConstructor] ++ wordsX x.fArms[i].fVars ++ [sxE x.fArms[i].fBody]) (L i + 1) := by
          have e1 : [atomX x.fArms[i].fConstructor] = wordsX [x.fArms[i].fConstructor] := rfl
          rw [e1, lx_append, lx_append, lx_cons (sxE x.fArms[i].fBody) [], lx_nil, labX_eq (sxE x.fArms[i].fBody)]
          simp only [List.flatten_cons, List.flatten_nil, List.append_nil, List.append_assoc]
        rw [hrow, hs]
        exact inv_drop 6 (by decide) (i + 1) (by omega) rfl rfl rfl rfl (by omega)
      · have hi' : i = x.fArms.length := by omega
        subst hi'
        have hr2 := hBr x.fArms.length
        (repeat (with_reducible refine And.intro ?_ ?_; focus first | omega | rfl | assumption | exact ⟨_, rfl, rfl⟩ | (simp; omega) | (simp; done)))
        refine call_d rfl (implList_t 0 5 _ _) ?_
        simp -implicitDefEqProofs (disch := omega) only [go_sem]
        rw [hx, hBe, hqa, hHD, fAtom_list, fList_list, List.append_assoc, lx_append (wordsX [wCase])]
    have k7 := h
    with_reducible refine split2 (fun hb => ?_) (fun hb => ?_) <;> have h := hb <;> (try simp only [wf_preprocess] at h) <;> simp -implicitDefEqProofs (disch := omega) only [go_sem, hb] <;> (repeat (with_reducible refine And.intro ?_ ?_; focus first | omega | rfl | assumption | exact ⟨_, rfl, rfl⟩ | (simp; omega) | (simp; done)))
    · have hx := sxE_head k1 k2 k3 (by omega)
      have hh : headE x.fKind x.fTrait x.fName x.fType = wordsX [wLet, x.fName] := by rw [headE_at h]; rfl
      rw [hh] at hx hqa
      (repeat (with_reducible refine And.intro ?_ ?_; focus first | omega | rfl | assumption | exact ⟨_, rfl, rfl⟩ | (simp; omega) | (simp; done)))
      refine call_d rfl (ACall.args (implAtoms_esc [wLet, x.fName] (by simp) n (n + 1) _ _) (.cons (less_lfls n _) .nil)) ?_
      have hhl : (lx (wordsX [wLet, x.fName]) (n + 1)).length = 2 := by rw [lx_length]; rfl
      have hhr := lx_rows (l := wordsX [wLet, x.fName]) (n := n + 1)
      simp -implicitDefEqProofs (disch := omega) only [go_sem]
      (repeat (with_reducible refine And.intro ?_ ?_; focus first | omega | rfl | assumption | exact ⟨_, rfl, rfl⟩ | (simp; omega) | (simp; done)))
      refine call_d rfl (implList_t 0 5 _ _) ?_
      simp -implicitDefEqProofs (disch := omega) only [go_sem]
      rw [hx, hTe, hqa, fAtom_list, fList_list, lx_append]
    have k8 := h
    with_reducible refine split2 (fun hb => ?_) (fun hb => ?_) <;> have h := hb <;> (try simp only [wf_preprocess] at h) <;> simp -implicitDefEqProofs (disch := omega) only [go_sem, hb] <;> (repeat (with_reducible refine And.intro ?_ ?_; focus first | omega | rfl | assumption | exact ⟨_, rfl, rfl⟩ | (simp; omega) | (simp; done)))
    · have hx := sxE_head k1 k2 k3 (by omega)
      have hh : headE x.fKind x.fTrait x.fName x.fType = wordsX [wIf] := by rw [headE_at h]; rfl
      rw [hh] at hx hqa
      (repeat (with_reducible refine And.intro ?_ ?_; focus first | omega | rfl | assumption | exact ⟨_, rfl, rfl⟩ | (simp; omega) | (simp; done)))
      refine call_d rfl (ACall.args (implAtoms_esc [wIf] (by simp) n (n + 1) _ _) (.cons (less_lfls n _) .nil)) ?_
      have hhl : (lx (wordsX [wIf]) (n + 1)).length = 1 := by rw [lx_length]; rfl
      have hhr := lx_rows (l := wordsX [wIf]) (n := n + 1)
      simp -implicitDefEqProofs (disch := omega) only [go_sem]
      (repeat (with_reducible refine And.intro ?_ ?_; focus first | omega | rfl | assumption | exact ⟨_, rfl, rfl⟩ | (simp; omega) | (simp; done)))
      refine call_d rfl (implList_t 0 5 _ _) ?_
      simp -implicitDefEqProofs (disch := omega) only [go_sem]
      rw [hx, hTe, hqa, fAtom_list, fList_list, lx_append]
    have k9 := h
    with_reducible refine split2 (fun hb => ?_) (fun hb => ?_) <;> have h := hb <;> (try simp only [wf_preprocess] at h) <;> simp -implicitDefEqProofs (disch := omega) only [go_sem, hb] <;> (repeat (with_reducible refine And.intro ?_ ?_; focus first | omega | rfl | assumption | exact ⟨_, rfl, rfl⟩ | (simp; omega) | (simp; done)))
    · have hx := sxE_head k1 k2 k3 (by omega)
      have hh : headE x.fKind x.fTrait x.fName x.fType = wordsX [x.fName] := by rw [headE_at h]; rfl
      rw [hh] at hx hqa
      (repeat (with_reducible refine And.intro ?_ ?_; focus first | omega | rfl | assumption | exact ⟨_, rfl, rfl⟩ | (simp; omega) | (simp; done)))
      refine call_d rfl (ACall.args (implAtoms_esc [x.fName] (by simp) n (n + 1) _ _) (.cons (less_lfls n _) .nil)) ?_
      have hhl : (lx (wordsX [x.fName]) (n + 1)).length = 1 := by rw [lx_length]; rfl
      have hhr := lx_rows (l := wordsX [x.fName]) (n := n + 1)
      simp -implicitDefEqProofs (disch := omega) only [go_sem]
      (repeat (with_reducible refine And.intro ?_ ?_; focus first | omega | rfl | assumption | exact ⟨_, rfl, rfl⟩ | (simp; omega) | (simp; done)))
      refine call_d rfl (implList_t 0 5 _ _) ?_
      simp -implicitDefEqProofs (disch := omega) only [go_sem]
      rw [hx, hTe, hqa, fAtom_list, fList_list, lx_append]
    have k10 := h
    with_reducible refine split2 (fun hb => ?_) (fun hb => ?_) <;> have h := hb <;> (try simp only [wf_preprocess] at h) <;> simp -implicitDefEqProofs (disch := omega) only [go_sem, hb] <;> (repeat (with_reducible refine And.intro ?_ ?_; focus first | omega | rfl | assumption | exact ⟨_, rfl, rfl⟩ | (simp; omega) | (simp; done)))
    · have hx := sxE_head k1 k2 k3 (by omega)
      have hh : headE x.fKind x.fTrait x.fName x.fType = wordsX [wPack, x.fTrait] := by rw [headE_at h]; rfl
      rw [hh] at hx hqa
      (repeat (with_reducible refine And.intro ?_ ?_; focus first | omega | rfl | assumption | exact ⟨_, rfl, rfl⟩ | (simp; omega) | (simp; done)))
      refine call_d rfl (ACall.args (implAtoms_esc [wPack, x.fTrait] (by simp) n (n + 1) _ _) (.cons (less_lfls n _) .nil)) ?_
      have hhl : (lx (wordsX [wPack, x.fTrait]) (n + 1)).length = 2 := by rw [lx_length]; rfl
      have hhr := lx_rows (l := wordsX [wPack, x.fTrait]) (n := n + 1)
      simp -implicitDefEqProofs (disch := omega) only [go_sem]
      (repeat (with_reducible refine And.intro ?_ ?_; focus first | omega | rfl | assumption | exact ⟨_, rfl, rfl⟩ | (simp; omega) | (simp; done)))
      refine call_d rfl (implList_t 0 5 _ _) ?_
      simp -implicitDefEqProofs (disch := omega) only [go_sem]
      rw [hx, hTe, hqa, fAtom_list, fList_list, lx_append]
    have k11 := h
    with_reducible refine split2 (fun hb => ?_) (fun hb => ?_) <;> have h := hb <;> (try simp only [wf_preprocess] at h) <;> simp -implicitDefEqProofs (disch := omega) only [go_sem, hb] <;> (repeat (with_reducible refine And.intro ?_ ?_; focus first | omega | rfl | assumption | exact ⟨_, rfl, rfl⟩ | (simp; omega) | (simp; done)))
    · have hx := sxE_head k1 k2 k3 (by omega)
      have hh : headE x.fKind x.fTrait x.fName x.fType = [atomX wThe, sxT x.fType] := by rw [headE_at h]; rfl
      rw [hh] at hx hqa
      have hty := hfi.2.2.2.2.1
      rw [if_pos h] at hty
      refine call_w (implAtom_lab _ (n + 1)) ?_
      simp -implicitDefEqProofs (disch := omega) only [go_sem]
      refine call_w (implTy_lab x.fType (n + 1 + 1) (valid_formed hty) (by omega)) ?_
      simp -implicitDefEqProofs (disch := omega) only [go_sem]
      (repeat (with_reducible refine And.intro ?_ ?_; focus first | omega | rfl | assumption | exact ⟨_, rfl, rfl⟩ | (simp; omega) | (simp; done)))
      refine call_d rfl (implList_t 0 4 _ _) ?_
      simp -implicitDefEqProofs (disch := omega) only [go_sem]
      rw [hx, hTe, hqa, fAtom_list, fList_list, lx_append]
      simp only [lx_cons, lx_nil, labX_eq, fAtom_atom, fList_atom, cntX_atom, cntXs_cons, cntXs_nil, wThe, List.cons_append, List.nil_append]
    · have := hfi.1
      omega
theorem implEx_lab (x : MExpr) (n : Nat) (hok : exprOk x = true) (hsz : x.sz ≤ 4194304) : PCall Tryz.prog 64 [x.v] (.agg [.d (.s (sxE x).fAtom), .d (.ol n (lx (sxE x).fList (n + 1)))]) := implEx_all _ x (Nat.lt_succ_self _) n hok hsz
end Go.Proofs.YtokcpelkieeddaaGreatDoor

namespace Go.Proofs.YtokcpelkieeddaaGreatDoor
open Go Go.Ab
theorem specArgs_of (hd : List MSExpr) (xs : List MExpr) (S : Store) (hA : ∀ t ∈ xs, PCall Tryz.prog 57 [t.v] (sxE t).v) (hl : xs.length ≤ 4194304) (hh : hd.length ≤ 4) : ACall Tryz.prog 150 [.c (.fsl (hd.map MSExpr.enc)), .c (.d (.sl (xs.map MExpr.enc)))] S
    (fun r S' => r = .agg [.d (.s []), .d (.sl ((hd ++ xs.map sxE).map MSExpr.enc))] ∧ S' = S) := by
  obtain ⟨T, hT⟩ : ∃ T : Nat → List (List D), T = fun i => (hd ++ (xs.map sxE).take i).map MSExpr.enc := ⟨_, rfl⟩
  have hT0 : T 0 = hd.map MSExpr.enc := by rw [hT]; simp only [List.take_zero, List.append_nil]
  have hTl : ∀ i, (T i).length ≤ i + hd.length := fun i => by
    rw [hT]; simp only [List.length_map, List.length_append]
    have := List.length_take_le i (xs.map sxE)
    omega
  have hTs : ∀ i (hi : i < xs.length), T i ++ [[.s (sxE xs[i]).fAtom, .sl ((sxE xs[i]).fList.map MSExpr.enc)]] = T (i + 1) := fun i hi => by
    have := encX_snoc (base := hd) (l := xs.map sxE) (i := i) (by rw [List.length_map]; exact hi)
    rw [List.getElem_map] at this
    rw [hT]; exact this
  have hTe : T xs.length = (hd ++ xs.map sxE).map MSExpr.enc := by rw [hT]; simp only; rw [List.take_of_length_le (by simp)]
  clear hT
  rw [← hT0]
  rw [← hTe]
  refine acall_cw (rs := [.cell 4 32]) Tryz.checked.mixed Tryz.func150 Tryz.ntmps150 rfl rfl rfl rfl rfl ?_
  simp -implicitDefEqProofs (disch := omega) only [go_sem]
  refine aw_tokbox 1 1 2 (T 0) [.d (.s []), .fsl (T 0)] rfl rfl (by rw [hT0]; exact enc_rows) ?_
  refine loop_at (ι := Nat) Tryz.checked.mixed rfl [1, 4, 5, 6] (fun i => [.c (.d (.sl (xs.map MExpr.enc))), .c (.ptr (0, 0) 0), .c (.ptr (0, 1) 0), .c (.d (.i .i64 i))])
    (fun i => [.box [.d (.s []), .fsl []], .box [.d (.s []), .tsl (0, 2) (T i)], .tok 2 (T i)] :: S)
    (fun i => i ≤ xs.length) (fun i => xs.length - i) 0 rfl rfl (Nat.zero_le _) ?_
  intro i hi
  have hl := hTl i
  simp -implicitDefEqProofs (disch := omega) only [go_sem]
  with_reducible refine split2 (fun hb => ?_) (fun hb => ?_) <;> have h := hb <;> (try simp only [wf_preprocess] at h) <;> simp -implicitDefEqProofs (disch := omega) only [go_sem, hb] <;> (repeat (with_reducible refine And.intro ?_ ?_; focus first | omega | rfl | assumption | exact ⟨_, rfl, rfl⟩ | (simp; omega) | (simp; done)))
  · have hi' : i < xs.length := by omega
    have hs := hTs i hi'
    (repeat (with_reducible refine And.intro ?_ ?_; focus first | omega | rfl | assumption | exact ⟨_, rfl, rfl⟩ | (simp; omega) | (simp; done)))
    refine call_w (hA xs[i] (List.getElem_mem hi')) ?_
    simp -implicitDefEqProofs (disch := omega) only [go_sem]
    (repeat (with_reducible refine And.intro ?_ ?_; focus first | omega | rfl | assumption | exact ⟨_, rfl, rfl⟩ | (simp; omega) | (simp; done)))
    rw [hs]
    exact inv_at (i + 1) (by omega) rfl rfl (by omega)
  · have hi' : i = xs.length := by omega
    subst hi'
    rfl
theorem specArgs_esc (hd : List MSExpr) (xs : List MExpr) (own0 : List Ab.Obj) (Ω : Store) (hA : ∀ t ∈ xs, PCall Tryz.prog 57 [t.v] (sxE t).v) (hl : xs.length ≤ 4194304) (hh : hd.length ≤ 4) : ACall Tryz.prog 150 [.c (.fsl (hd.map MSExpr.enc)), .c (.d (.sl (xs.map MExpr.enc)))] (own0 :: Ω)
    (fun r S' => r = .agg [.d (.s []), .tsl (0, own0.length + 2) ((hd ++ xs.map sxE).map MSExpr.enc)] ∧ S' = (own0 ++ [.box [.d (.s []), .tsl (0, own0.length + 2) ((hd ++ xs.map sxE).map MSExpr.enc)], .box [.d (.s []), .tsl (0, own0.length + 2) ((hd ++ xs.map sxE).map MSExpr.enc)], .tok 2 ((hd ++ xs.map sxE).map MSExpr.enc)]) :: Ω) := by
  obtain ⟨T, hT⟩ : ∃ T : Nat → List (List D), T = fun i => (hd ++ (xs.map sxE).take i).map MSExpr.enc := ⟨_, rfl⟩
  have hT0 : T 0 = hd.map MSExpr.enc := by rw [hT]; simp only [List.take_zero, List.append_nil]
  have hTl : ∀ i, (T i).length ≤ i + hd.length := fun i => by
    rw [hT]; simp only [List.length_map, List.length_append]
    have := List.length_take_le i (xs.map sxE)
    omega
  have hTs : ∀ i (hi : i < xs.length), T i ++ [[.s (sxE xs[i]).fAtom, .sl ((sxE xs[i]).fList.map MSExpr.enc)]] = T (i + 1) := fun i hi => by
    have := encX_snoc (base := hd) (l := xs.map sxE) (i := i) (by rw [List.length_map]; exact hi)
    rw [List.getElem_map] at this
    rw [hT]; exact this
  have hTe : T xs.length = (hd ++ xs.map sxE).map MSExpr.enc := by rw [hT]; simp only; rw [List.take_of_length_le (by simp)]
  clear hT
  rw [← hT0]
  rw [← hTe]
  refine acall_cwe (rs := [.cell 4 32]) Tryz.checked.mixed Tryz.func150 Tryz.ntmps150 rfl rfl rfl rfl rfl ?_
  simp -implicitDefEqProofs (disch := omega) only [go_sem]
  refine aw_tokbox 1 1 2 (T 0) [.d (.s []), .fsl (T 0)] rfl rfl (by rw [hT0]; exact enc_rows) ?_
  refine loop_at (ι := Nat) Tryz.checked.mixed rfl [1, 4, 5, 6] (fun i => [.c (.d (.sl (xs.map MExpr.enc))), .c (.ptr (0, 0) 0), .c (.ptr (0, 1) 0), .c (.d (.i .i64 i))])
    (fun i => [.box [.d (.s []), .fsl []], .box [.d (.s []), .tsl (0, 2) (T i)], .tok 2 (T i)] :: own0 :: Ω)
    (fun i => i ≤ xs.length) (fun i => xs.length - i) 0 rfl rfl (Nat.zero_le _) ?_
  intro i hi
  have hl := hTl i
  simp -implicitDefEqProofs (disch := omega) only [go_sem]
  with_reducible refine split2 (fun hb => ?_) (fun hb => ?_) <;> have h := hb <;> (try simp only [wf_preprocess] at h) <;> simp -implicitDefEqProofs (disch := omega) only [go_sem, hb] <;> (repeat (with_reducible refine And.intro ?_ ?_; focus first | omega | rfl | assumption | exact ⟨_, rfl, rfl⟩ | (simp; omega) | (simp; done)))
  · have hi' : i < xs.length := by omega
    have hs := hTs i hi'
    (repeat (with_reducible refine And.intro ?_ ?_; focus first | omega | rfl | assumption | exact ⟨_, rfl, rfl⟩ | (simp; omega) | (simp; done)))
    refine call_w (hA xs[i] (List.getElem_mem hi')) ?_
    simp -implicitDefEqProofs (disch := omega) only [go_sem]
    (repeat (with_reducible refine And.intro ?_ ?_; focus first | omega | rfl | assumption | exact ⟨_, rfl, rfl⟩ | (simp; omega) | (simp; done)))
    rw [hs]
    exact inv_at (i + 1) (by omega) rfl rfl (by omega)
  · have hi' : i = xs.length := by omega
    subst hi'
    exact ⟨rfl, rfl⟩
theorem specEx_all : ∀ N : Nat, ∀ x : MExpr, SizeOf.sizeOf x < N → exprOk x = true → x.sz ≤ 4194304 → PCall Tryz.prog 57 [x.v] (sxE x).v
  | 0 => fun x h => by omega
  | N + 1 => by
    have ih := specEx_all N
    intro x hn hok hsz S
    have lArgs := MExpr.lt_Args x
    have lArms := MExpr.lt_Arms x
    have hzz := ex_sz_eq x
    rw [exprOk_eq, Bool.and_eq_true, Bool.and_eq_true] at hok
    obtain ⟨hfi, hoa, hom⟩ := hok
    have hfi := of_dec hfi
    have hoa := exprsOk_iff.1 hoa
    have hom := armsOk_iff.1 hom
    have hA : ∀ t ∈ x.fArgs, PCall Tryz.prog 57 [t.v] (sxE t).v := fun t ht => ih t (by have := List.sizeOf_lt_of_mem ht; omega) (hoa t ht) (by have := ex_mem_sz ht; omega)
    have hxe := sxE_eq x
    refine acall_cw (rs := [.cell 2 32]) Tryz.checked.mixed Tryz.func57 Tryz.ntmps57 rfl rfl rfl rfl rfl ?_
    simp -implicitDefEqProofs (disch := omega) only [go_sem]
    with_reducible refine split2 (fun hb => ?_) (fun hb => ?_) <;> have h := hb <;> (try simp only [wf_preprocess] at h) <;> simp -implicitDefEqProofs (disch := omega) only [go_sem, hb] <;> (repeat (with_reducible refine And.intro ?_ ?_; focus first | omega | rfl | assumption | exact ⟨_, rfl, rfl⟩ | (simp; omega) | (simp; done)))
    · rw [if_pos h] at hxe
      rw [hxe]
      have hb := hfi.2.2.2.1
      rw [if_pos h] at hb
      refine call_w (specFormatInt_ok x.fN (by omega) (by omega)) ?_
      simp -implicitDefEqProofs (disch := omega) only [go_sem]
      refine call_w (specAtom_ok _) ?_
      simp -implicitDefEqProofs (disch := omega) only [go_sem]
      rfl
    have k1 := h
    rw [if_neg h] at hxe
    with_reducible refine split2 (fun hb => ?_) (fun hb => ?_) <;> have h := hb <;> (try simp only [wf_preprocess] at h) <;> simp -implicitDefEqProofs (disch := omega) only [go_sem, hb] <;> (repeat (with_reducible refine And.intro ?_ ?_; focus first | omega | rfl | assumption | exact ⟨_, rfl, rfl⟩ | (simp; omega) | (simp; done)))
    · rw [if_pos h] at hxe
      rw [hxe]
      have hb := hfi.2.2.2.1
      rw [if_neg k1, if_pos h] at hb
      rcases hb with e | e
      · rw [e]
        simp -implicitDefEqProofs (disch := omega) only [go_sem, List.getD_cons_zero]
        (repeat (with_reducible refine And.intro ?_ ?_; focus first | omega | rfl | assumption | exact ⟨_, rfl, rfl⟩ | (simp; omega) | (simp; done)))
        refine call_w (specAtom_ok _) ?_
        simp -implicitDefEqProofs (disch := omega) only [go_sem]
        rfl
      · rw [e]
        simp -implicitDefEqProofs (disch := omega) only [go_sem, List.getD_cons_zero, List.getD_cons_succ]
        (repeat (with_reducible refine And.intro ?_ ?_; focus first | omega | rfl | assumption | exact ⟨_, rfl, rfl⟩ | (simp; omega) | (simp; done)))
        refine call_w (specAtom_ok _) ?_
        simp -implicitDefEqProofs (disch := omega) only [go_sem]
        rfl
    have k2 := h
    rw [if_neg h] at hxe
    with_reducible refine split2 (fun hb => ?_) (fun hb => ?_) <;> have h := hb <;> (try simp only [wf_preprocess] at h) <;> simp -implicitDefEqProofs (disch := omega) only [go_sem, hb] <;> (repeat (with_reducible refine And.intro ?_ ?_; focus first | omega | rfl | assumption | exact ⟨_, rfl, rfl⟩ | (simp; omega) | (simp; done)))
    · rw [if_pos h] at hxe
      rw [hxe]
      refine call_w (specAtom_ok _) ?_
      simp -implicitDefEqProofs (disch := omega) only [go_sem]
      rfl
    have k3 := h
    clear hxe
    with_reducible refine split2 (fun hb => ?_) (fun hb => ?_) <;> have h := hb <;> (try simp only [wf_preprocess] at h) <;> simp -implicitDefEqProofs (disch := omega) only [go_sem, hb] <;> (repeat (with_reducible refine And.intro ?_ ?_; focus first | omega | rfl | assumption | exact ⟨_, rfl, rfl⟩ | (simp; omega) | (simp; done)))
    · have hx := sxE_head k1 k2 k3 (by omega)
      have hh : headE x.fKind x.fTrait x.fName x.fType = [atomX wCall, atomX x.fName] := by rw [headE_at h]; rfl
      rw [hh] at hx
      refine call_w (specAtom_ok _) ?_
      simp -implicitDefEqProofs (disch := omega) only [go_sem]
      refine call_w (specAtom_ok _) ?_
      simp -implicitDefEqProofs (disch := omega) only [go_sem]
      have hE := fun S => specArgs_of [atomX wCall, atomX x.fName] x.fArgs S hA (by omega) (by simp)
      simp only [List.map_cons, List.map_nil, enc_atom] at hE
      refine call_d rfl (hE _) ?_
      simp -implicitDefEqProofs (disch := omega) only [go_sem]
      rw [hx]
      rfl
    have k4 := h
    with_reducible refine split2 (fun hb => ?_) (fun hb => ?_) <;> have h := hb <;> (try simp only [wf_preprocess] at h) <;> simp -implicitDefEqProofs (disch := omega) only [go_sem, hb] <;> (repeat (with_reducible refine And.intro ?_ ?_; focus first | omega | rfl | assumption | exact ⟨_, rfl, rfl⟩ | (simp; omega) | (simp; done)))
    · have hx := sxE_head k1 k2 k3 (by omega)
      have hh : headE x.fKind x.fTrait x.fName x.fType = [atomX wMethod, atomX x.fTrait, atomX x.fName] := by rw [headE_at h]; rfl
      rw [hh] at hx
      refine call_w (specAtom_ok _) ?_
      simp -implicitDefEqProofs (disch := omega) only [go_sem]
      refine call_w (specAtom_ok _) ?_
      simp -implicitDefEqProofs (disch := omega) only [go_sem]
      refine call_w (specAtom_ok _) ?_
      simp -implicitDefEqProofs (disch := omega) only [go_sem]
      have hE := fun S => specArgs_of [atomX wMethod, atomX x.fTrait, atomX x.fName] x.fArgs S hA (by omega) (by simp)
      simp only [List.map_cons, List.map_nil, enc_atom] at hE
      refine call_d rfl (hE _) ?_
      simp -implicitDefEqProofs (disch := omega) only [go_sem]
      rw [hx]
      rfl
    have k5 := h
    with_reducible refine split2 (fun hb => ?_) (fun hb => ?_) <;> have h := hb <;> (try simp only [wf_preprocess] at h) <;> simp -implicitDefEqProofs (disch := omega) only [go_sem, hb] <;> (repeat (with_reducible refine And.intro ?_ ?_; focus first | omega | rfl | assumption | exact ⟨_, rfl, rfl⟩ | (simp; omega) | (simp; done)))
    · have hx := sxE_head k1 k2 k3 (by omega)
      have hh : headE x.fKind x.fTrait x.fName x.fType = [atomX wNew, atomX x.fName] := by rw [headE_at h]; rfl
      rw [hh] at hx
      refine call_w (specAtom_ok _) ?_
      simp -implicitDefEqProofs (disch := omega) only [go_sem]
      refine call_w (specAtom_ok _) ?_
      simp -implicitDefEqProofs (disch := omega) only [go_sem]
      have hE := fun S => specArgs_of [atomX wNew, atomX x.fName] x.fArgs S hA (by omega) (by simp)
      simp only [List.map_cons, List.map_nil, enc_atom] at hE
      refine call_d rfl (hE _) ?_
      simp -implicitDefEqProofs (disch := omega) only [go_sem]
      rw [hx]
      rfl
    have k6 := h
    with_reducible refine split2 (fun hb => ?_) (fun hb => ?_) <;> have h := hb <;> (try simp only [wf_preprocess] at h) <;> simp -implicitDefEqProofs (disch := omega) only [go_sem, hb] <;> (repeat (with_reducible refine And.intro ?_ ?_; focus first | omega | rfl | assumption | exact ⟨_, rfl, rfl⟩ | (simp; omega) | (simp; done)))
    · have hx := sxE_head k1 k2 k3 (by omega)
      have hh : headE x.fKind x.fTrait x.fName x.fType = [atomX wLet, atomX x.fName] := by rw [headE_at h]; rfl
      rw [hh] at hx
      refine call_w (specAtom_ok _) ?_
      simp -implicitDefEqProofs (disch := omega) only [go_sem]
      refine call_w (specAtom_ok _) ?_
      simp -implicitDefEqProofs (disch := omega) only [go_sem]
      have hE := fun S => specArgs_of [atomX wLet, atomX x.fName] x.fArgs S hA (by omega) (by simp)
      simp only [List.map_cons, List.map_nil, enc_atom] at hE
      refine call_d rfl (hE _) ?_
      simp -implicitDefEqProofs (disch := omega) only [go_sem]
      rw [hx]
      rfl
    have k8 := h
    with_reducible refine split2 (fun hb => ?_) (fun hb => ?_) <;> have h := hb <;> (try simp only [wf_preprocess] at h) <;> simp -implicitDefEqProofs (disch := omega) only [go_sem, hb] <;> (repeat (with_reducible refine And.intro ?_ ?_; focus first | omega | rfl | assumption | exact ⟨_, rfl, rfl⟩ | (simp; omega) | (simp; done)))
    · have hx := sxE_head k1 k2 k3 (by omega)
      have hh : headE x.fKind x.fTrait x.fName x.fType = [atomX wIf] := by rw [headE_at h]; rfl
      rw [hh] at hx
      refine call_w (specAtom_ok _) ?_
      simp -implicitDefEqProofs (disch := omega) only [go_sem]
      have hE := fun S => specArgs_of [atomX wIf] x.fArgs S hA (by omega) (by simp)
      simp only [List.map_cons, List.map_nil, enc_atom] at hE
      refine call_d rfl (hE _) ?_
      simp -implicitDefEqProofs (disch := omega) only [go_sem]
      rw [hx]
      rfl
    have k9 := h
    with_reducible refine split2 (fun hb => ?_) (fun hb => ?_) <;> have h := hb <;> (try simp only [wf_preprocess] at h) <;> simp -implicitDefEqProofs (disch := omega) only [go_sem, hb] <;> (repeat (with_reducible refine And.intro ?_ ?_; focus first | omega | rfl | assumption | exact ⟨_, rfl, rfl⟩ | (simp; omega) | (simp; done)))
    · have hx := sxE_head k1 k2 k3 (by omega)
      have hh : headE x.fKind x.fTrait x.fName x.fType = [atomX x.fName] := by rw [headE_at h]; rfl
      rw [hh] at hx
      refine call_w (specAtom_ok _) ?_
      simp -implicitDefEqProofs (disch := omega) only [go_sem]
      have hE := fun S => specArgs_of [atomX x.fName] x.fArgs S hA (by omega) (by simp)
      simp only [List.map_cons, List.map_nil, enc_atom] at hE
      refine call_d rfl (hE _) ?_
      simp -implicitDefEqProofs (disch := omega) only [go_sem]
      rw [hx]
      rfl
    have k10 := h
    with_reducible refine split2 (fun hb => ?_) (fun hb => ?_) <;> have h := hb <;> (try simp only [wf_preprocess] at h) <;> simp -implicitDefEqProofs (disch := omega) only [go_sem, hb] <;> (repeat (with_reducible refine And.intro ?_ ?_; focus first | omega | rfl | assumption | exact ⟨_, rfl, rfl⟩ | (simp; omega) | (simp; done)))
    · have hx := sxE_head k1 k2 k3 (by omega)
      have hh : headE x.fKind x.fTrait x.fName x.fType = [atomX wPack, atomX x.fTrait] := by rw [headE_at h]; rfl
      rw [hh] at hx
      refine call_w (specAtom_ok _) ?_
      simp -implicitDefEqProofs (disch := omega) only [go_sem]
      refine call_w (specAtom_ok _) ?_
      simp -implicitDefEqProofs (disch := omega) only [go_sem]
      have hE := fun S => specArgs_of [atomX wPack, atomX x.fTrait] x.fArgs S hA (by omega) (by simp)
      simp only [List.map_cons, List.map_nil, enc_atom] at hE
      refine call_d rfl (hE _) ?_
      simp -implicitDefEqProofs (disch := omega) only [go_sem]
      rw [hx]
      rfl
    have k11 := h
    with_reducible refine split2 (fun hb => ?_) (fun hb => ?_) <;> have h := hb <;> (try simp only [wf_preprocess] at h) <;> simp -implicitDefEqProofs (disch := omega) only [go_sem, hb] <;> (repeat (with_reducible refine And.intro ?_ ?_; focus first | omega | rfl | assumption | exact ⟨_, rfl, rfl⟩ | (simp; omega) | (simp; done)))
    · have hx := sxE_head k1 k2 k3 (by omega)
      have hh : headE x.fKind x.fTrait x.fName x.fType = [atomX wThe, sxT x.fType] := by rw [headE_at h]; rfl
      rw [hh] at hx
      refine call_w (specAtom_ok _) ?_
      simp -implicitDefEqProofs (disch := omega) only [go_sem]
      refine call_w (specTy_ok x.fType (by omega)) ?_
      simp -implicitDefEqProofs (disch := omega) only [go_sem]
      have hE := fun S => specArgs_of [atomX wThe, sxT x.fType] x.fArgs S hA (by omega) (by simp)
      simp only [List.map_cons, List.map_nil, enc_atom, MSExpr.enc_eq (sxT x.fType)] at hE
      refine call_d rfl (hE _) ?_
      simp -implicitDefEqProofs (disch := omega) only [go_sem]
      rw [hx]
      show _ = V.agg [.d (.s []), .d (.sl (List.map MSExpr.enc (atomX wThe :: sxT x.fType :: x.fArgs.map sxE)))]
      simp only [List.cons_append, List.nil_append, List.map_cons, enc_atom, MSExpr.enc_eq (sxT x.fType)]
      rfl
    have k12 := h
    have hk7 : x.fKind = 7 := by have := hfi.1; omega
    have hx := sxE_eq x
    rw [if_neg k1, if_neg k2, if_neg k3, if_neg (by omega)] at hx
    have hh : headE x.fKind x.fTrait x.fName x.fType = [atomX wCase] := by rw [headE_at hk7]; rfl
    rw [hh] at hx
    refine call_w (specAtom_ok _) ?_
    simp -implicitDefEqProofs (disch := omega) only [go_sem]
    have hE := fun own0 Ω => specArgs_esc [atomX wCase] x.fArgs own0 Ω hA (by omega) (by simp)
    obtain ⟨B, hB⟩ : ∃ B : Nat → List (List D), B = fun i => (([atomX wCase] ++ x.fArgs.map sxE) ++ (x.fArms.map sxM).take i).map MSExpr.enc := ⟨_, rfl⟩
    have hB0 : ([atomX wCase] ++ x.fArgs.map sxE).map MSExpr.enc = B 0 := by rw [hB]; simp only [List.take_zero, List.append_nil]
    have hBl : ∀ i, (B i).length ≤ i + x.fArgs.length + 1 := fun i => by
      rw [hB]; simp only [List.length_append, List.length_map, List.length_cons, List.length_nil]
      have := List.length_take_le i (x.fArms.map sxM)
      omega
    have hBr : ∀ i, ∀ r ∈ B i, r.length = 2 := fun i => by rw [hB]; exact enc_rows
    have hBs : ∀ i (hi : i < x.fArms.length), B i ++ [[.s [], .sl (([atomX x.fArms[i].fConstructor] ++ wordsX x.fArms[i].fVars ++ [sxE x.fArms[i].fBody]).map MSExpr.enc)]] = B (i + 1) := fun i hi => by
      have := encX_snoc (base := [atomX wCase] ++ x.fArgs.map sxE) (l := x.fArms.map sxM) (i := i) (by rw [List.length_map]; exact hi)
      rw [List.getElem_map, sxM_eq, fAtom_list, fList_list] at this
      rw [hB]; exact this
    have hBe : B x.fArms.length = ([atomX wCase] ++ x.fArgs.map sxE ++ x.fArms.map sxM).map MSExpr.enc := by rw [hB]; simp only; rw [List.take_of_length_le (by simp)]
    clear hB
    simp only [hB0] at hE
    simp only [List.map_cons, List.map_nil, enc_atom] at hE
    refine call_d rfl (hE _ _) ?_
    simp -implicitDefEqProofs (disch := omega) only [go_sem]
    refine loop_at (ι := Nat) Tryz.checked.mixed rfl [1, 2, 3, 4] (fun i => [.c (.ptr (0, 0) 0), .c (.ptr (0, 1) 0), .c (.ptr (0, 5) 0), .c (.d (.i .i64 i))])
      (fun i => [.box [.d (.i .i64 x.fKind), .d (.s x.fTrait), .d (.s x.fName), .d (.i .i64 x.fN), .d (.i .i64 x.fType.fKind), .d (.s x.fType.fName), .d (.sl (x.fType.fArgs.map MType.enc)), .d (.sl (x.fArgs.map MExpr.enc)), .d (.sl (x.fArms.map MArm.enc))], .box [.d (.s []), .fsl []], .box [.d (.s []), .tsl (0, 4) (B 0)], .box [.d (.s []), .tsl (0, 4) (B 0)], .tok 2 (B i), .box [.d (.s []), .tsl (0, 4) (B i)]] :: S)
      (fun i => i ≤ x.fArms.length) (fun i => x.fArms.length - i) 0 rfl rfl (Nat.zero_le _) ?_
    intro i hi
    have hl := hBl i
    have hr := hBr i
    simp -implicitDefEqProofs (disch := omega) only [go_sem]
    with_reducible refine split2 (fun hb => ?_) (fun hb => ?_) <;> have h := hb <;> (try simp only [wf_preprocess] at h) <;> simp -implicitDefEqProofs (disch := omega) only [go_sem, hb] <;> (repeat (with_reducible refine And.intro ?_ ?_; focus first | omega | rfl | assumption | exact ⟨_, rfl, rfl⟩ | (simp; omega) | (simp; done)))
    · have hi' : i < x.fArms.length := by omega
      have hm := List.getElem_mem hi'
      have hez := arm_mem_sz hm
      have hea := arm_sz_eq x.fArms[i]
      have hs := hBs i hi'
      have hak := hom _ hm
      rw [armOk_eq, Bool.and_eq_true, Bool.and_eq_true] at hak
      have hls := List.sizeOf_lt_of_mem hm
      have hlb := MArm.lt_Body x.fArms[i]
      (repeat (with_reducible refine And.intro ?_ ?_; focus first | omega | rfl | assumption | exact ⟨_, rfl, rfl⟩ | (simp; omega) | (simp; done)))
      refine call_w (specAtom_ok _) ?_
      simp -implicitDefEqProofs (disch := omega) only [go_sem]
      (repeat (with_reducible refine And.intro ?_ ?_; focus first | omega | rfl | assumption | exact ⟨_, rfl, rfl⟩ | (simp; omega) | (simp; done)))
      refine call_w (specWords_ok x.fArms[i].fVars (by omega)) ?_
      have hwr := enc_rows (l := wordsX x.fArms[i].fVars)
      have hwl : (wordsX x.fArms[i].fVars).length = x.fArms[i].fVars.length := by rw [words_len]
      simp -implicitDefEqProofs (disch := omega) only [go_sem]
      (repeat (with_reducible refine And.intro ?_ ?_; focus first | omega | rfl | assumption | exact ⟨_, rfl, rfl⟩ | (simp; omega) | (simp; done)))
      refine call_w (ih x.fArms[i].fBody (by omega) hak.2.2 (by omega)) ?_
      simp -implicitDefEqProofs (disch := omega) only [go_sem]
      (repeat (with_reducible refine And.intro ?_ ?_; focus first | omega | rfl | assumption | exact ⟨_, rfl, rfl⟩ | (simp; omega) | (simp; done)))
      simp only [List.cons_append, List.nil_append, List.map_cons, List.map_nil, List.map_append, enc_atom, MSExpr.enc_eq (sxE x.fArms[i].fBody)] at hs
      rw [hs]
      exact inv_drop 6 (by decide) (i + 1) (by omega) rfl rfl rfl rfl (by omega)
    · have hi' : i = x.fArms.length := by omega
      subst hi'
      rw [hx, hBe]
      rfl
theorem specEx_ok (x : MExpr) (hok : exprOk x = true) (hsz : x.sz ≤ 4194304) : PCall Tryz.prog 57 [x.v] (sxE x).v := specEx_all _ x (Nat.lt_succ_self _) hok hsz
end Go.Proofs.YtokcpelkieeddaaGreatDoor

namespace Go.Ab
theorem MExpr.bounds {x : MExpr} (h : x.sz ≤ 4194304) : x.fTrait.length ≤ 4194304 ∧ x.fName.length ≤ 4194304 ∧ x.fArgs.length ≤ 4194304 ∧ x.fArms.length ≤ 4194304 ∧ x.fType.sz ≤ 4194304 := by
  simp only [MExpr.sz, MExpr.enc_eq, szRow, szRow_append, D.sz, List.length_map, MType.sz_def] at h
  omega
theorem MExpr.arg_b {x : MExpr} {i : Nat} (hi : i < x.fArgs.length) (h : x.sz ≤ 4194304) : x.fArgs[i].sz ≤ 4194304 := by
  have hx : x.fArgs[i].sz ≤ szRows (x.fArgs.map MExpr.enc) := szRows_mem (List.mem_map_of_mem (List.getElem_mem hi))
  simp only [MExpr.sz, MExpr.enc_eq, szRow, szRow_append, D.sz, List.length_map] at h
  omega
theorem MExpr.arm_b {x : MExpr} {i : Nat} (hi : i < x.fArms.length) (h : x.sz ≤ 4194304) : x.fArms[i].sz ≤ 4194304 := by
  have hx : x.fArms[i].sz ≤ szRows (x.fArms.map MArm.enc) := szRows_mem (List.mem_map_of_mem (List.getElem_mem hi))
  simp only [MExpr.sz, MExpr.enc_eq, szRow, szRow_append, D.sz, List.length_map] at h
  omega
theorem MArm.bounds {x : MArm} (h : x.sz ≤ 4194304) : x.fConstructor.length ≤ 4194304 ∧ x.fVars.length ≤ 4194304 ∧ (∀ s ∈ x.fVars, s.length ≤ 4194304) ∧ x.fBody.sz ≤ 4194304 := by
  have hb := MArm.sz_body x
  simp only [MArm.sz, MArm.enc_eq, szRow, szRow_append, D.sz, List.length_map] at h hb
  refine ⟨by omega, by omega, fun s hs => ?_, by omega⟩
  have := strs_b hs
  omega
theorem kind_cases (k : Int) : (k < 1 ∨ 12 < k) ∨ k = 1 ∨ k = 2 ∨ k = 3 ∨ k = 4 ∨ k = 5 ∨ k = 6 ∨ k = 7 ∨ k = 8 ∨ k = 9 ∨ k = 10 ∨ k = 11 ∨ k = 12 := by omega
end Go.Ab
namespace Go.Proofs.YtokcpelkieeddaaGreatDoor
open Go Go.Ab
set_option maxHeartbeats 8000000 in
theorem hasFields_ok (x : MExpr) (hsz : x.sz ≤ 4194304) (hc : x.fArgs.length ≤ 300) : PCall Tryz.prog 243 [x.v] (.c (.d (.b (dec (fieldsP x))))) := fun S => by
  have hb0 := MExpr.bounds hsz
  have hz : zeroT x.fType → validType x.fType = false := zeroT_not_valid
  rcases kind_cases x.fKind with hk | hk | hk | hk | hk | hk | hk | hk | hk | hk | hk | hk | hk
  · have h1 : ¬ fieldsP x := fun h => by have := h.1; omega
    refine acall_cw (rs := [.tmp 2]) Tryz.checked.mixed Tryz.func243 Tryz.ntmps243 rfl rfl rfl rfl rfl ?_
    simp -implicitDefEqProofs (disch := omega) only [go_sem]
    refine call_w (argCount_ok x.fKind) ?_
    simp -implicitDefEqProofs (disch := omega) only [go_sem] <;> (repeat (with_reducible refine And.intro ?_ ?_; focus first | omega | rfl | assumption | exact ⟨_, rfl, rfl⟩ | (simp; omega) | (simp; done)))
    with_reducible refine split2 (fun hb => ?_) (fun hb => ?_) <;> have h := hb <;> (try simp only [wf_preprocess] at h) <;> simp -implicitDefEqProofs (disch := omega) only [go_sem, hb] <;> (repeat (with_reducible refine And.intro ?_ ?_; focus first | omega | rfl | assumption | exact ⟨_, rfl, rfl⟩ | (simp; omega) | (simp; done)))
    · exact bool_eq (dec_false h1).symm
    with_reducible refine split2 (fun hb => ?_) (fun hb => ?_) <;> have h := hb <;> (try simp only [wf_preprocess] at h) <;> simp -implicitDefEqProofs (disch := omega) only [go_sem, hb] <;> (repeat (with_reducible refine And.intro ?_ ?_; focus first | omega | rfl | assumption | exact ⟨_, rfl, rfl⟩ | (simp; omega) | (simp; done)))
    · exact bool_eq (dec_false h1).symm
    · omega
  all_goals
    refine acall_cw (rs := [.tmp 2]) Tryz.checked.mixed Tryz.func243 Tryz.ntmps243 rfl rfl rfl rfl rfl ?_
    simp -implicitDefEqProofs (disch := omega) only [go_sem, hk]
    refine call_w (argCount_ok _) ?_
    simp -implicitDefEqProofs (disch := omega) only [go_sem, hk, argLo, argHi]
    repeat' (first
      | with_reducible refine split2 (fun hb => ?_) (fun hb => ?_) <;> have h := hb <;> (try simp only [wf_preprocess] at h) <;> simp -implicitDefEqProofs (disch := omega) only [go_sem, hb, hk] <;> (repeat (with_reducible refine And.intro ?_ ?_; focus first | omega | rfl | assumption | exact ⟨_, rfl, rfl⟩ | (simp; omega) | (simp; done)))
      | ((with_reducible show CallG _ _ 176 _ _ _ _); refine call_w (implValidName_ok x.fName (by omega)) ?_; simp -implicitDefEqProofs (disch := omega) only [go_sem, hk])
      | ((with_reducible show CallG _ _ 176 _ _ _ _); refine call_w (implValidName_ok x.fTrait (by omega)) ?_; simp -implicitDefEqProofs (disch := omega) only [go_sem, hk])
      | ((with_reducible show CallG _ _ 301 _ _ _ _); refine call_w (isOperator_ok x.fName) ?_; simp -implicitDefEqProofs (disch := omega) only [go_sem, hk])
      | ((with_reducible show CallG _ _ 202 _ _ _ _); refine call_w (isZeroType_ok x.fType) ?_; simp -implicitDefEqProofs (disch := omega) only [go_sem, hk])
      | ((with_reducible show CallG _ _ 264 _ _ _ _); refine call_w (implValidType_ok x.fType (by omega)) ?_; simp -implicitDefEqProofs (disch := omega) only [go_sem, hk])
      | (refine bool_eq (Bool.eq_iff_iff.2 ?_); simp only [dec_eq_true, fieldsP, hk]; grind [of_dec, of_dec_false, dec_true, dec_false]))
end Go.Proofs.YtokcpelkieeddaaGreatDoor

namespace Go.Ab
theorem MExpr.cnt_arg {x : MExpr} {y : MExpr} (h : y ∈ x.fArgs) : y.cnt + 1 ≤ x.cnt := by
  rw [MExpr.cnt_eq x]
  have : ∀ xs : List MExpr, y ∈ xs → y.cnt ≤ MExpr.cnts xs := by
    intro xs
    induction xs with
    | nil => intro h; cases h
    | cons z zs ih =>
      intro h
      rw [MExpr.cnts]
      rcases List.mem_cons.1 h with e | e
      · subst e; omega
      · have := ih e; omega
  have := this _ h
  omega
theorem MExpr.cnt_arm {x : MExpr} {y : MArm} (h : y ∈ x.fArms) : y.fBody.cnt + 1 ≤ x.cnt := by
  rw [MExpr.cnt_eq x]
  have : ∀ xs : List MArm, y ∈ xs → y.fBody.cnt ≤ MArm.cnts xs := by
    intro xs
    induction xs with
    | nil => intro h; cases h
    | cons z zs ih =>
      intro h
      rw [MArm.cnts]
      rcases List.mem_cons.1 h with e | e
      · subst e; rw [MArm.cnt_eq]; omega
      · have := ih e; omega
  have := this _ h
  omega
theorem MExpr.len_cnt (x : MExpr) : x.fArgs.length + 1 ≤ x.cnt := by
  rw [MExpr.cnt_eq x]
  have : ∀ xs : List MExpr, xs.length ≤ MExpr.cnts xs := by
    intro xs
    induction xs with
    | nil => simp
    | cons z zs ih => rw [MExpr.cnts, List.length_cons]; have := MExpr.cnt_eq z; omega
  have := this x.fArgs
  omega
def hasTr (k : Int) : Bool := if k = 5 ∨ k = 11 then true else false
def hasNm (k : Int) : Bool := if k = 3 ∨ k = 4 ∨ k = 6 ∨ k = 5 ∨ k = 8 ∨ k = 10 then true else false
def hasNu (k : Int) : Bool := if k = 1 ∨ k = 2 then true else false
def hasTy (k : Int) : Bool := if k = 1 ∨ k = 2 ∨ k = 3 ∨ k = 4 ∨ k = 6 ∨ k = 5 ∨ k = 7 ∨ k = 8 ∨ k = 10 ∨ k = 9 ∨ k = 11 then false else true
def hasAr (k : Int) : Int := if k = 1 ∨ k = 2 ∨ k = 3 then 0 else if k = 4 ∨ k = 6 ∨ k = 5 then -1 else if k = 8 ∨ k = 10 then 2 else if k = 9 then 3 else 1
def hasAm (k : Int) : Bool := if k = 7 then true else false
end Go.Ab
namespace Go.Proofs.YtokcpelkieeddaaGreatDoor
open Go Go.Ab
theorem isExpr_all : ∀ n : Nat, ∀ x : MExpr, SizeOf.sizeOf x < n → x.sz ≤ 4194304 → x.cnt ≤ 300 → PCall Tryz.prog 158 [x.v] (.c (.d (.b (exprOk x))))
  | 0 => fun x h => by omega
  | n + 1 => by
    have ih := isExpr_all n
    intro x hn hsz hc S
    have hb0 := MExpr.bounds hsz
    have lArgs := MExpr.lt_Args x
    have lArms := MExpr.lt_Arms x
    have hl := MExpr.len_cnt x
    have h1 : ∀ y ∈ x.fArgs, PCall Tryz.prog 245 [y.v] (.c (.d (.b (!exprOk y)))) := fun y hy S => by
      have hys := List.sizeOf_lt_of_mem hy
      have hyc := MExpr.cnt_arg hy
      have hyz : y.sz ≤ 4194304 := by obtain ⟨i, hi, e⟩ := List.getElem_of_mem hy; rw [← e]; exact MExpr.arg_b hi hsz
      refine acall_cw (rs := [.tmp 2]) Tryz.checked.mixed Tryz.func245 Tryz.ntmps245 rfl rfl rfl rfl rfl ?_
      simp -implicitDefEqProofs (disch := omega) only [go_sem]
      refine call_w (ih y (by omega) hyz (by omega)) ?_
      simp -implicitDefEqProofs (disch := omega) only [go_sem] <;> (repeat (with_reducible refine And.intro ?_ ?_; focus first | omega | rfl | assumption | exact ⟨_, rfl, rfl⟩ | (simp; omega) | (simp; done)))
    have h2 : ∀ y ∈ x.fArms, PCall Tryz.prog 247 [y.v] (.c (.d (.b (!armOk y)))) := fun y hy S => by
      have hys := List.sizeOf_lt_of_mem hy
      have hyb := MArm.lt_Body y
      have hyc := MExpr.cnt_arm hy
      have hyz : y.sz ≤ 4194304 := by obtain ⟨i, hi, e⟩ := List.getElem_of_mem hy; rw [← e]; exact MExpr.arm_b hi hsz
      have hyy := MArm.bounds hyz
      refine acall_cw (rs := [.tmp 2]) Tryz.checked.mixed Tryz.func247 Tryz.ntmps247 rfl rfl rfl rfl rfl ?_
      simp -implicitDefEqProofs (disch := omega) only [go_sem]
      refine call_w (implValidName_ok y.fConstructor (by omega)) ?_
      simp -implicitDefEqProofs (disch := omega) only [go_sem] <;> (repeat (with_reducible refine And.intro ?_ ?_; focus first | omega | rfl | assumption | exact ⟨_, rfl, rfl⟩ | (simp; omega) | (simp; done)))
      with_reducible refine split2 (fun hb => ?_) (fun hb => ?_) <;> have h := hb <;> (try simp only [wf_preprocess] at h) <;> simp -implicitDefEqProofs (disch := omega) only [go_sem, hb] <;> (repeat (with_reducible refine And.intro ?_ ?_; focus first | omega | rfl | assumption | exact ⟨_, rfl, rfl⟩ | (simp; omega) | (simp; done)))
      · exact bool_eq (by rw [armOk_eq, h]; rfl)
      have k1 := h
      refine call_w (areNames_ok y.fVars (by omega) hyy.2.2.1) ?_
      simp -implicitDefEqProofs (disch := omega) only [go_sem] <;> (repeat (with_reducible refine And.intro ?_ ?_; focus first | omega | rfl | assumption | exact ⟨_, rfl, rfl⟩ | (simp; omega) | (simp; done)))
      with_reducible refine split2 (fun hb => ?_) (fun hb => ?_) <;> have h := hb <;> (try simp only [wf_preprocess] at h) <;> simp -implicitDefEqProofs (disch := omega) only [go_sem, hb] <;> (repeat (with_reducible refine And.intro ?_ ?_; focus first | omega | rfl | assumption | exact ⟨_, rfl, rfl⟩ | (simp; omega) | (simp; done)))
      · exact bool_eq (by rw [armOk_eq, h]; simp)
      have k2 := h
      refine call_w (ih y.fBody (by omega) hyy.2.2.2 (by omega)) ?_
      simp -implicitDefEqProofs (disch := omega) only [go_sem] <;> (repeat (with_reducible refine And.intro ?_ ?_; focus first | omega | rfl | assumption | exact ⟨_, rfl, rfl⟩ | (simp; omega) | (simp; done)))
      exact bool_eq (by rw [armOk_eq, k1, k2]; simp)
    refine acall_cw (rs := [.tmp 2]) Tryz.checked.mixed Tryz.func158 Tryz.ntmps158 rfl rfl rfl rfl rfl ?_
    simp -implicitDefEqProofs (disch := omega) only [go_sem]
    refine call_w (hasFields_ok x hsz (by omega)) ?_
    simp -implicitDefEqProofs (disch := omega) only [go_sem] <;> (repeat (with_reducible refine And.intro ?_ ?_; focus first | omega | rfl | assumption | exact ⟨_, rfl, rfl⟩ | (simp; omega) | (simp; done)))
    with_reducible refine split2 (fun hb => ?_) (fun hb => ?_) <;> have h := hb <;> (try simp only [wf_preprocess] at h) <;> simp -implicitDefEqProofs (disch := omega) only [go_sem, hb] <;> (repeat (with_reducible refine And.intro ?_ ?_; focus first | omega | rfl | assumption | exact ⟨_, rfl, rfl⟩ | (simp; omega) | (simp; done)))
    · exact bool_eq (by rw [exprOk_eq, dec_false h]; rfl)
    have k1 := h
    (repeat (with_reducible refine And.intro ?_ ?_; focus first | omega | rfl | assumption | exact ⟨_, rfl, rfl⟩ | (simp; omega) | (simp; done)))
    refine call_d rfl (containsFuncExpr_ok 245 [] _ x.fArgs (fun y => !exprOk y) (by omega) fun y hy => FPure.of_pure (h1 y hy)) ?_
    simp -implicitDefEqProofs (disch := omega) only [go_sem]
    rw [exprsOk_any]
    with_reducible refine split2 (fun hb => ?_) (fun hb => ?_) <;> have h := hb <;> (try simp only [wf_preprocess] at h) <;> simp -implicitDefEqProofs (disch := omega) only [go_sem, hb] <;> (repeat (with_reducible refine And.intro ?_ ?_; focus first | omega | rfl | assumption | exact ⟨_, rfl, rfl⟩ | (simp; omega) | (simp; done)))
    · exact bool_eq (by rw [exprOk_eq, h]; simp)
    have k2 := h
    (repeat (with_reducible refine And.intro ?_ ?_; focus first | omega | rfl | assumption | exact ⟨_, rfl, rfl⟩ | (simp; omega) | (simp; done)))
    refine call_d rfl (containsFuncArm_ok 247 [] _ x.fArms (fun y => !armOk y) (by omega) fun y hy => FPure.of_pure (h2 y hy)) ?_
    simp -implicitDefEqProofs (disch := omega) only [go_sem]
    rw [armsOk_any]
    exact bool_eq (by rw [exprOk_eq, dec_true k1, k2]; simp)
theorem implValidExpr_ok (x : MExpr) (hsz : x.sz ≤ 4194304) : PCall Tryz.prog 62 [x.v] (.c (.d (.b (validExpr x)))) := fun S => by
  refine acall_cw (rs := [.tmp 2]) Tryz.checked.mixed Tryz.func62 Tryz.ntmps62 rfl rfl rfl rfl rfl ?_
  simp -implicitDefEqProofs (disch := omega) only [go_sem]
  refine call_w (implExprSize_ok x hsz) ?_
  simp -implicitDefEqProofs (disch := omega) only [go_sem] <;> (repeat (with_reducible refine And.intro ?_ ?_; focus first | omega | rfl | assumption | exact ⟨_, rfl, rfl⟩ | (simp; omega) | (simp; done)))
  with_reducible refine split2 (fun hb => ?_) (fun hb => ?_) <;> have h := hb <;> (try simp only [wf_preprocess] at h) <;> simp -implicitDefEqProofs (disch := omega) only [go_sem, hb] <;> (repeat (with_reducible refine And.intro ?_ ?_; focus first | omega | rfl | assumption | exact ⟨_, rfl, rfl⟩ | (simp; omega) | (simp; done)))
  · refine call_w (isExpr_all _ x (Nat.lt_succ_self _) hsz (by omega)) ?_
    simp -implicitDefEqProofs (disch := omega) only [go_sem] <;> (repeat (with_reducible refine And.intro ?_ ?_; focus first | omega | rfl | assumption | exact ⟨_, rfl, rfl⟩ | (simp; omega) | (simp; done)))
    exact bool_eq (by unfold validExpr; rw [dec_true (by omega)]; rfl)
  · exact bool_eq (by unfold validExpr; rw [dec_false (by omega)]; rfl)
theorem l11Has_ok (k : Int) : PCall Tryz.prog 236 [.c (.d (.i .i64 k))] (.tup [(false, [.d (.b (hasTr k))]), (false, [.d (.b (hasNm k))]), (false, [.d (.b (hasNu k))]), (false, [.d (.b (hasTy k))]), (false, [.d (.i .i64 (hasAr k))]), (false, [.d (.b (hasAm k))])]) := fun S => by
  refine acall_cw (rs := [.tmp 2, .tmp 3, .tmp 4, .tmp 5, .tmp 6, .tmp 7]) Tryz.checked.mixed Tryz.func236 Tryz.ntmps236 rfl rfl rfl rfl rfl ?_
  simp -implicitDefEqProofs (disch := omega) only [go_sem]
  repeat' (first
    | with_reducible refine split2 (fun hb => ?_) (fun hb => ?_) <;> have h := hb <;> (try simp only [wf_preprocess] at h) <;> simp -implicitDefEqProofs (disch := omega) only [go_sem, hb] <;> (repeat (with_reducible refine And.intro ?_ ?_; focus first | omega | rfl | assumption | exact ⟨_, rfl, rfl⟩ | (simp; omega) | (simp; done)))
    | (unfold hasTr hasNm hasNu hasTy hasAr hasAm; grind))
theorem l11Zero_ok (t : MType) : PCall Tryz.prog 197 [t.v] (.c (.d (.b (dec (zeroT t))))) := fun S => by
  refine acall_cw (rs := [.tmp 2]) Tryz.checked.mixed Tryz.func197 Tryz.ntmps197 rfl rfl rfl rfl rfl ?_
  simp -implicitDefEqProofs (disch := omega) only [go_sem]
  repeat' (first
    | with_reducible refine split2 (fun hb => ?_) (fun hb => ?_) <;> have h := hb <;> (try simp only [wf_preprocess] at h) <;> simp -implicitDefEqProofs (disch := omega) only [go_sem, hb] <;> (repeat (with_reducible refine And.intro ?_ ?_; focus first | omega | rfl | assumption | exact ⟨_, rfl, rfl⟩ | (simp; omega) | (simp; done)))
    | (refine bool_eq ?_; unfold zeroT; grind [dec_true, dec_false, of_dec, of_dec_false]))
theorem l11Prim_ok (s : List UInt8) : PCall Tryz.prog 238 [.c (.d (.s s))] (.c (.d (.b (dec (s ∈ ops))))) := fun S => by
  refine acall_cw (rs := [.tmp 2]) Tryz.checked.mixed Tryz.func238 Tryz.ntmps238 rfl rfl rfl rfl rfl ?_
  simp -implicitDefEqProofs (disch := omega) only [go_sem]
  (repeat (with_reducible refine And.intro ?_ ?_; focus first | omega | rfl | assumption | exact ⟨_, rfl, rfl⟩ | (simp; omega) | (simp; done)))
  refine call_w (l1Has_ok ops s (by decide)) ?_
  simp -implicitDefEqProofs (disch := omega) only [go_sem] <;> (repeat (with_reducible refine And.intro ?_ ?_; focus first | omega | rfl | assumption | exact ⟨_, rfl, rfl⟩ | (simp; omega) | (simp; done)))
theorem l11Left_all : ∀ n : Nat, ∀ x : MExpr, SizeOf.sizeOf x < n → x.sz ≤ 4194304 → ∀ l : Int, 0 ≤ l → l ≤ 1048576 → PCall Tryz.prog 147 [x.v, .c (.d (.i .i64 l))] (.c (.d (.i .i64 (subE l x.cnt))))
  | 0 => fun x h => by omega
  | n + 1 => by
    have ih := l11Left_all n
    intro x hn hsz l hl hl2 S
    have hb0 := MExpr.bounds hsz
    have lArgs := MExpr.lt_Args x
    have lArms := MExpr.lt_Arms x
    have he := MExpr.cnt_eq x
    refine acall_cw (rs := [.tmp 4]) Tryz.checked.mixed Tryz.func147 Tryz.ntmps147 rfl rfl rfl rfl rfl ?_
    simp -implicitDefEqProofs (disch := omega) only [go_sem]
    refine loop_at (ι := Nat × Int) Tryz.checked.mixed rfl [1, 2, 5] (fun y => [.c (.d (.i .i64 y.2)), .c (.ptr (0, 0) 0), .c (.d (.i .i64 y.1))]) (fun y => [.box (x.enc.map .d)] :: S)
      (fun y => y.1 ≤ x.fArgs.length ∧ (-1 ≤ y.2 ∧ y.2 ≤ 1048576) ∧ subE y.2 (MExpr.cnts (x.fArgs.drop y.1)) = subE (l - 1) (MExpr.cnts x.fArgs)) (fun y => x.fArgs.length - y.1) (0, l - 1) rfl ?_ ⟨Nat.zero_le _, by simp only; omega, rfl⟩ ?_
    · simp -implicitDefEqProofs (disch := omega) only [go_sem]
    rintro ⟨i, c⟩ ⟨p1, p2, p3⟩
    simp only at p1 p2 p3
    have out : (i = x.fArgs.length ∨ c < 0) → c = subE (l - 1) (MExpr.cnts x.fArgs) := fun h => by
      rcases h with h | h
      · rw [h, List.drop_length, MExpr.cnts, subE_zero p2.1] at p3
        exact p3
      · rw [← p3, subE_neg h]; omega
    have second : (i = x.fArgs.length ∨ c < 0) → subE c (MArm.cnts x.fArms) = subE l x.cnt := fun h => by
      rw [out h, subE_add, he]
      unfold subE
      split <;> split <;> (try split) <;> omega
    simp -implicitDefEqProofs (disch := omega) only [go_sem]
    with_reducible refine split2 (fun hb => ?_) (fun hb => ?_) <;> have h := hb <;> (try simp only [wf_preprocess] at h) <;> simp -implicitDefEqProofs (disch := omega) only [go_sem, hb] <;> (repeat (with_reducible refine And.intro ?_ ?_; focus first | omega | rfl | assumption | exact ⟨_, rfl, rfl⟩ | (simp; omega) | (simp; done)))
    · have hi : i < x.fArgs.length := by omega
      with_reducible refine split2 (fun hb => ?_) (fun hb => ?_) <;> have h := hb <;> (try simp only [wf_preprocess] at h) <;> simp -implicitDefEqProofs (disch := omega) only [go_sem, hb] <;> (repeat (with_reducible refine And.intro ?_ ?_; focus first | omega | rfl | assumption | exact ⟨_, rfl, rfl⟩ | (simp; omega) | (simp; done)))
      · have hs := List.sizeOf_lt_of_mem (List.getElem_mem hi)
        have hr := subE_le (l := c) (c := x.fArgs[i].cnt) (by omega)
        rw [MExpr.cnts_drop hi, ← subE_add] at p3
        (repeat (with_reducible refine And.intro ?_ ?_; focus first | omega | rfl | assumption | exact ⟨_, rfl, rfl⟩ | (simp; omega) | (simp; done)))
        refine call_w (ih x.fArgs[i] (by omega) (MExpr.arg_b hi hsz) c (by omega) (by omega)) ?_
        simp -implicitDefEqProofs (disch := omega) only [go_sem] <;> (repeat (with_reducible refine And.intro ?_ ?_; focus first | omega | rfl | assumption | exact ⟨_, rfl, rfl⟩ | (simp; omega) | (simp; done)))
        exact inv_at (i + 1, subE c x.fArgs[i].cnt) (by simp only; omega) rfl rfl ⟨by simp only; omega, by simp only; omega, p3⟩
      · have p4 := second (.inr (by omega))
        clear second out p3
        refine loop_at (ι := Nat × Int) Tryz.checked.mixed rfl [1, 2, 6] (fun y => [.c (.d (.i .i64 y.2)), .c (.ptr (0, 0) 0), .c (.d (.i .i64 y.1))]) (fun y => [.box (x.enc.map .d)] :: S)
          (fun y => y.1 ≤ x.fArms.length ∧ (-1 ≤ y.2 ∧ y.2 ≤ 1048576) ∧ subE y.2 (MArm.cnts (x.fArms.drop y.1)) = subE l x.cnt) (fun y => x.fArms.length - y.1) (0, c) rfl ?_ ⟨Nat.zero_le _, by simp only; omega, p4⟩ ?_
        · simp -implicitDefEqProofs (disch := omega) only [go_sem]
        clear p1 p2 p4
        rintro ⟨i, d⟩ ⟨p1, p2, p3⟩
        simp only at p1 p2 p3
        simp -implicitDefEqProofs (disch := omega) only [go_sem]
        with_reducible refine split2 (fun hb => ?_) (fun hb => ?_) <;> have h := hb <;> (try simp only [wf_preprocess] at h) <;> simp -implicitDefEqProofs (disch := omega) only [go_sem, hb] <;> (repeat (with_reducible refine And.intro ?_ ?_; focus first | omega | rfl | assumption | exact ⟨_, rfl, rfl⟩ | (simp; omega) | (simp; done)))
        · have hi : i < x.fArms.length := by omega
          with_reducible refine split2 (fun hb => ?_) (fun hb => ?_) <;> have h := hb <;> (try simp only [wf_preprocess] at h) <;> simp -implicitDefEqProofs (disch := omega) only [go_sem, hb] <;> (repeat (with_reducible refine And.intro ?_ ?_; focus first | omega | rfl | assumption | exact ⟨_, rfl, rfl⟩ | (simp; omega) | (simp; done)))
          · have hs := List.sizeOf_lt_of_mem (List.getElem_mem hi)
            have hs' := MArm.lt_Body x.fArms[i]
            have hr := subE_le (l := d) (c := x.fArms[i].fBody.cnt) (by omega)
            rw [MArm.cnts_drop hi, ← subE_add] at p3
            (repeat (with_reducible refine And.intro ?_ ?_; focus first | omega | rfl | assumption | exact ⟨_, rfl, rfl⟩ | (simp; omega) | (simp; done)))
            refine call_w (ih x.fArms[i].fBody (by omega) (MArm.bounds (MExpr.arm_b hi hsz)).2.2.2 d (by omega) (by omega)) ?_
            simp -implicitDefEqProofs (disch := omega) only [go_sem] <;> (repeat (with_reducible refine And.intro ?_ ?_; focus first | omega | rfl | assumption | exact ⟨_, rfl, rfl⟩ | (simp; omega) | (simp; done)))
            exact inv_at (i + 1, subE d x.fArms[i].fBody.cnt) (by simp only; omega) rfl rfl ⟨by simp only; omega, by simp only; omega, p3⟩
          · rw [subE_neg (by omega)] at p3
            exact int_eq (by omega)
        · have hi : i = x.fArms.length := by omega
          rw [hi, List.drop_length, MArm.cnts, subE_zero p2.1] at p3
          exact int_eq (by omega)
    · have p4 := second (.inl (by omega))
      clear second out p3
      refine loop_at (ι := Nat × Int) Tryz.checked.mixed rfl [1, 2, 6] (fun y => [.c (.d (.i .i64 y.2)), .c (.ptr (0, 0) 0), .c (.d (.i .i64 y.1))]) (fun y => [.box (x.enc.map .d)] :: S)
        (fun y => y.1 ≤ x.fArms.length ∧ (-1 ≤ y.2 ∧ y.2 ≤ 1048576) ∧ subE y.2 (MArm.cnts (x.fArms.drop y.1)) = subE l x.cnt) (fun y => x.fArms.length - y.1) (0, c) rfl ?_ ⟨Nat.zero_le _, by simp only; omega, p4⟩ ?_
      · simp -implicitDefEqProofs (disch := omega) only [go_sem]
      clear p1 p2 p4
      rintro ⟨i, d⟩ ⟨p1, p2, p3⟩
      simp only at p1 p2 p3
      simp -implicitDefEqProofs (disch := omega) only [go_sem]
      with_reducible refine split2 (fun hb => ?_) (fun hb => ?_) <;> have h := hb <;> (try simp only [wf_preprocess] at h) <;> simp -implicitDefEqProofs (disch := omega) only [go_sem, hb] <;> (repeat (with_reducible refine And.intro ?_ ?_; focus first | omega | rfl | assumption | exact ⟨_, rfl, rfl⟩ | (simp; omega) | (simp; done)))
      · have hi : i < x.fArms.length := by omega
        with_reducible refine split2 (fun hb => ?_) (fun hb => ?_) <;> have h := hb <;> (try simp only [wf_preprocess] at h) <;> simp -implicitDefEqProofs (disch := omega) only [go_sem, hb] <;> (repeat (with_reducible refine And.intro ?_ ?_; focus first | omega | rfl | assumption | exact ⟨_, rfl, rfl⟩ | (simp; omega) | (simp; done)))
        · have hs := List.sizeOf_lt_of_mem (List.getElem_mem hi)
          have hs' := MArm.lt_Body x.fArms[i]
          have hr := subE_le (l := d) (c := x.fArms[i].fBody.cnt) (by omega)
          rw [MArm.cnts_drop hi, ← subE_add] at p3
          (repeat (with_reducible refine And.intro ?_ ?_; focus first | omega | rfl | assumption | exact ⟨_, rfl, rfl⟩ | (simp; omega) | (simp; done)))
          refine call_w (ih x.fArms[i].fBody (by omega) (MArm.bounds (MExpr.arm_b hi hsz)).2.2.2 d (by omega) (by omega)) ?_
          simp -implicitDefEqProofs (disch := omega) only [go_sem] <;> (repeat (with_reducible refine And.intro ?_ ?_; focus first | omega | rfl | assumption | exact ⟨_, rfl, rfl⟩ | (simp; omega) | (simp; done)))
          exact inv_at (i + 1, subE d x.fArms[i].fBody.cnt) (by simp only; omega) rfl rfl ⟨by simp only; omega, by simp only; omega, p3⟩
        · rw [subE_neg (by omega)] at p3
          exact int_eq (by omega)
      · have hi : i = x.fArms.length := by omega
        rw [hi, List.drop_length, MArm.cnts, subE_zero p2.1] at p3
        exact int_eq (by omega)
end Go.Proofs.YtokcpelkieeddaaGreatDoor

namespace Go.Proofs.YtokcpelkieeddaaGreatDoor
open Go Go.Ab
set_option maxHeartbeats 8000000 in
theorem l11Form_all : ∀ n : Nat, ∀ x : MExpr, SizeOf.sizeOf x < n → x.sz ≤ 4194304 → PCall Tryz.prog 148 [x.v] (.c (.d (.b (exprOk x)))) := by
  intro n
  induction n with
  | zero => intro x h; omega
  | succ n ih =>
    intro x hn hsz S
    have hb0 := MExpr.bounds hsz
    have lArgs := MExpr.lt_Args x
    have lArms := MExpr.lt_Arms x
    have he := exprOk_eq x
    have hv0 := not_valid_nil
    have hop : x.fName ∈ ops → validName x.fName = false := op_not_valid
    refine (show (fieldsP x → ?T) → _ from fun tail => ?main) ?tp
    case' main =>
      rcases kind_cases x.fKind with hk | hk | hk | hk | hk | hk | hk | hk | hk | hk | hk | hk | hk
      · have h1 : exprOk x = false := by rw [he, dec_false (fun h => by have := h.1; omega)]; rfl
        refine acall_cw (rs := [.tmp 2]) Tryz.checked.mixed Tryz.func148 Tryz.ntmps148 rfl rfl rfl rfl rfl ?_
        simp -implicitDefEqProofs (disch := omega) only [go_sem]
        refine call_w (l11Has_ok _) ?_
        simp -implicitDefEqProofs (disch := omega) only [go_sem]
        refine call_w (l1In_ok _ _ _) ?_
        simp -implicitDefEqProofs (disch := omega) only [go_sem]
        with_reducible refine split2 (fun hb => ?_) (fun hb => ?_) <;> have h := hb <;> (try simp only [wf_preprocess] at h) <;> simp -implicitDefEqProofs (disch := omega) only [go_sem, hb] <;> (repeat (with_reducible refine And.intro ?_ ?_; focus first | omega | rfl | assumption | exact ⟨_, rfl, rfl⟩ | (simp; omega) | (simp; done)))
        · rw [h1]
        · omega
      all_goals
        have hf0 : ¬ fieldsP x → V.c (.d (.b false)) = V.c (.d (.b (exprOk x))) := fun h => bool_eq (by rw [he, dec_false h]; rfl)
        refine acall_cw (rs := [.tmp 2]) Tryz.checked.mixed Tryz.func148 Tryz.ntmps148 rfl rfl rfl rfl rfl ?_
        simp -implicitDefEqProofs (disch := omega) only [go_sem, hk]
        refine call_w (l11Has_ok _) ?_
        simp -implicitDefEqProofs (disch := omega) only [go_sem, hk, hasTr, hasNm, hasNu, hasTy, hasAr, hasAm, or_false, or_true, true_or, false_or]
        refine call_w (l1In_ok _ _ _) ?_
        simp -implicitDefEqProofs (disch := omega) only [go_sem, hk]
        repeat' (first
          | with_reducible refine split2 (fun hb => ?_) (fun hb => ?_) <;> have h := hb <;> (try simp only [wf_preprocess] at h) <;> simp -implicitDefEqProofs (disch := omega) only [go_sem, hb, hk] <;> (repeat (with_reducible refine And.intro ?_ ?_; focus first | omega | rfl | assumption | exact ⟨_, rfl, rfl⟩ | (simp; omega) | (simp; done)))
          | ((with_reducible show CallG _ _ 170 _ _ _ _); refine call_w (specValidName_ok x.fName (by omega)) ?_; simp -implicitDefEqProofs (disch := omega) only [go_sem, hk])
          | ((with_reducible show CallG _ _ 170 _ _ _ _); refine call_w (specValidName_ok x.fTrait (by omega)) ?_; simp -implicitDefEqProofs (disch := omega) only [go_sem, hk])
          | ((with_reducible show CallG _ _ 238 _ _ _ _); refine call_w (l11Prim_ok x.fName) ?_; simp -implicitDefEqProofs (disch := omega) only [go_sem, hk])
          | ((with_reducible show CallG _ _ 197 _ _ _ _); refine call_w (l11Zero_ok x.fType) ?_; simp -implicitDefEqProofs (disch := omega) only [go_sem, hk])
          | ((with_reducible show CallG _ _ 239 _ _ _ _); refine call_w (specValidType_ok x.fType (by omega)) ?_; simp -implicitDefEqProofs (disch := omega) only [go_sem, hk])
          | ((with_reducible show CallG _ _ 237 _ _ _ _); refine call_w (l1In_ok x.fN _ _) ?_; simp -implicitDefEqProofs (disch := omega) only [go_sem, hk])
          | (refine hf0 fun hF => ?_; simp only [fieldsP, hk, or_false, or_true, true_or, false_or, and_true, true_and, if_true, if_false, ↓reduceIte, Int.reduceEq, Int.reduceLT, Int.reduceLE] at hF; grind [of_dec, of_dec_false, dec_true, dec_false]))
      all_goals
        have hF : fieldsP x := by simp only [fieldsP, hk, or_false, or_true, true_or, false_or, and_true, true_and, if_true, if_false, ↓reduceIte, Int.reduceEq, Int.reduceLT, Int.reduceLE]; grind [of_dec, of_dec_false, dec_true, dec_false]
        refine aw_canon (st' := [.box (x.enc.map .d)] :: S) [1, 9] [.c (.ptr (0, 0) 0), .c (.d (.i .i64 0))] rfl (by simp -implicitDefEqProofs (disch := omega) only [go_sem, hk]) ?_
        exact tail hF
    intro hF
    rw [dec_true hF, Bool.true_and] at he
    clear hF hop hv0
    refine loop_at (ι := Nat) Tryz.checked.mixed rfl [1, 9] (fun i => [.c (.ptr (0, 0) 0), .c (.d (.i .i64 i))]) (fun _ => [.box (x.enc.map .d)] :: S)
      (fun i => i ≤ x.fArgs.length ∧ exprsOk (x.fArgs.drop i) = exprsOk x.fArgs) (fun i => x.fArgs.length - i) 0 rfl ?_ ⟨Nat.zero_le _, rfl⟩ ?_
    · simp -implicitDefEqProofs (disch := omega) only [go_sem]
    rintro i ⟨p1, p2⟩
    simp -implicitDefEqProofs (disch := omega) only [go_sem]
    with_reducible refine split2 (fun hb => ?_) (fun hb => ?_) <;> have h := hb <;> (try simp only [wf_preprocess] at h) <;> simp -implicitDefEqProofs (disch := omega) only [go_sem, hb] <;> (repeat (with_reducible refine And.intro ?_ ?_; focus first | omega | rfl | assumption | exact ⟨_, rfl, rfl⟩ | (simp; omega) | (simp; done)))
    · have hi : i < x.fArgs.length := by omega
      have hs := List.sizeOf_lt_of_mem (List.getElem_mem hi)
      rw [exprsOk_drop hi] at p2
      (repeat (with_reducible refine And.intro ?_ ?_; focus first | omega | rfl | assumption | exact ⟨_, rfl, rfl⟩ | (simp; omega) | (simp; done)))
      refine call_w (ih x.fArgs[i] (by omega) (MExpr.arg_b hi hsz)) ?_
      simp -implicitDefEqProofs (disch := omega) only [go_sem] <;> (repeat (with_reducible refine And.intro ?_ ?_; focus first | omega | rfl | assumption | exact ⟨_, rfl, rfl⟩ | (simp; omega) | (simp; done)))
      with_reducible refine split2 (fun hb => ?_) (fun hb => ?_) <;> have h := hb <;> (try simp only [wf_preprocess] at h) <;> simp -implicitDefEqProofs (disch := omega) only [go_sem, hb] <;> (repeat (with_reducible refine And.intro ?_ ?_; focus first | omega | rfl | assumption | exact ⟨_, rfl, rfl⟩ | (simp; omega) | (simp; done)))
      · exact bool_eq (by rw [he, ← p2, h]; rfl)
      · exact inv_at (i + 1) (by omega) rfl rfl ⟨by omega, by rw [← p2, h]; rfl⟩
    rw [List.drop_of_length_le (by omega)] at p2
    have q : exprsOk x.fArgs = true := p2.symm
    clear p2 p1
    refine loop_at (ι := Nat) Tryz.checked.mixed rfl [1, 10] (fun i => [.c (.ptr (0, 0) 0), .c (.d (.i .i64 i))]) (fun _ => [.box (x.enc.map .d)] :: S)
      (fun i => i ≤ x.fArms.length ∧ armsOk (x.fArms.drop i) = armsOk x.fArms) (fun i => x.fArms.length - i) 0 rfl ?_ ⟨Nat.zero_le _, rfl⟩ ?_
    · simp -implicitDefEqProofs (disch := omega) only [go_sem]
    rintro i ⟨p1, p2⟩
    simp -implicitDefEqProofs (disch := omega) only [go_sem]
    with_reducible refine split2 (fun hb => ?_) (fun hb => ?_) <;> have h := hb <;> (try simp only [wf_preprocess] at h) <;> simp -implicitDefEqProofs (disch := omega) only [go_sem, hb] <;> (repeat (with_reducible refine And.intro ?_ ?_; focus first | omega | rfl | assumption | exact ⟨_, rfl, rfl⟩ | (simp; omega) | (simp; done)))
    · have hi : i < x.fArms.length := by omega
      have hs := List.sizeOf_lt_of_mem (List.getElem_mem hi)
      have hs' := MArm.lt_Body x.fArms[i]
      have hab := MArm.bounds (MExpr.arm_b hi hsz)
      rw [armsOk_drop hi] at p2
      have no : armOk x.fArms[i] = false → V.c (.d (.b false)) = V.c (.d (.b (exprOk x))) := fun h => bool_eq (by rw [he, ← p2, h]; simp)
      (repeat (with_reducible refine And.intro ?_ ?_; focus first | omega | rfl | assumption | exact ⟨_, rfl, rfl⟩ | (simp; omega) | (simp; done)))
      refine call_w (specValidName_ok x.fArms[i].fConstructor (by omega)) ?_
      simp -implicitDefEqProofs (disch := omega) only [go_sem] <;> (repeat (with_reducible refine And.intro ?_ ?_; focus first | omega | rfl | assumption | exact ⟨_, rfl, rfl⟩ | (simp; omega) | (simp; done)))
      with_reducible refine split2 (fun hb => ?_) (fun hb => ?_) <;> have h := hb <;> (try simp only [wf_preprocess] at h) <;> simp -implicitDefEqProofs (disch := omega) only [go_sem, hb] <;> (repeat (with_reducible refine And.intro ?_ ?_; focus first | omega | rfl | assumption | exact ⟨_, rfl, rfl⟩ | (simp; omega) | (simp; done)))
      · exact no (by rw [armOk_eq, h]; rfl)
      have k1 := h
      (repeat (with_reducible refine And.intro ?_ ?_; focus first | omega | rfl | assumption | exact ⟨_, rfl, rfl⟩ | (simp; omega) | (simp; done)))
      refine call_w (l3Names_ok x.fArms[i].fVars (by omega) hab.2.2.1) ?_
      simp -implicitDefEqProofs (disch := omega) only [go_sem] <;> (repeat (with_reducible refine And.intro ?_ ?_; focus first | omega | rfl | assumption | exact ⟨_, rfl, rfl⟩ | (simp; omega) | (simp; done)))
      with_reducible refine split2 (fun hb => ?_) (fun hb => ?_) <;> have h := hb <;> (try simp only [wf_preprocess] at h) <;> simp -implicitDefEqProofs (disch := omega) only [go_sem, hb] <;> (repeat (with_reducible refine And.intro ?_ ?_; focus first | omega | rfl | assumption | exact ⟨_, rfl, rfl⟩ | (simp; omega) | (simp; done)))
      · exact no (by rw [armOk_eq]; unfold namesOk; rw [h]; simp)
      have k2 := h
      (repeat (with_reducible refine And.intro ?_ ?_; focus first | omega | rfl | assumption | exact ⟨_, rfl, rfl⟩ | (simp; omega) | (simp; done)))
      refine call_w (specDistinct_ok x.fArms[i].fVars (by omega)) ?_
      simp -implicitDefEqProofs (disch := omega) only [go_sem] <;> (repeat (with_reducible refine And.intro ?_ ?_; focus first | omega | rfl | assumption | exact ⟨_, rfl, rfl⟩ | (simp; omega) | (simp; done)))
      with_reducible refine split2 (fun hb => ?_) (fun hb => ?_) <;> have h := hb <;> (try simp only [wf_preprocess] at h) <;> simp -implicitDefEqProofs (disch := omega) only [go_sem, hb] <;> (repeat (with_reducible refine And.intro ?_ ?_; focus first | omega | rfl | assumption | exact ⟨_, rfl, rfl⟩ | (simp; omega) | (simp; done)))
      · exact no (by rw [armOk_eq]; unfold namesOk; rw [dec_false h]; simp)
      have k3 := h
      (repeat (with_reducible refine And.intro ?_ ?_; focus first | omega | rfl | assumption | exact ⟨_, rfl, rfl⟩ | (simp; omega) | (simp; done)))
      refine call_w (ih x.fArms[i].fBody (by omega) hab.2.2.2) ?_
      simp -implicitDefEqProofs (disch := omega) only [go_sem] <;> (repeat (with_reducible refine And.intro ?_ ?_; focus first | omega | rfl | assumption | exact ⟨_, rfl, rfl⟩ | (simp; omega) | (simp; done)))
      with_reducible refine split2 (fun hb => ?_) (fun hb => ?_) <;> have h := hb <;> (try simp only [wf_preprocess] at h) <;> simp -implicitDefEqProofs (disch := omega) only [go_sem, hb] <;> (repeat (with_reducible refine And.intro ?_ ?_; focus first | omega | rfl | assumption | exact ⟨_, rfl, rfl⟩ | (simp; omega) | (simp; done)))
      · exact no (by rw [armOk_eq, h]; simp)
      · exact inv_drop 1 (by decide) (i + 1) (by omega) rfl rfl rfl rfl ⟨by omega, by rw [← p2, armOk_eq, k1, h]; unfold namesOk; rw [k2, dec_true k3]; rfl⟩
    · rw [List.drop_of_length_le (by omega)] at p2
      exact bool_eq (by rw [he, q, ← p2]; rfl)
theorem specValidExpr_ok (x : MExpr) (hsz : x.sz ≤ 4194304) : PCall Tryz.prog 56 [x.v] (.c (.d (.b (validExpr x)))) := fun S => by
  have hs := subE_pos (l := 300) (c := x.cnt) (by omega)
  refine acall_cw (rs := [.tmp 2]) Tryz.checked.mixed Tryz.func56 Tryz.ntmps56 rfl rfl rfl rfl rfl ?_
  simp -implicitDefEqProofs (disch := omega) only [go_sem]
  refine call_w (l11Left_all _ x (Nat.lt_succ_self _) hsz 300 (by omega) (by omega)) ?_
  simp -implicitDefEqProofs (disch := omega) only [go_sem] <;> (repeat (with_reducible refine And.intro ?_ ?_; focus first | omega | rfl | assumption | exact ⟨_, rfl, rfl⟩ | (simp; omega) | (simp; done)))
  rw [hs]
  with_reducible refine split2 (fun hb => ?_) (fun hb => ?_) <;> have h := hb <;> (try simp only [wf_preprocess] at h) <;> simp -implicitDefEqProofs (disch := omega) only [go_sem, hb] <;> (repeat (with_reducible refine And.intro ?_ ?_; focus first | omega | rfl | assumption | exact ⟨_, rfl, rfl⟩ | (simp; omega) | (simp; done)))
  · refine call_w (l11Form_all _ x (Nat.lt_succ_self _) hsz) ?_
    simp -implicitDefEqProofs (disch := omega) only [go_sem] <;> (repeat (with_reducible refine And.intro ?_ ?_; focus first | omega | rfl | assumption | exact ⟨_, rfl, rfl⟩ | (simp; omega) | (simp; done)))
    exact bool_eq (by unfold validExpr; rw [dec_true (by omega)]; rfl)
  · exact bool_eq (by unfold validExpr; rw [dec_false (by omega)]; rfl)
end Go.Proofs.YtokcpelkieeddaaGreatDoor

namespace Go.Ab
theorem validExpr_ok {x : MExpr} (h : validExpr x = true) : exprOk x = true := by rw [validExpr, Bool.and_eq_true] at h; exact h.2
end Go.Ab
namespace Go.Proofs.YtokcpelkieeddaaGreatDoor
open Go Go.Ab
end Go.Proofs.YtokcpelkieeddaaGreatDoor

namespace Go.Ab
theorem MDataType.bounds {x : MDataType} (h : x.sz ≤ 4194304) : x.fName.length ≤ 4194304 ∧ x.fVars.length ≤ 4194304 ∧ x.fConstructors.length ≤ 4194304 ∧ ∀ s ∈ x.fVars, s.length ≤ 4194304 := by
  simp only [MDataType.sz, MDataType.enc_eq, szRow, szRow_append, D.sz, List.length_map] at h
  refine ⟨by omega, by omega, by omega, fun s hs => ?_⟩
  have := strs_b hs
  omega
theorem MConstructor.bounds {x : MConstructor} (h : x.sz ≤ 4194304) : x.fName.length ≤ 4194304 ∧ x.fFields.length ≤ 4194304 ∧ ∀ t ∈ x.fFields, t.sz ≤ 4194304 := by
  simp only [MConstructor.sz, MConstructor.enc_eq, szRow, szRow_append, D.sz, List.length_map] at h
  refine ⟨by omega, by omega, fun t ht => ?_⟩
  have hx : t.sz ≤ szRows (x.fFields.map MType.enc) := szRows_mem (List.mem_map_of_mem ht)
  omega
end Go.Ab
namespace Go.Proofs.YtokcpelkieeddaaGreatDoor
open Go Go.Ab
end Go.Proofs.YtokcpelkieeddaaGreatDoor

namespace Go.Ab
end Go.Ab
namespace Go.Proofs.YtokcpelkieeddaaGreatDoor
open Go Go.Ab
end Go.Proofs.YtokcpelkieeddaaGreatDoor

namespace Go.Ab
noncomputable def addF (k : Int) (n : List UInt8) (bound out : List (List UInt8)) : List (List UInt8) := if k = 3 ∧ n ∉ bound ∧ n ∉ out then out ++ [n] else out
mutual
noncomputable def freeE : MExpr → List (List UInt8) → List (List UInt8) → List (List UInt8)
  | .mk k _ n _ _ a b, bound, out => freeR b bound (freeL a k n 0 bound (addF k n bound out))
noncomputable def freeL : List MExpr → Int → List UInt8 → Nat → List (List UInt8) → List (List UInt8) → List (List UInt8)
  | [], _, _, _, _, out => out
  | x :: xs, k, n, i, bound, out => freeL xs k n (i + 1) bound (freeE x (if k = 8 ∧ i = 1 then bound ++ [n] else bound) out)
noncomputable def freeR : List MArm → List (List UInt8) → List (List UInt8) → List (List UInt8)
  | [], _, out => out
  | x :: xs, bound, out => freeR xs bound (freeM x bound out)
noncomputable def freeM : MArm → List (List UInt8) → List (List UInt8) → List (List UInt8)
  | .mk _ v b, bound, out => freeE b (bound ++ v) out
end
theorem freeE_eq (x : MExpr) (bound out : List (List UInt8)) : freeE x bound out = freeR x.fArms bound (freeL x.fArgs x.fKind x.fName 0 bound (addF x.fKind x.fName bound out)) := by cases x; rw [freeE]; rfl
theorem freeM_eq (x : MArm) (bound out : List (List UInt8)) : freeM x bound out = freeE x.fBody (bound ++ x.fVars) out := by cases x; rw [freeM]; rfl
theorem freeL_drop {xs : List MExpr} {k : Int} {n : List UInt8} {i : Nat} {bound out : List (List UInt8)} (hi : i < xs.length) : freeL (xs.drop i) k n i bound out = freeL (xs.drop (i + 1)) k n (i + 1) bound (freeE xs[i] (if k = 8 ∧ i = 1 then bound ++ [n] else bound) out) := by
  rw [List.drop_eq_getElem_cons hi, freeL]
theorem freeR_drop {xs : List MArm} {i : Nat} {bound out : List (List UInt8)} (hi : i < xs.length) : freeR (xs.drop i) bound out = freeR (xs.drop (i + 1)) bound (freeM xs[i] bound out) := by
  rw [List.drop_eq_getElem_cons hi, freeR]
theorem addF_len (k : Int) (n : List UInt8) (bound out : List (List UInt8)) : (addF k n bound out).length ≤ out.length + 1 := by
  unfold addF; split <;> simp
mutual
theorem freeE_len : ∀ (x : MExpr) (bound out : List (List UInt8)), (freeE x bound out).length ≤ out.length + x.cnt
  | .mk k t n m ty a b, bound, out => by
    have h1 := addF_len k n bound out
    have h2 := freeL_len a k n 0 bound (addF k n bound out)
    have h3 := freeR_len b bound (freeL a k n 0 bound (addF k n bound out))
    rw [freeE, MExpr.cnt]; omega
theorem freeL_len : ∀ (xs : List MExpr) (k : Int) (n : List UInt8) (i : Nat) (bound out : List (List UInt8)), (freeL xs k n i bound out).length ≤ out.length + MExpr.cnts xs
  | [], k, n, i, bound, out => by rw [freeL, MExpr.cnts]; omega
  | x :: xs, k, n, i, bound, out => by
    have h1 := freeE_len x (if k = 8 ∧ i = 1 then bound ++ [n] else bound) out
    have h2 := freeL_len xs k n (i + 1) bound (freeE x (if k = 8 ∧ i = 1 then bound ++ [n] else bound) out)
    rw [freeL, MExpr.cnts]; omega
theorem freeR_len : ∀ (xs : List MArm) (bound out : List (List UInt8)), (freeR xs bound out).length ≤ out.length + MArm.cnts xs
  | [], bound, out => by rw [freeR, MArm.cnts]; omega
  | x :: xs, bound, out => by
    have h1 := freeM_len x bound out
    have h2 := freeR_len xs bound (freeM x bound out)
    rw [freeR, MArm.cnts]; omega
theorem freeM_len : ∀ (x : MArm) (bound out : List (List UInt8)), (freeM x bound out).length ≤ out.length + x.cnt
  | .mk c v b, bound, out => by
    have h1 := freeE_len b (bound ++ v) out
    rw [freeM, MArm.cnt]; omega
end
theorem MExpr.arg_sz {x : MExpr} {i : Nat} (hi : i < x.fArgs.length) : x.fArgs[i].sz + x.fArgs.length ≤ x.sz := by
  have hx : x.fArgs[i].sz ≤ szRows (x.fArgs.map MExpr.enc) := szRows_mem (List.mem_map_of_mem (List.getElem_mem hi))
  have := MExpr.sz_parts x
  omega
theorem MExpr.arm_sz {x : MExpr} {i : Nat} (hi : i < x.fArms.length) : x.fArms[i].sz + x.fArms.length ≤ x.sz := by
  have hx : x.fArms[i].sz ≤ szRows (x.fArms.map MArm.enc) := szRows_mem (List.mem_map_of_mem (List.getElem_mem hi))
  have := MExpr.sz_parts x
  omega
theorem MArm.sz_vars (x : MArm) : x.fVars.length + x.fBody.sz ≤ x.sz := by
  simp only [MArm.sz, MArm.enc_eq, MExpr.sz, szRow, szRow_append, D.sz, List.length_map]
  omega
theorem snocW (xs : List (List UInt8)) (s : List UInt8) : xs.map encS ++ [[D.s s]] = (xs ++ [s]).map encS := by simp [encS]
end Go.Ab
namespace Go.Proofs.YtokcpelkieeddaaGreatDoor
open Go Go.Ab
set_option maxHeartbeats 2000000 in
theorem implFree_all : ∀ N : Nat, ∀ x : MExpr, SizeOf.sizeOf x < N → x.sz ≤ 4194304 → ∀ (bound out : List (List UInt8)) (l j : Nat) (S : Store), getO S (l, j) = some (.tok 1 (out.map encS)) → out.length + x.cnt ≤ 1073741824 → bound.length + x.sz ≤ 1073741824 →
    ACall Tryz.prog 313 [.c (.tsl (l, j) (out.map encS)), x.v, .c (.d (.sl (bound.map encS)))] S (fun r S' => r = .c (.tsl (l, j) ((freeE x bound out).map encS)) ∧ S' = setO S (l, j) (.tok 1 ((freeE x bound out).map encS)))
  | 0 => fun x h => by omega
  | N + 1 => by
    have ih := implFree_all N
    intro x hn hsz bound out l j S hk hc hbd
    have hb0 := MExpr.sz_parts x
    have lArgs := MExpr.lt_Args x
    have lArms := MExpr.lt_Arms x
    have hcn := MExpr.cnt_eq x
    have hkS : ∀ y : Ab.Obj, getO (setO S (l, j) y) (l, j) = some y := fun y => getO_setO_eq _ _ _ _ hk
    have hS0 : setO S (l, j) (.tok 1 (out.map encS)) = S := setO_self _ _ hk
    have fin := freeE_eq x bound out
    have hal := addF_len x.fKind x.fName bound out
    obtain ⟨o1, ho1⟩ : ∃ o1, addF x.fKind x.fName bound out = o1 := ⟨_, rfl⟩
    rw [ho1] at fin hal
    refine (show Hold ?T → _ from fun tail => ?main) ?tp
    case' main =>
      refine acall_cw (rs := [.tmp 6]) Tryz.checked.mixed Tryz.func313 Tryz.ntmps313 rfl rfl rfl rfl rfl ?_
      simp -implicitDefEqProofs (disch := omega) only [go_sem, hk]
      repeat' (first
        | (with_reducible refine split2 (fun hb => ?_) (fun hb => ?_) <;> have h := hb <;> (try simp only [wf_preprocess] at h) <;> simp -implicitDefEqProofs (disch := omega) only [go_sem, hb, hk] <;> (repeat (with_reducible refine And.intro ?_ ?_; focus first | omega | rfl | assumption | exact ⟨_, rfl, rfl⟩ | (simp; omega) | (simp; done))))
        | (refine call_w (containsS_ok bound x.fName (by omega)) ?_; simp -implicitDefEqProofs (disch := omega) only [go_sem, hk]; (repeat (with_reducible refine And.intro ?_ ?_; focus first | omega | rfl | assumption | exact ⟨_, rfl, rfl⟩ | (simp; omega) | (simp; done))))
        | (refine call_w (containsS_ok out x.fName (by omega)) ?_; simp -implicitDefEqProofs (disch := omega) only [go_sem, hk]; (repeat (with_reducible refine And.intro ?_ ?_; focus first | omega | rfl | assumption | exact ⟨_, rfl, rfl⟩ | (simp; omega) | (simp; done)))))
      all_goals first
        | (have ha : addF x.fKind x.fName bound out = out ++ [x.fName] := if_pos ⟨by assumption, by assumption, by assumption⟩)
        | (have ha : addF x.fKind x.fName bound out = out := if_neg (fun y => by have := y.1; have := y.2.1; have := y.2.2; contradiction))
      all_goals
        refine aw_canon (st' := [.box (x.enc.map .d)] :: setO S (l, j) (.tok 1 (o1.map encS))) [0, 2, 4, 34, 35, 36] [.c (.tsl (1 + l, j) (o1.map encS)), .c (.d (.sl (bound.map encS))), .c (.ptr (0, 0) 0), .c (.d (.sl (x.fArgs.map MExpr.enc))), .c (.d (.i .i64 x.fArgs.length)), .c (.d (.i .i64 0))] ?_ ?_ ?_
        · first | (rw [← ho1, ha]; rfl) | (rw [← ho1, ha, ← snocW]; rfl)
        · first | (rw [← ho1, ha, hS0]; simp -implicitDefEqProofs (disch := omega) only [go_sem]; done) | (rw [← ho1, ha, ← snocW]; simp -implicitDefEqProofs (disch := omega) only [go_sem]; done)
        · exact tail.out
    refine ⟨?_⟩
    clear ho1
    refine loop_at (ι := Nat × List (List UInt8)) Tryz.checked.mixed rfl [0, 2, 4, 34, 35, 36] (fun y => [.c (.tsl (1 + l, j) (y.2.map encS)), .c (.d (.sl (bound.map encS))), .c (.ptr (0, 0) 0), .c (.d (.sl (x.fArgs.map MExpr.enc))), .c (.d (.i .i64 x.fArgs.length)), .c (.d (.i .i64 y.1))]) (fun y => [.box (x.enc.map .d)] :: setO S (l, j) (.tok 1 (y.2.map encS)))
      (fun y => y.1 ≤ x.fArgs.length ∧ y.2.length + MExpr.cnts (x.fArgs.drop y.1) + MArm.cnts x.fArms ≤ 1073741824 ∧ freeL (x.fArgs.drop y.1) x.fKind x.fName y.1 bound y.2 = freeL x.fArgs x.fKind x.fName 0 bound o1) (fun y => x.fArgs.length - y.1) (0, o1) rfl rfl ⟨Nat.zero_le _, by simp only [List.drop_zero]; omega, rfl⟩ ?_
    rintro ⟨i, o⟩ ⟨p1, p2, p3⟩
    have refs : ∀ {a b}, tmRefs 1 (zipTm [0, 2, 4, 34, 35, 36] [.c (.tsl (1 + l, j) a), .c (.d (.sl (bound.map encS))), .c (.ptr (0, 0) 0), .c (.d (.sl (x.fArgs.map MExpr.enc))), .c (.d (.i .i64 x.fArgs.length)), .c (.d (.i .i64 b))]) = true := fun {a b} => by simp [tmRefs, zipTm, V.refs, C.refs, refK]; omega
    simp only at p1 p2 p3
    simp -implicitDefEqProofs (disch := omega) only [go_sem]
    with_reducible refine split2 (fun hb => ?_) (fun hb => ?_) <;> have h := hb <;> (try simp only [wf_preprocess] at h) <;> simp -implicitDefEqProofs (disch := omega) only [go_sem, hb] <;> (repeat (with_reducible refine And.intro ?_ ?_; focus first | omega | rfl | assumption | exact ⟨_, rfl, rfl⟩ | (simp; omega) | (simp; done)))
    · have hi : i < x.fArgs.length := by omega
      have hs := List.sizeOf_lt_of_mem (List.getElem_mem hi)
      have hz := MExpr.arg_sz hi
      rw [freeL_drop hi] at p3
      rw [MExpr.cnts_drop hi] at p2
      have hlo := freeE_len x.fArgs[i] (if x.fKind = 8 ∧ i = 1 then bound ++ [x.fName] else bound) o
      (repeat (with_reducible refine And.intro ?_ ?_; focus first | omega | rfl | assumption | exact ⟨_, rfl, rfl⟩ | (simp; omega) | (simp; done)))
      have two : x.fArgs[i].sz + (bound.length + 1) ≤ 1073741824 := by omega
      repeat' (first | with_reducible refine split2 (fun hb => ?_) (fun hb => ?_) <;> have h := hb <;> (try simp only [wf_preprocess] at h) <;> simp -implicitDefEqProofs (disch := omega) only [go_sem, hb] <;> (repeat (with_reducible refine And.intro ?_ ?_; focus first | omega | rfl | assumption | exact ⟨_, rfl, rfl⟩ | (simp; omega) | (simp; done))))
      · -- a let's second argument
        have e1 : x.fKind = 8 ∧ i = 1 := ⟨by omega, by omega⟩
        rw [if_pos e1] at p3 hlo
        refine call_a rfl DS.push (cloneS_ok bound (by omega) _ _) ?_
        simp -implicitDefEqProofs (disch := omega) only [go_sem]
        (repeat (with_reducible refine And.intro ?_ ?_; focus first | omega | rfl | assumption | exact ⟨_, rfl, rfl⟩ | (simp; omega) | (simp; done)))
        rw [snocW]
        refine call_m [true, true, false] rfl (ih x.fArgs[i] (by omega) (by omega) (bound ++ [x.fName]) o (1 + l) j _ (by simp -implicitDefEqProofs (disch := omega) only [go_sem]; exact hkS _) (by omega) (by simp only [List.length_append, List.length_cons, List.length_nil]; omega)) ?_
        simp -implicitDefEqProofs (disch := omega) only [go_sem, setO_twice]
        exact inv_drop 1 (by decide) (i + 1, freeE x.fArgs[i] (bound ++ [x.fName]) o) (by simp only; omega) rfl rfl refs rfl ⟨by simp only; omega, by simp only; omega, p3⟩
      all_goals
        have e1 : ¬ (x.fKind = 8 ∧ i = 1) := fun h => by omega
        rw [if_neg e1] at p3 hlo
        refine call_d rfl (ih x.fArgs[i] (by omega) (by omega) bound o (1 + l) j _ (by simp -implicitDefEqProofs (disch := omega) only [go_sem]; exact hkS _) (by omega) (by omega)) ?_
        simp -implicitDefEqProofs (disch := omega) only [go_sem, setO_twice]
        exact inv_drop 1 (by decide) (i + 1, freeE x.fArgs[i] bound o) (by simp only; omega) rfl rfl refs rfl ⟨by simp only; omega, by simp only; omega, p3⟩
    have hi : i = x.fArgs.length := by omega
    rw [hi, List.drop_length] at p2 p3
    rw [MExpr.cnts] at p2
    rw [freeL] at p3
    rw [← p3] at fin
    clear p3 refs
    refine loop_at (ι := Nat × List (List UInt8)) Tryz.checked.mixed rfl [0, 2, 63, 64, 65] (fun y => [.c (.tsl (1 + l, j) (y.2.map encS)), .c (.d (.sl (bound.map encS))), .c (.d (.sl (x.fArms.map MArm.enc))), .c (.d (.i .i64 x.fArms.length)), .c (.d (.i .i64 y.1))]) (fun y => [.box (x.enc.map .d)] :: setO S (l, j) (.tok 1 (y.2.map encS)))
      (fun y => y.1 ≤ x.fArms.length ∧ y.2.length + MArm.cnts (x.fArms.drop y.1) ≤ 1073741824 ∧ freeR (x.fArms.drop y.1) bound y.2 = freeE x bound out) (fun y => x.fArms.length - y.1) (0, o) rfl ?_ ⟨Nat.zero_le _, by simp only [List.drop_zero]; omega, fin.symm⟩ ?_
    · simp -implicitDefEqProofs (disch := omega) only [go_sem]
    clear p1 p2 fin hal
    rintro ⟨i, o⟩ ⟨p1, p2, p3⟩
    have refs : ∀ a b, tmRefs 1 (zipTm [0, 2, 63, 64, 65] [.c (.tsl (1 + l, j) a), .c (.d (.sl (bound.map encS))), .c (.d (.sl (x.fArms.map MArm.enc))), .c (.d (.i .i64 x.fArms.length)), .c (.d (.i .i64 b))]) = true := fun a b => by simp [tmRefs, zipTm, V.refs, C.refs, refK]; omega
    simp only at p1 p2 p3
    simp -implicitDefEqProofs (disch := omega) only [go_sem]
    with_reducible refine split2 (fun hb => ?_) (fun hb => ?_) <;> have h := hb <;> (try simp only [wf_preprocess] at h) <;> simp -implicitDefEqProofs (disch := omega) only [go_sem, hb] <;> (repeat (with_reducible refine And.intro ?_ ?_; focus first | omega | rfl | assumption | exact ⟨_, rfl, rfl⟩ | (simp; omega) | (simp; done)))
    · have hi : i < x.fArms.length := by omega
      have hs := List.sizeOf_lt_of_mem (List.getElem_mem hi)
      have hs' := MArm.lt_Body x.fArms[i]
      have hz := MExpr.arm_sz hi
      have hz' := MArm.sz_vars x.fArms[i]
      rw [freeR_drop hi, freeM_eq] at p3
      rw [MArm.cnts_drop hi] at p2
      have hlo := freeE_len x.fArms[i].fBody (bound ++ x.fArms[i].fVars) o
      have hcc := concatS_ok [bound, x.fArms[i].fVars] (by simp) (by simp only [List.flatten_cons, List.flatten_nil, List.append_nil, List.length_append]; omega)
      simp only [List.map_cons, List.map_nil, List.flatten_cons, List.flatten_nil, List.append_nil] at hcc
      (repeat (with_reducible refine And.intro ?_ ?_; focus first | omega | rfl | assumption | exact ⟨_, rfl, rfl⟩ | (simp; omega) | (simp; done)))
      refine call_w hcc ?_
      simp -implicitDefEqProofs (disch := omega) only [go_sem]
      refine call_d rfl (ih x.fArms[i].fBody (by omega) (by omega) (bound ++ x.fArms[i].fVars) o (1 + l) j _ (by simp -implicitDefEqProofs (disch := omega) only [go_sem]; exact hkS _) (by omega) (by simp only [List.length_append]; omega)) ?_
      simp -implicitDefEqProofs (disch := omega) only [go_sem, setO_twice]
      exact inv_drop 1 (by decide) (i + 1, freeE x.fArms[i].fBody (bound ++ x.fArms[i].fVars) o) (by simp only; omega) rfl rfl (refs _ _) rfl ⟨by simp only; omega, by simp only; omega, p3⟩
    · have hi : i = x.fArms.length := by omega
      rw [hi, List.drop_length, freeR] at p3
      rw [← p3]
      exact ⟨rfl, rfl⟩
theorem implFreeVars_ok (x : MExpr) (hsz : x.sz ≤ 4194304) : PCall Tryz.prog 265 [x.v] (.c (.d (.sl ((freeE x [] []).map encS)))) := fun S => by
  have hc := MExpr.cnt_le x
  have h0 : ∀ S, ACall Tryz.prog 313 [.c (.fsl []), x.v, .c (.d (.sl []))] S (fun r S' => r = .c (.d (.sl ((freeE x [] []).map encS))) ∧ S' = S) := fun S => by
    refine ACall.tok0 0 (es := []) (esz := 1) rfl (by simp) (implFree_all _ x (Nat.lt_succ_self _) hsz [] [] 0 0 ([.tok 1 []] :: S) rfl (by simp; omega) (by simp; omega)) ?_
    rintro r fr S' ⟨rfl, h2⟩
    injection h2 with h2 h3
    exact ⟨_, rfl, rfl, h3⟩
  refine acall_cw (rs := [.tmp 2]) Tryz.checked.mixed Tryz.func265 Tryz.ntmps265 rfl rfl rfl rfl rfl ?_
  simp -implicitDefEqProofs (disch := omega) only [go_sem]
  (repeat (with_reducible refine And.intro ?_ ?_; focus first | omega | rfl | assumption | exact ⟨_, rfl, rfl⟩ | (simp; omega) | (simp; done)))
  refine call_m [true, true, false] rfl (h0 _) ?_
  simp -implicitDefEqProofs (disch := omega) only [go_sem]
set_option maxHeartbeats 2000000 in
theorem specFree_all : ∀ N : Nat, ∀ x : MExpr, SizeOf.sizeOf x < N → x.sz ≤ 4194304 → ∀ (bound out : List (List UInt8)) (l j : Nat) (S : Store), getO S (l, j) = some (.tok 1 (out.map encS)) → out.length + x.cnt ≤ 1073741824 → bound.length + x.sz ≤ 1073741824 →
    ACall Tryz.prog 306 [x.v, .c (.d (.sl (bound.map encS))), .c (.tsl (l, j) (out.map encS))] S (fun r S' => r = .c (.tsl (l, j) ((freeE x bound out).map encS)) ∧ S' = setO S (l, j) (.tok 1 ((freeE x bound out).map encS)))
  | 0 => fun x h => by omega
  | N + 1 => by
    have ih := specFree_all N
    intro x hn hsz bound out l j S hk hc hbd
    have hb0 := MExpr.sz_parts x
    have lArgs := MExpr.lt_Args x
    have lArms := MExpr.lt_Arms x
    have hcn := MExpr.cnt_eq x
    have hkS : ∀ y : Ab.Obj, getO (setO S (l, j) y) (l, j) = some y := fun y => getO_setO_eq _ _ _ _ hk
    have hS0 : setO S (l, j) (.tok 1 (out.map encS)) = S := setO_self _ _ hk
    have fin := freeE_eq x bound out
    have hal := addF_len x.fKind x.fName bound out
    obtain ⟨o1, ho1⟩ : ∃ o1, addF x.fKind x.fName bound out = o1 := ⟨_, rfl⟩
    rw [ho1] at fin hal
    refine (show Hold ?T → _ from fun tail => ?main) ?tp
    case' main =>
      refine acall_cw (rs := [.tmp 6]) Tryz.checked.mixed Tryz.func306 Tryz.ntmps306 rfl rfl rfl rfl rfl ?_
      simp -implicitDefEqProofs (disch := omega) only [go_sem, hk]
      repeat' (first
        | (with_reducible refine split2 (fun hb => ?_) (fun hb => ?_) <;> have h := hb <;> (try simp only [wf_preprocess] at h) <;> simp -implicitDefEqProofs (disch := omega) only [go_sem, hb, hk] <;> (repeat (with_reducible refine And.intro ?_ ?_; focus first | omega | rfl | assumption | exact ⟨_, rfl, rfl⟩ | (simp; omega) | (simp; done))))
        | (refine call_w (l1Has_ok bound x.fName (by omega)) ?_; simp -implicitDefEqProofs (disch := omega) only [go_sem, hk]; (repeat (with_reducible refine And.intro ?_ ?_; focus first | omega | rfl | assumption | exact ⟨_, rfl, rfl⟩ | (simp; omega) | (simp; done))))
        | (refine call_w (l1Has_ok out x.fName (by omega)) ?_; simp -implicitDefEqProofs (disch := omega) only [go_sem, hk]; (repeat (with_reducible refine And.intro ?_ ?_; focus first | omega | rfl | assumption | exact ⟨_, rfl, rfl⟩ | (simp; omega) | (simp; done)))))
      all_goals first
        | (have ha : addF x.fKind x.fName bound out = out ++ [x.fName] := if_pos ⟨by assumption, by assumption, by assumption⟩)
        | (have ha : addF x.fKind x.fName bound out = out := if_neg (fun y => by have := y.1; have := y.2.1; have := y.2.2; contradiction))
      all_goals
        refine aw_canon (st' := [.box (x.enc.map .d)] :: setO S (l, j) (.tok 1 (o1.map encS))) [1, 2, 3, 7] [.c (.d (.sl (bound.map encS))), .c (.tsl (1 + l, j) (o1.map encS)), .c (.ptr (0, 0) 0), .c (.d (.i .i64 0))] ?_ ?_ ?_
        · first | (rw [← ho1, ha]; rfl) | (rw [← ho1, ha, ← snocW]; rfl)
        · first | (rw [← ho1, ha, hS0]; simp -implicitDefEqProofs (disch := omega) only [go_sem]; done) | (rw [← ho1, ha, ← snocW]; simp -implicitDefEqProofs (disch := omega) only [go_sem]; done)
        · exact tail.out
    refine ⟨?_⟩
    clear ho1
    refine loop_at (ι := Nat × List (List UInt8)) Tryz.checked.mixed rfl [1, 2, 3, 7] (fun y => [.c (.d (.sl (bound.map encS))), .c (.tsl (1 + l, j) (y.2.map encS)), .c (.ptr (0, 0) 0), .c (.d (.i .i64 y.1))]) (fun y => [.box (x.enc.map .d)] :: setO S (l, j) (.tok 1 (y.2.map encS)))
      (fun y => y.1 ≤ x.fArgs.length ∧ y.2.length + MExpr.cnts (x.fArgs.drop y.1) + MArm.cnts x.fArms ≤ 1073741824 ∧ freeL (x.fArgs.drop y.1) x.fKind x.fName y.1 bound y.2 = freeL x.fArgs x.fKind x.fName 0 bound o1) (fun y => x.fArgs.length - y.1) (0, o1) rfl rfl ⟨Nat.zero_le _, by simp only [List.drop_zero]; omega, rfl⟩ ?_
    rintro ⟨i, o⟩ ⟨p1, p2, p3⟩
    have refs : ∀ {a b}, tmRefs 1 (zipTm [1, 2, 3, 7] [.c (.d (.sl (bound.map encS))), .c (.tsl (1 + l, j) a), .c (.ptr (0, 0) 0), .c (.d (.i .i64 b))]) = true := fun {a b} => by simp [tmRefs, zipTm, V.refs, C.refs, refK]; omega
    simp only at p1 p2 p3
    simp -implicitDefEqProofs (disch := omega) only [go_sem]
    with_reducible refine split2 (fun hb => ?_) (fun hb => ?_) <;> have h := hb <;> (try simp only [wf_preprocess] at h) <;> simp -implicitDefEqProofs (disch := omega) only [go_sem, hb] <;> (repeat (with_reducible refine And.intro ?_ ?_; focus first | omega | rfl | assumption | exact ⟨_, rfl, rfl⟩ | (simp; omega) | (simp; done)))
    · have hi : i < x.fArgs.length := by omega
      have hs := List.sizeOf_lt_of_mem (List.getElem_mem hi)
      have hz := MExpr.arg_sz hi
      rw [freeL_drop hi] at p3
      rw [MExpr.cnts_drop hi] at p2
      have hlo := freeE_len x.fArgs[i] (if x.fKind = 8 ∧ i = 1 then bound ++ [x.fName] else bound) o
      have two : x.fArgs[i].sz + (bound.length + 1) ≤ 1073741824 := by omega
      repeat' (first | with_reducible refine split2 (fun hb => ?_) (fun hb => ?_) <;> have h := hb <;> (try simp only [wf_preprocess] at h) <;> simp -implicitDefEqProofs (disch := omega) only [go_sem, hb] <;> (repeat (with_reducible refine And.intro ?_ ?_; focus first | omega | rfl | assumption | exact ⟨_, rfl, rfl⟩ | (simp; omega) | (simp; done))))
      · have e1 : x.fKind = 8 ∧ i = 1 := ⟨by omega, by omega⟩
        rw [if_pos e1] at p3 hlo
        refine ⟨encS_len, ⟨_, rfl, rfl⟩, fun y hy => (by cases hy), by omega, ?_⟩
        (repeat (with_reducible refine And.intro ?_ ?_; focus first | omega | rfl | assumption | exact ⟨_, rfl, rfl⟩ | (simp; omega) | (simp; done)))
        rw [snocW]
        refine call_m [true, false, true] rfl (ih x.fArgs[i] (by omega) (by omega) (bound ++ [x.fName]) o (1 + l) j _ (by simp -implicitDefEqProofs (disch := omega) only [go_sem]; exact hkS _) (by omega) (by simp only [List.length_append, List.length_cons, List.length_nil]; omega)) ?_
        simp -implicitDefEqProofs (disch := omega) only [go_sem, setO_twice]
        exact inv_drop 1 (by decide) (i + 1, freeE x.fArgs[i] (bound ++ [x.fName]) o) (by simp only; omega) rfl rfl refs rfl ⟨by simp only; omega, by simp only; omega, p3⟩
      all_goals
        have e1 : ¬ (x.fKind = 8 ∧ i = 1) := fun h => by omega
        rw [if_neg e1] at p3 hlo
        (repeat (with_reducible refine And.intro ?_ ?_; focus first | omega | rfl | assumption | exact ⟨_, rfl, rfl⟩ | (simp; omega) | (simp; done)))
        refine call_d rfl (ih x.fArgs[i] (by omega) (by omega) bound o (1 + l) j _ (by simp -implicitDefEqProofs (disch := omega) only [go_sem]; exact hkS _) (by omega) (by omega)) ?_
        simp -implicitDefEqProofs (disch := omega) only [go_sem, setO_twice]
        exact inv_drop 1 (by decide) (i + 1, freeE x.fArgs[i] bound o) (by simp only; omega) rfl rfl refs rfl ⟨by simp only; omega, by simp only; omega, p3⟩
    have hi : i = x.fArgs.length := by omega
    rw [hi, List.drop_length] at p2 p3
    rw [MExpr.cnts] at p2
    rw [freeL] at p3
    rw [← p3] at fin
    clear p3 refs
    refine loop_at (ι := Nat × List (List UInt8)) Tryz.checked.mixed rfl [1, 2, 3, 9] (fun y => [.c (.d (.sl (bound.map encS))), .c (.tsl (1 + l, j) (y.2.map encS)), .c (.ptr (0, 0) 0), .c (.d (.i .i64 y.1))]) (fun y => [.box (x.enc.map .d)] :: setO S (l, j) (.tok 1 (y.2.map encS)))
      (fun y => y.1 ≤ x.fArms.length ∧ y.2.length + MArm.cnts (x.fArms.drop y.1) ≤ 1073741824 ∧ freeR (x.fArms.drop y.1) bound y.2 = freeE x bound out) (fun y => x.fArms.length - y.1) (0, o) rfl ?_ ⟨Nat.zero_le _, by simp only [List.drop_zero]; omega, fin.symm⟩ ?_
    · simp -implicitDefEqProofs (disch := omega) only [go_sem]
    clear p1 p2 fin hal
    rintro ⟨i, o⟩ ⟨p1, p2, p3⟩
    have refs : ∀ a b, tmRefs 1 (zipTm [1, 2, 3, 9] [.c (.d (.sl (bound.map encS))), .c (.tsl (1 + l, j) a), .c (.ptr (0, 0) 0), .c (.d (.i .i64 b))]) = true := fun a b => by simp [tmRefs, zipTm, V.refs, C.refs, refK]; omega
    simp only at p1 p2 p3
    simp -implicitDefEqProofs (disch := omega) only [go_sem]
    with_reducible refine split2 (fun hb => ?_) (fun hb => ?_) <;> have h := hb <;> (try simp only [wf_preprocess] at h) <;> simp -implicitDefEqProofs (disch := omega) only [go_sem, hb] <;> (repeat (with_reducible refine And.intro ?_ ?_; focus first | omega | rfl | assumption | exact ⟨_, rfl, rfl⟩ | (simp; omega) | (simp; done)))
    · have hi : i < x.fArms.length := by omega
      have hs := List.sizeOf_lt_of_mem (List.getElem_mem hi)
      have hs' := MArm.lt_Body x.fArms[i]
      have hz := MExpr.arm_sz hi
      have hz' := MArm.sz_vars x.fArms[i]
      rw [freeR_drop hi, freeM_eq] at p3
      rw [MArm.cnts_drop hi] at p2
      have hlo := freeE_len x.fArms[i].fBody (bound ++ x.fArms[i].fVars) o
      refine ⟨encS_len, ⟨_, rfl, rfl⟩, fun y hy => (by cases hy), by omega, ⟨by omega, hi⟩, encS_len, ⟨_, rfl, rfl⟩, by omega, ?_⟩
      rw [← List.map_append]
      refine call_m [true, false, true] rfl (ih x.fArms[i].fBody (by omega) (by omega) (bound ++ x.fArms[i].fVars) o (1 + l) j _ (by simp -implicitDefEqProofs (disch := omega) only [go_sem]; exact hkS _) (by omega) (by simp only [List.length_append]; omega)) ?_
      simp -implicitDefEqProofs (disch := omega) only [go_sem, setO_twice]
      exact inv_drop 1 (by decide) (i + 1, freeE x.fArms[i].fBody (bound ++ x.fArms[i].fVars) o) (by simp only; omega) rfl rfl (refs _ _) rfl ⟨by simp only; omega, by simp only; omega, p3⟩
    · have hi : i = x.fArms.length := by omega
      rw [hi, List.drop_length, freeR] at p3
      rw [← p3]
      exact ⟨rfl, rfl⟩
theorem specFreeVars_ok (x : MExpr) (hsz : x.sz ≤ 4194304) : PCall Tryz.prog 253 [x.v] (.c (.d (.sl ((freeE x [] []).map encS)))) := fun S => by
  have hc := MExpr.cnt_le x
  have h0 : ∀ S, ACall Tryz.prog 306 [x.v, .c (.d (.sl [])), .c (.fsl [])] S (fun r S' => r = .c (.d (.sl ((freeE x [] []).map encS))) ∧ S' = S) := fun S => by
    refine ACall.tok0 2 (es := []) (esz := 1) rfl (by simp) (specFree_all _ x (Nat.lt_succ_self _) hsz [] [] 0 0 ([.tok 1 []] :: S) rfl (by simp; omega) (by simp; omega)) ?_
    rintro r fr S' ⟨rfl, h2⟩
    injection h2 with h2 h3
    exact ⟨_, rfl, rfl, h3⟩
  refine acall_cw (rs := [.tmp 2]) Tryz.checked.mixed Tryz.func253 Tryz.ntmps253 rfl rfl rfl rfl rfl ?_
  simp -implicitDefEqProofs (disch := omega) only [go_sem]
  (repeat (with_reducible refine And.intro ?_ ?_; focus first | omega | rfl | assumption | exact ⟨_, rfl, rfl⟩ | (simp; omega) | (simp; done)))
  refine call_m [true, false, true] rfl (h0 _) ?_
  simp -implicitDefEqProofs (disch := omega) only [go_sem]
end Go.Proofs.YtokcpelkieeddaaGreatDoor

namespace Go.Proofs.YtokcpelkieeddaaGreatDoor
open Go Go.Ab
end Go.Proofs.YtokcpelkieeddaaGreatDoor

namespace Go.Ab
theorem MExpr.bounds_g {x : MExpr} (h : x.sz ≤ 4194304) : x.fTrait.length ≤ 4194304 ∧ x.fName.length ≤ 4194304 ∧ x.fType.sz ≤ 4194304 ∧ x.fArgs.length ≤ 4194304 ∧ x.fArms.length ≤ 4194304 := by
  simp only [MExpr.sz, MExpr.enc_eq, szRow, szRow_append, D.sz, List.length_map, MType.sz_def] at h
  omega
theorem MArm.bounds_g {x : MArm} (h : x.sz ≤ 4194304) : x.fConstructor.length ≤ 4194304 ∧ x.fVars.length ≤ 4194304 ∧ x.fBody.sz ≤ 4194304 := by
  simp only [MArm.sz, MArm.enc_eq, szRow, szRow_append, D.sz, List.length_map, MExpr.sz_def] at h
  omega
end Go.Ab
namespace Go.Proofs.YtokcpelkieeddaaGreatDoor
open Go Go.Ab
end Go.Proofs.YtokcpelkieeddaaGreatDoor

namespace Go.Proofs.YtokcpelkieeddaaGreatDoor
open Go Go.Ab
theorem specCountV_all : ∀ n : Nat, ∀ t : MType, SizeOf.sizeOf t < n → t.sz ≤ 4194304 → ∀ v : List UInt8, PCall Tryz.prog 269 [t.v, .c (.d (.s v))] (.c (.d (.i .i64 (countV v t))))
  | 0 => fun t h => by omega
  | n + 1 => by
    have ih := specCountV_all n
    intro t hn hsz v S
    have lArgs := MType.lt_Args t
    have hts := ty_szT hsz
    have hcl := countV_le v t
    have hcn := cnt_le t
    have he := countV_eq v t
    refine acall_cw (rs := [.tmp 4]) Tryz.checked.mixed Tryz.func269 Tryz.ntmps269 rfl rfl rfl rfl rfl ?_
    simp -implicitDefEqProofs (disch := omega) only [go_sem]
    repeat' (first | (with_reducible refine split2 (fun hb => ?_) (fun hb => ?_) <;> have h := hb <;> (try simp only [wf_preprocess] at h) <;> simp -implicitDefEqProofs (disch := omega) only [go_sem, hb] <;> (repeat (with_reducible refine And.intro ?_ ?_; focus first | omega | rfl | assumption | exact ⟨_, rfl, rfl⟩ | (simp; omega) | (simp; done)))))
    all_goals first
      | (have hc : countV v t = 1 + countVL v t.fArgs := by rw [he, if_pos (by simp only [isV, decide_eq_true_eq]; exact ⟨by assumption, by assumption⟩)])
      | (have hc : countV v t = 0 + countVL v t.fArgs := by rw [he, if_neg (by simp only [isV, decide_eq_true_eq]; exact fun x => by have := x.1; have := x.2; contradiction)])
    all_goals
      refine loop_at (ι := Nat × Nat) Tryz.checked.mixed rfl [1, 2, 5, 6] (fun y => [.c (.d (.s v)), .c (.ptr (0, 0) 0), .c (.d (.i .i64 y.2)), .c (.d (.i .i64 y.1))]) (fun _ => [.box [.d (.i .i64 t.fKind), .d (.s t.fName), .d (.sl (t.fArgs.map MType.enc))]] :: S)
        (fun y => y.1 ≤ t.fArgs.length ∧ countV v t = y.2 + countVL v (t.fArgs.drop y.1)) (fun y => t.fArgs.length - y.1) (0, _) rfl rfl ⟨Nat.zero_le _, hc⟩ ?_
      rintro ⟨i, c⟩ ⟨p1, p2⟩
      simp only at p1 p2
      simp -implicitDefEqProofs (disch := omega) only [go_sem]
      with_reducible refine split2 (fun hb => ?_) (fun hb => ?_) <;> have h := hb <;> (try simp only [wf_preprocess] at h) <;> simp -implicitDefEqProofs (disch := omega) only [go_sem, hb] <;> (repeat (with_reducible refine And.intro ?_ ?_; focus first | omega | rfl | assumption | exact ⟨_, rfl, rfl⟩ | (simp; omega) | (simp; done)))
      · have hi : i < t.fArgs.length := by omega
        rw [countVL_drop hi] at p2
        (repeat (with_reducible refine And.intro ?_ ?_; focus first | omega | rfl | assumption | exact ⟨_, rfl, rfl⟩ | (simp; omega) | (simp; done)))
        refine call_w (ih t.fArgs[i] (by have := List.sizeOf_lt_of_mem (List.getElem_mem hi); omega) (arg_szT hi hsz).1 v) ?_
        simp -implicitDefEqProofs (disch := omega) only [go_sem] <;> (repeat (with_reducible refine And.intro ?_ ?_; focus first | omega | rfl | assumption | exact ⟨_, rfl, rfl⟩ | (simp; omega) | (simp; done)))
        rw [show (c : Int) + (countV v t.fArgs[i] : Int) = ((c + countV v t.fArgs[i] : Nat) : Int) by omega]
        exact inv_at (i + 1, c + countV v t.fArgs[i]) (by simp only; omega) rfl rfl ⟨by simp only; omega, by simp only; omega⟩
      · have hi : i = t.fArgs.length := by omega
        rw [hi, List.drop_length] at p2
        have h0 : countVL v [] = 0 := rfl
        exact int_eq (by omega)
theorem specOccurs_ok (v : List UInt8) (t : MType) (hsz : t.sz ≤ 4194304) : PCall Tryz.prog 196 [.c (.d (.s v)), t.v] (.c (.d (.b (occurs v t)))) := fun S => by
  refine acall_cw (rs := [.tmp 4]) Tryz.checked.mixed Tryz.func196 Tryz.ntmps196 rfl rfl rfl rfl rfl ?_
  simp -implicitDefEqProofs (disch := omega) only [go_sem]
  refine call_w (specCountV_all _ t (Nat.lt_succ_self _) hsz v) ?_
  simp -implicitDefEqProofs (disch := omega) only [go_sem] <;> (repeat (with_reducible refine And.intro ?_ ?_; focus first | omega | rfl | assumption | exact ⟨_, rfl, rfl⟩ | (simp; omega) | (simp; done)))
  exact bool_eq (by unfold occurs; rw [Bool.eq_iff_iff]; simp only [decide_eq_true_eq]; omega)
end Go.Proofs.YtokcpelkieeddaaGreatDoor

namespace Go.Ab
noncomputable def freeOk (vars : List (List UInt8)) (e : MExpr) : Bool := validExpr e && among (freeE e [] []) vars
noncomputable def bodyOk (vars : List (List UInt8)) (e : MExpr) : Bool := namesOk vars && freeOk vars e
noncomputable def boundOk (vars : List (List UInt8)) (b : MBound) : Bool := (validName b.fTrait && validType b.fType) && (!hasProj b.fType && among (tvars [] b.fType) vars)
noncomputable def boundsOk (vars : List (List UInt8)) (bs : List MBound) : Bool := dec (bs.length ≤ 4) && bs.all (boundOk vars)
theorem mem_szB {xs : List MBound} {t : MBound} (h : t ∈ xs) : t.sz ≤ szRows (xs.map MBound.enc) := szRows_mem (List.mem_map_of_mem h)
theorem MSignature.sum (x : MSignature) : x.fName.length + (x.fParams.length + szRows (x.fParams.map MType.enc)) + x.fResult.sz + (x.fVars.length + szRows (x.fVars.map encS)) + x.fBody.sz ≤ x.sz := by
  simp only [MSignature.sz, MSignature.enc_eq, szRow, szRow_append, D.sz, List.length_map, MType.sz_def, MExpr.sz_def]
  omega
theorem MBound.sum (x : MBound) : x.fTrait.length + x.fType.sz ≤ x.sz := by
  simp only [MBound.sz, MBound.enc_eq, szRow, szRow_append, D.sz, List.length_map, MType.sz_def]
  omega
theorem free_len (e : MExpr) (h : e.sz ≤ 4194304) : (freeE e [] []).length ≤ 1073741824 := by
  have h1 := freeE_len e [] []
  have h2 := MExpr.cnt_le e
  simp at h1
  omega
theorem tvars_len0 (t : MType) (h : t.sz ≤ 4194304) : (tvars [] t).length ≤ 1073741824 := by
  have h1 := tvars_len t []
  have h2 := _root_.Go.Ab.cnt_le t
  simp at h1
  omega
theorem typeOver_eq (vars : List (List UInt8)) (t : MType) : typeOver vars t = (validType t && among (tvars [] t) vars) := rfl
end Go.Ab
namespace Go.Proofs.YtokcpelkieeddaaGreatDoor
open Go Go.Ab
theorem isBody_ok (vars : List (List UInt8)) (e : MExpr) (hv : vars.length ≤ 1073741824) (hs : ∀ s ∈ vars, s.length ≤ 4194304) (hsz : e.sz ≤ 4194304) : PCall Tryz.prog 182 [.c (.d (.sl (vars.map encS))), e.v] (.c (.d (.b (bodyOk vars e)))) := fun S => by
  refine acall_cw (rs := [.tmp 4]) Tryz.checked.mixed Tryz.func182 Tryz.ntmps182 rfl rfl rfl rfl rfl ?_
  simp -implicitDefEqProofs (disch := omega) only [go_sem]
  refine call_w (areNames_ok vars hv hs) ?_
  simp -implicitDefEqProofs (disch := omega) only [go_sem] <;> (repeat (with_reducible refine And.intro ?_ ?_; focus first | omega | rfl | assumption | exact ⟨_, rfl, rfl⟩ | (simp; omega) | (simp; done)))
  with_reducible refine split2 (fun hb => ?_) (fun hb => ?_) <;> have h := hb <;> (try simp only [wf_preprocess] at h) <;> simp -implicitDefEqProofs (disch := omega) only [go_sem, hb] <;> (repeat (with_reducible refine And.intro ?_ ?_; focus first | omega | rfl | assumption | exact ⟨_, rfl, rfl⟩ | (simp; omega) | (simp; done)))
  · have h1 := h
    refine call_w (implValidExpr_ok e hsz) ?_
    simp -implicitDefEqProofs (disch := omega) only [go_sem] <;> (repeat (with_reducible refine And.intro ?_ ?_; focus first | omega | rfl | assumption | exact ⟨_, rfl, rfl⟩ | (simp; omega) | (simp; done)))
    with_reducible refine split2 (fun hb => ?_) (fun hb => ?_) <;> have h := hb <;> (try simp only [wf_preprocess] at h) <;> simp -implicitDefEqProofs (disch := omega) only [go_sem, hb] <;> (repeat (with_reducible refine And.intro ?_ ?_; focus first | omega | rfl | assumption | exact ⟨_, rfl, rfl⟩ | (simp; omega) | (simp; done)))
    · have h2 := h
      refine call_w (implFreeVars_ok e hsz) ?_
      simp -implicitDefEqProofs (disch := omega) only [go_sem] <;> (repeat (with_reducible refine And.intro ?_ ?_; focus first | omega | rfl | assumption | exact ⟨_, rfl, rfl⟩ | (simp; omega) | (simp; done)))
      refine call_w (areAmong_ok _ vars (free_len e hsz) hv) ?_
      simp -implicitDefEqProofs (disch := omega) only [go_sem] <;> (repeat (with_reducible refine And.intro ?_ ?_; focus first | omega | rfl | assumption | exact ⟨_, rfl, rfl⟩ | (simp; omega) | (simp; done)))
      exact bool_eq (by unfold bodyOk freeOk; rw [h1, h2]; rfl)
    · exact bool_eq (by unfold bodyOk freeOk; rw [h]; simp)
  · exact bool_eq (by unfold bodyOk; rw [h]; rfl)
theorem l13Body_ok (vars : List (List UInt8)) (e : MExpr) (hv : vars.length ≤ 1073741824) (hsz : e.sz ≤ 4194304) : PCall Tryz.prog 173 [e.v, .c (.d (.sl (vars.map encS)))] (.c (.d (.b (freeOk vars e)))) := fun S => by
  have hlen := free_len e hsz
  refine acall_cw (rs := [.tmp 4]) Tryz.checked.mixed Tryz.func173 Tryz.ntmps173 rfl rfl rfl rfl rfl ?_
  simp -implicitDefEqProofs (disch := omega) only [go_sem]
  refine call_w (specFreeVars_ok e hsz) ?_
  simp -implicitDefEqProofs (disch := omega) only [go_sem] <;> (repeat (with_reducible refine And.intro ?_ ?_; focus first | omega | rfl | assumption | exact ⟨_, rfl, rfl⟩ | (simp; omega) | (simp; done)))
  unfold freeOk
  generalize freeE e [] [] = xs at hlen ⊢
  refine loop_at (ι := Nat) Tryz.checked.mixed rfl [1, 2, 5, 6] (fun i => [.c (.d (.sl (vars.map encS))), .c (.ptr (0, 0) 0), .c (.d (.sl (xs.map encS))), .c (.d (.i .i64 i))]) (fun _ => [.box (e.enc.map .d)] :: S)
    (fun i => i ≤ xs.length ∧ among (xs.drop i) vars = among xs vars) (fun i => xs.length - i) 0 rfl ?_ ⟨Nat.zero_le _, rfl⟩ ?_
  · simp -implicitDefEqProofs (disch := omega) only [go_sem]
  rintro i ⟨p1, p2⟩
  simp -implicitDefEqProofs (disch := omega) only [go_sem, encS]
  with_reducible refine split2 (fun hb => ?_) (fun hb => ?_) <;> have h := hb <;> (try simp only [wf_preprocess] at h) <;> simp -implicitDefEqProofs (disch := omega) only [go_sem, hb, encS] <;> (repeat (with_reducible refine And.intro ?_ ?_; focus first | omega | rfl | assumption | exact ⟨_, rfl, rfl⟩ | (simp; omega) | (simp; done)))
  · have hi : i < xs.length := by omega
    rw [List.drop_eq_getElem_cons hi] at p2
    have p3 : among xs vars = (dec (xs[i] ∈ vars) && among (xs.drop (i + 1)) vars) := p2.symm
    (repeat (with_reducible refine And.intro ?_ ?_; focus first | omega | rfl | assumption | exact ⟨_, rfl, rfl⟩ | (simp; omega) | (simp; done)))
    refine call_w (l1Has_ok vars xs[i] hv) ?_
    simp -implicitDefEqProofs (disch := omega) only [go_sem] <;> (repeat (with_reducible refine And.intro ?_ ?_; focus first | omega | rfl | assumption | exact ⟨_, rfl, rfl⟩ | (simp; omega) | (simp; done)))
    with_reducible refine split2 (fun hb => ?_) (fun hb => ?_) <;> have h := hb <;> (try simp only [wf_preprocess] at h) <;> simp -implicitDefEqProofs (disch := omega) only [go_sem, hb] <;> (repeat (with_reducible refine And.intro ?_ ?_; focus first | omega | rfl | assumption | exact ⟨_, rfl, rfl⟩ | (simp; omega) | (simp; done)))
    · exact bool_eq (by rw [p3, dec_false h]; simp)
    · exact inv_at (i + 1) (by omega) rfl rfl ⟨by omega, by rw [p3, dec_true h]; rfl⟩
  · rw [List.drop_of_length_le (by omega)] at p2
    have p3 : among xs vars = true := p2.symm
    (repeat (with_reducible refine And.intro ?_ ?_; focus first | omega | rfl | assumption | exact ⟨_, rfl, rfl⟩ | (simp; omega) | (simp; done)))
    refine call_w (specValidExpr_ok e hsz) ?_
    simp -implicitDefEqProofs (disch := omega) only [go_sem] <;> (repeat (with_reducible refine And.intro ?_ ?_; focus first | omega | rfl | assumption | exact ⟨_, rfl, rfl⟩ | (simp; omega) | (simp; done)))
    exact bool_eq (by rw [p3]; simp)
theorem areBounds1_pure (vars : List (List UInt8)) (hv : vars.length ≤ 1073741824) (rest : List Ab.Obj) (S : Store) (b : MBound) (hb : b.sz ≤ 4194304) : FPure Tryz.prog 260 [((0, 0), 0)] ((.box [.d (.sl (vars.map encS))] :: rest) :: S) [b.v] (.c (.d (.b (!boundOk vars b)))) := fun F => by
  have hs := MBound.sum b
  refine acall_cw (rs := [.tmp 3]) Tryz.checked.mixed Tryz.func260 Tryz.ntmps260 rfl rfl rfl rfl rfl ?_
  simp -implicitDefEqProofs (disch := omega) only [go_sem]
  refine call_w (implValidBound_ok b (by omega) (by omega)) ?_
  simp -implicitDefEqProofs (disch := omega) only [go_sem] <;> (repeat (with_reducible refine And.intro ?_ ?_; focus first | omega | rfl | assumption | exact ⟨_, rfl, rfl⟩ | (simp; omega) | (simp; done)))
  with_reducible refine split2 (fun hb => ?_) (fun hb => ?_) <;> have h := hb <;> (try simp only [wf_preprocess] at h) <;> simp -implicitDefEqProofs (disch := omega) only [go_sem, hb] <;> (repeat (with_reducible refine And.intro ?_ ?_; focus first | omega | rfl | assumption | exact ⟨_, rfl, rfl⟩ | (simp; omega) | (simp; done)))
  · exact bool_eq (by unfold boundOk; rw [h]; rfl)
  have h1 := h
  (repeat (with_reducible refine And.intro ?_ ?_; focus first | omega | rfl | assumption | exact ⟨_, rfl, rfl⟩ | (simp; omega) | (simp; done)))
  refine call_w (implHasProj_ok b.fType (by omega)) ?_
  simp -implicitDefEqProofs (disch := omega) only [go_sem] <;> (repeat (with_reducible refine And.intro ?_ ?_; focus first | omega | rfl | assumption | exact ⟨_, rfl, rfl⟩ | (simp; omega) | (simp; done)))
  with_reducible refine split2 (fun hb => ?_) (fun hb => ?_) <;> have h := hb <;> (try simp only [wf_preprocess] at h) <;> simp -implicitDefEqProofs (disch := omega) only [go_sem, hb] <;> (repeat (with_reducible refine And.intro ?_ ?_; focus first | omega | rfl | assumption | exact ⟨_, rfl, rfl⟩ | (simp; omega) | (simp; done)))
  · exact bool_eq (by unfold boundOk; rw [h]; simp)
  have h2 := h
  (repeat (with_reducible refine And.intro ?_ ?_; focus first | omega | rfl | assumption | exact ⟨_, rfl, rfl⟩ | (simp; omega) | (simp; done)))
  refine call_w (implTypeVars_ok b.fType (by omega)) ?_
  simp -implicitDefEqProofs (disch := omega) only [go_sem] <;> (repeat (with_reducible refine And.intro ?_ ?_; focus first | omega | rfl | assumption | exact ⟨_, rfl, rfl⟩ | (simp; omega) | (simp; done)))
  refine call_w (areAmong_ok _ vars (tvars_len0 _ (by omega)) hv) ?_
  simp -implicitDefEqProofs (disch := omega) only [go_sem] <;> (repeat (with_reducible refine And.intro ?_ ?_; focus first | omega | rfl | assumption | exact ⟨_, rfl, rfl⟩ | (simp; omega) | (simp; done)))
  exact bool_eq (by unfold boundOk; rw [h1, h2]; simp)
theorem areBounds_ok (bs : List MBound) (vars : List (List UInt8)) (hl : bs.length ≤ 1073741824) (hz : ∀ b ∈ bs, b.sz ≤ 4194304) (hv : vars.length ≤ 1073741824) : PCall Tryz.prog 178 [.c (.d (.sl (bs.map MBound.enc))), .c (.d (.sl (vars.map encS)))] (.c (.d (.b (boundsOk vars bs)))) := fun S => by
  have ha : (bs.any fun t => !boundOk vars t) = !bs.all (boundOk vars) := by rw [List.not_all_eq_any_not]
  refine acall_cw (rs := [.tmp 4]) Tryz.checked.mixed Tryz.func178 Tryz.ntmps178 rfl rfl rfl rfl rfl ?_
  simp -implicitDefEqProofs (disch := omega) only [go_sem]
  with_reducible refine split2 (fun hb => ?_) (fun hb => ?_) <;> have h := hb <;> (try simp only [wf_preprocess] at h) <;> simp -implicitDefEqProofs (disch := omega) only [go_sem, hb] <;> (repeat (with_reducible refine And.intro ?_ ?_; focus first | omega | rfl | assumption | exact ⟨_, rfl, rfl⟩ | (simp; omega) | (simp; done)))
  · have h1 := h
    (repeat (with_reducible refine And.intro ?_ ?_; focus first | omega | rfl | assumption | exact ⟨_, rfl, rfl⟩ | (simp; omega) | (simp; done)))
    refine call_d rfl (containsFuncBound_ok 260 [((0, 0), 0)] _ bs (fun t => !boundOk vars t) hl fun t hx => areBounds1_pure vars hv [] S t (hz t hx)) ?_
    simp -implicitDefEqProofs (disch := omega) only [go_sem]
    rw [ha]
    exact bool_eq (by unfold boundsOk; rw [dec_true (by omega)]; simp)
  · exact bool_eq (by unfold boundsOk; rw [dec_false (by omega)]; rfl)
theorem l13Where_ok (bs : List MBound) (vars : List (List UInt8)) (hl : bs.length ≤ 1073741824) (hz : ∀ b ∈ bs, b.sz ≤ 4194304) (hv : vars.length ≤ 1073741824) : PCall Tryz.prog 172 [.c (.d (.sl (bs.map MBound.enc))), .c (.d (.sl (vars.map encS)))] (.c (.d (.b (boundsOk vars bs)))) := fun S => by
  refine acall_cw (rs := [.tmp 4]) Tryz.checked.mixed Tryz.func172 Tryz.ntmps172 rfl rfl rfl rfl rfl ?_
  simp -implicitDefEqProofs (disch := omega) only [go_sem]
  refine loop_at (ι := Nat) Tryz.checked.mixed rfl [0, 1, 5] (fun i => [.c (.d (.sl (bs.map MBound.enc))), .c (.d (.sl (vars.map encS))), .c (.d (.i .i64 i))]) (fun _ => [] :: S)
    (fun i => i ≤ bs.length ∧ (bs.drop i).all (boundOk vars) = bs.all (boundOk vars)) (fun i => bs.length - i) 0 rfl rfl ⟨Nat.zero_le _, rfl⟩ ?_
  rintro i ⟨p1, p2⟩
  simp -implicitDefEqProofs (disch := omega) only [go_sem]
  with_reducible refine split2 (fun hb => ?_) (fun hb => ?_) <;> have h := hb <;> (try simp only [wf_preprocess] at h) <;> simp -implicitDefEqProofs (disch := omega) only [go_sem, hb] <;> (repeat (with_reducible refine And.intro ?_ ?_; focus first | omega | rfl | assumption | exact ⟨_, rfl, rfl⟩ | (simp; omega) | (simp; done)))
  · have hi : i < bs.length := by omega
    have hb := hz _ (List.getElem_mem hi)
    have hs := MBound.sum bs[i]
    rw [List.drop_eq_getElem_cons hi, List.all_cons] at p2
    have no : boundOk vars bs[i] = false → V.c (.d (.b false)) = V.c (.d (.b (boundsOk vars bs))) := fun h => bool_eq (by unfold boundsOk; rw [← p2, h]; simp)
    (repeat (with_reducible refine And.intro ?_ ?_; focus first | omega | rfl | assumption | exact ⟨_, rfl, rfl⟩ | (simp; omega) | (simp; done)))
    refine call_w (specValidBound_ok bs[i] (by omega) (by omega)) ?_
    simp -implicitDefEqProofs (disch := omega) only [go_sem] <;> (repeat (with_reducible refine And.intro ?_ ?_; focus first | omega | rfl | assumption | exact ⟨_, rfl, rfl⟩ | (simp; omega) | (simp; done)))
    with_reducible refine split2 (fun hb => ?_) (fun hb => ?_) <;> have h := hb <;> (try simp only [wf_preprocess] at h) <;> simp -implicitDefEqProofs (disch := omega) only [go_sem, hb] <;> (repeat (with_reducible refine And.intro ?_ ?_; focus first | omega | rfl | assumption | exact ⟨_, rfl, rfl⟩ | (simp; omega) | (simp; done)))
    · exact no (by unfold boundOk; rw [h]; rfl)
    have h1 := h
    (repeat (with_reducible refine And.intro ?_ ?_; focus first | omega | rfl | assumption | exact ⟨_, rfl, rfl⟩ | (simp; omega) | (simp; done)))
    refine call_w (l13Vars_ok bs[i].fType vars (by omega) hv) ?_
    simp -implicitDefEqProofs (disch := omega) only [go_sem] <;> (repeat (with_reducible refine And.intro ?_ ?_; focus first | omega | rfl | assumption | exact ⟨_, rfl, rfl⟩ | (simp; omega) | (simp; done)))
    with_reducible refine split2 (fun hb => ?_) (fun hb => ?_) <;> have h := hb <;> (try simp only [wf_preprocess] at h) <;> simp -implicitDefEqProofs (disch := omega) only [go_sem, hb] <;> (repeat (with_reducible refine And.intro ?_ ?_; focus first | omega | rfl | assumption | exact ⟨_, rfl, rfl⟩ | (simp; omega) | (simp; done)))
    · exact no (by unfold boundOk; rw [typeOver_eq] at h; rw [Bool.and_eq_true] at h1; rw [h1.2, Bool.true_and] at h; rw [h]; simp)
    have h2 := h
    (repeat (with_reducible refine And.intro ?_ ?_; focus first | omega | rfl | assumption | exact ⟨_, rfl, rfl⟩ | (simp; omega) | (simp; done)))
    refine call_w (specHasProj_ok bs[i].fType (by omega)) ?_
    simp -implicitDefEqProofs (disch := omega) only [go_sem] <;> (repeat (with_reducible refine And.intro ?_ ?_; focus first | omega | rfl | assumption | exact ⟨_, rfl, rfl⟩ | (simp; omega) | (simp; done)))
    with_reducible refine split2 (fun hb => ?_) (fun hb => ?_) <;> have h := hb <;> (try simp only [wf_preprocess] at h) <;> simp -implicitDefEqProofs (disch := omega) only [go_sem, hb] <;> (repeat (with_reducible refine And.intro ?_ ?_; focus first | omega | rfl | assumption | exact ⟨_, rfl, rfl⟩ | (simp; omega) | (simp; done)))
    · exact no (by unfold boundOk; rw [h]; simp)
    have h3 := h
    rw [typeOver_eq, Bool.and_eq_true] at h2
    exact inv_at (i + 1) (by omega) rfl rfl ⟨by omega, by rw [← p2]; unfold boundOk; rw [h1, h2.2, h3]; rfl⟩
  · rw [List.drop_of_length_le (by omega)] at p2
    exact bool_eq (by unfold boundsOk; rw [← p2, decide_dec]; simp only [List.all_nil, Bool.and_true]; exact dec_congr ⟨fun h => by omega, fun h => by omega⟩)
end Go.Proofs.YtokcpelkieeddaaGreatDoor

namespace Go.Proofs.YtokcpelkieeddaaGreatDoor
open Go Go.Ab
theorem szMethod_ok (x : MMethod) : ∀ left : Int, 0 ≤ left → left ≤ 1048576 → FitL x.enc → PCall Tryz.prog 194 [x.v, .c (.d (.i .i64 left))] (.c (.d (.i .i64 (sub1 left x.sz)))) := by
  intro left h0 h1 hf S
  simp only [MMethod.enc_eq, List.cons_append, List.nil_append, fitL_cons, fitL_append, fitL_nil_iff, and_true] at hf
  obtain ⟨fName, fVars, fBody⟩ := hf
  have hz : x.sz = x.fName.length + ((x.fVars.length + szRows (x.fVars.map encS)) + (x.fBody.sz)) := by
    simp only [MMethod.sz, MMethod.enc_eq, szRow, szRow_append, D.sz, List.length_map, Nat.add_zero, Nat.zero_add, MExpr.sz_def] <;> omega
  refine acall_cw (rs := [.tmp 4]) Tryz.checked.mixed Tryz.func194 Tryz.ntmps194 rfl rfl rfl rfl rfl ?_
  rw [hz]
  have gName := fit_s fName
  simp -implicitDefEqProofs (disch := omega) only [go_sem]
  with_reducible refine split2 (fun hb => ?_) (fun hb => ?_) <;> have h := hb <;> (try simp only [wf_preprocess] at h) <;> simp -implicitDefEqProofs (disch := omega) only [go_sem, hb] <;> (repeat (with_reducible refine And.intro ?_ ?_; focus first | omega | rfl | assumption | exact ⟨_, rfl, rfl⟩ | (simp; omega) | (simp; done)))
  · exact int_eq (sub1_no (by omega)).symm
  refine call_w (szStringS_ok x.fVars _ (by omega) (by omega) fVars) ?_
  simp -implicitDefEqProofs (disch := omega) only [go_sem]
  with_reducible refine split2 (fun hb => ?_) (fun hb => ?_) <;> have h := hb <;> (try simp only [wf_preprocess] at h) <;> simp -implicitDefEqProofs (disch := omega) only [go_sem, hb] <;> (repeat (with_reducible refine And.intro ?_ ?_; focus first | omega | rfl | assumption | exact ⟨_, rfl, rfl⟩ | (simp; omega) | (simp; done)))
  · have h' := sub1_neg h
    exact int_eq (sub1_no (by omega)).symm
  have hVars := sub1_nn h
  simp only [hVars.1]
  refine call_w (szExpr_ok x.fBody _ (by omega) (by omega) fBody) ?_
  simp -implicitDefEqProofs (disch := omega) only [go_sem]
  with_reducible refine split2 (fun hb => ?_) (fun hb => ?_) <;> have h := hb <;> (try simp only [wf_preprocess] at h) <;> simp -implicitDefEqProofs (disch := omega) only [go_sem, hb] <;> (repeat (with_reducible refine And.intro ?_ ?_; focus first | omega | rfl | assumption | exact ⟨_, rfl, rfl⟩ | (simp; omega) | (simp; done)))
  · have h' := sub1_neg h
    exact int_eq (sub1_no (by omega)).symm
  have hBody := sub1_nn h
  simp only [hBody.1]
  refine int_eq ?_
  rw [sub1_yes (by omega)]
  omega
theorem szMethodS_ok (xs : List MMethod) : ∀ left : Int, 0 ≤ left → left ≤ 1048576 → (D.sl (xs.map MMethod.enc)).Fit → PCall Tryz.prog 103 [.c (.d (.sl (xs.map MMethod.enc))), .c (.d (.i .i64 left))] (.c (.d (.i .i64 (sub1 left (xs.length + szRows (xs.map MMethod.enc)))))) := by
  intro left h0 h1 hf S
  obtain ⟨hf1, hf2⟩ := fit_sl hf
  rw [List.length_map] at hf1
  refine acall_cw (rs := [.tmp 4]) Tryz.checked.mixed Tryz.func103 Tryz.ntmps103 rfl rfl rfl rfl rfl ?_
  simp -implicitDefEqProofs (disch := omega) only [go_sem]
  with_reducible refine split2 (fun hb => ?_) (fun hb => ?_) <;> have h := hb <;> (try simp only [wf_preprocess] at h) <;> simp -implicitDefEqProofs (disch := omega) only [go_sem, hb] <;> (repeat (with_reducible refine And.intro ?_ ?_; focus first | omega | rfl | assumption | exact ⟨_, rfl, rfl⟩ | (simp; omega) | (simp; done)))
  · exact int_eq (sub1_no (by omega)).symm
  refine loop_at (ι := Nat × Int) Tryz.checked.mixed rfl [0, 1, 5] (fun y => [.c (.d (.sl (xs.map MMethod.enc))), .c (.d (.i .i64 y.2)), .c (.d (.i .i64 y.1))]) (fun _ => [] :: S)
    (fun y => y.1 ≤ xs.length ∧ 0 ≤ y.2 ∧ y.2 ≤ 1048576 ∧ sub1 y.2 (szRows ((xs.map MMethod.enc).drop y.1)) = sub1 left (xs.length + szRows (xs.map MMethod.enc))) (fun y => xs.length - y.1) (0, left - xs.length) rfl rfl ⟨by omega, by omega, by omega, ?_⟩ ?_
  · unfold sub1
    rw [List.drop_zero]
    split <;> split <;> omega
  rintro ⟨i, l⟩ ⟨p1, p2, p3, p4⟩
  simp only at p1 p2 p3 p4
  simp -implicitDefEqProofs (disch := omega) only [go_sem]
  with_reducible refine split2 (fun hb => ?_) (fun hb => ?_) <;> have h := hb <;> (try simp only [wf_preprocess] at h) <;> simp -implicitDefEqProofs (disch := omega) only [go_sem, hb] <;> (repeat (with_reducible refine And.intro ?_ ?_; focus first | omega | rfl | assumption | exact ⟨_, rfl, rfl⟩ | (simp; omega) | (simp; done)))
  · have hi : i < xs.length := by omega
    rw [List.drop_eq_getElem_cons (by rw [List.length_map]; exact hi), szRows, List.getElem_map, MMethod.sz_def] at p4
    (repeat (with_reducible refine And.intro ?_ ?_; focus first | omega | rfl | assumption | exact ⟨_, rfl, rfl⟩ | (simp; omega) | (simp; done)))
    refine call_w (szMethod_ok xs[i] _ (by omega) (by omega) (hf2 _ (List.mem_map_of_mem (List.getElem_mem hi)))) ?_
    simp -implicitDefEqProofs (disch := omega) only [go_sem]
    with_reducible refine split2 (fun hb => ?_) (fun hb => ?_) <;> have h := hb <;> (try simp only [wf_preprocess] at h) <;> simp -implicitDefEqProofs (disch := omega) only [go_sem, hb] <;> (repeat (with_reducible refine And.intro ?_ ?_; focus first | omega | rfl | assumption | exact ⟨_, rfl, rfl⟩ | (simp; omega) | (simp; done)))
    · have h' := sub1_neg h
      rw [← p4, sub1_no (by omega)]
    · have h' := sub1_nn h
      refine inv_at (i + 1, sub1 l _) (by simp only; omega) rfl rfl ⟨by simp only; omega, by simp only; omega, by simp only; omega, ?_⟩
      simp only
      rw [← p4, h'.1]
      unfold sub1
      split <;> split <;> omega
  · have hi : i = xs.length := by omega
    rw [hi, List.drop_of_length_le (by simp), szRows, sub1_yes (by omega)] at p4
    rw [← p4]
    refine int_eq ?_
    omega
theorem toMethod_ok (x : MMethod) : x.sz ≤ 1048576 → PCall Tryz.prog 198 [x.v] x.v := by
  intro hsz S
  simp only [MMethod.sz, MMethod.enc_eq, szRow, szRow_append, D.sz, List.length_map, MExpr.sz_def] at hsz
  refine acall_cw (rs := [.cell 2 162]) Tryz.checked.mixed Tryz.func198 Tryz.ntmps198 rfl rfl rfl rfl rfl ?_
  simp -implicitDefEqProofs (disch := omega) only [go_sem]
  refine call_w (toStringS_ok x.fVars (by omega)) ?_
  simp -implicitDefEqProofs (disch := omega) only [go_sem]
  refine call_w (toExpr_ok x.fBody (by omega)) ?_
  simp -implicitDefEqProofs (disch := omega) only [go_sem]
theorem toMethodS_ok (xs : List MMethod) : xs.length + szRows (xs.map MMethod.enc) ≤ 1048576 → PCall Tryz.prog 105 [.c (.d (.sl (xs.map MMethod.enc)))] (.c (.d (.sl (xs.map MMethod.enc)))) := by
  intro hsz S
  refine acall_cw (rs := [.tmp 2]) Tryz.checked.mixed Tryz.func105 Tryz.ntmps105 rfl rfl rfl rfl rfl ?_
  simp -implicitDefEqProofs (disch := omega) only [go_sem]
  (repeat (with_reducible refine And.intro ?_ ?_; focus first | omega | rfl | assumption | exact ⟨_, rfl, rfl⟩ | (simp; omega) | (simp; done)))
  refine loop_at (ι := Nat × List (List D)) Tryz.checked.mixed rfl [0, 3, 4] (fun y => [.c (.d (.sl (xs.map MMethod.enc))), .c (.msl (0, 0)), .c (.d (.i .i64 y.1))]) (fun y => [.mrow 11 y.2] :: S)
    (fun y => y.1 ≤ xs.length ∧ Filled 11 y.1 y.2 (xs.map MMethod.enc)) (fun y => xs.length - y.1) (0, _) rfl rfl ⟨Nat.zero_le _, Filled.start (by simp) rfl⟩ ?_
  rintro ⟨i, R⟩ ⟨p1, p2⟩
  simp only at p1 p2
  simp -implicitDefEqProofs (disch := omega) only [go_sem]
  with_reducible refine split2 (fun hb => ?_) (fun hb => ?_) <;> have h := hb <;> (try simp only [wf_preprocess] at h) <;> simp -implicitDefEqProofs (disch := omega) only [go_sem, hb] <;> (repeat (with_reducible refine And.intro ?_ ?_; focus first | omega | rfl | assumption | exact ⟨_, rfl, rfl⟩ | (simp; omega) | (simp; done)))
  · have hi : i < xs.length := by omega
    have hx : xs[i].sz ≤ szRows (xs.map MMethod.enc) := szRows_mem (List.mem_map_of_mem (List.getElem_mem hi))
    (repeat (with_reducible refine And.intro ?_ ?_; focus first | omega | rfl | assumption | exact ⟨_, rfl, rfl⟩ | (simp; omega) | (simp; done)))
    refine call_w (toMethod_ok xs[i] (by omega)) ?_
    simp -implicitDefEqProofs (disch := omega) only [go_sem]
    have hR := p2.1
    rw [List.length_map] at hR
    (repeat (with_reducible refine And.intro ?_ ?_; focus first | omega | rfl | assumption | exact ⟨_, rfl, rfl⟩ | (simp; omega) | (simp; done)))
    refine inv_at (i + 1, _) (by simp only; omega) rfl rfl ⟨by simp only; omega, p2.step (by simp [hi, MExpr.enc_eq, MMethod.enc_eq, MType.enc_eq]) rfl⟩
  · have hi : i = xs.length := by omega
    rw [p2.done (by rw [List.length_map]; omega)]
theorem eqMethod_ok (x : MMethod) : ∀ y : MMethod, x.sz ≤ 1048576 → PCall Tryz.prog 203 [x.v, y.v] (.c (.d (.b (dec (x = y))))) := by
  intro y hsz S
  simp only [MMethod.sz, MMethod.enc_eq, szRow, szRow_append, D.sz, List.length_map, MExpr.sz_def] at hsz
  refine acall_cw (rs := [.tmp 4]) Tryz.checked.mixed Tryz.func203 Tryz.ntmps203 rfl rfl rfl rfl rfl ?_
  simp -implicitDefEqProofs (disch := omega) only [go_sem]
  with_reducible refine split2 (fun hb => ?_) (fun hb => ?_) <;> have h := hb <;> (try simp only [wf_preprocess] at h) <;> simp -implicitDefEqProofs (disch := omega) only [go_sem, hb] <;> (repeat (with_reducible refine And.intro ?_ ?_; focus first | omega | rfl | assumption | exact ⟨_, rfl, rfl⟩ | (simp; omega) | (simp; done)))
  · exact bool_eq (dec_false (fun e => h (by rw [e]))).symm
  have eName := h
  clear h
  refine call_w (eqStringS_ok x.fVars _ (by omega)) ?_
  simp -implicitDefEqProofs (disch := omega) only [go_sem]
  with_reducible refine split2 (fun hb => ?_) (fun hb => ?_) <;> have h := hb <;> (try simp only [wf_preprocess] at h) <;> simp -implicitDefEqProofs (disch := omega) only [go_sem, hb] <;> (repeat (with_reducible refine And.intro ?_ ?_; focus first | omega | rfl | assumption | exact ⟨_, rfl, rfl⟩ | (simp; omega) | (simp; done)))
  · exact bool_eq (dec_false (fun e => h (by rw [e]))).symm
  have eVars := h
  clear h
  refine call_w (eqExpr_ok x.fBody _ (by omega)) ?_
  simp -implicitDefEqProofs (disch := omega) only [go_sem]
  with_reducible refine split2 (fun hb => ?_) (fun hb => ?_) <;> have h := hb <;> (try simp only [wf_preprocess] at h) <;> simp -implicitDefEqProofs (disch := omega) only [go_sem, hb] <;> (repeat (with_reducible refine And.intro ?_ ?_; focus first | omega | rfl | assumption | exact ⟨_, rfl, rfl⟩ | (simp; omega) | (simp; done)))
  · exact bool_eq (dec_false (fun e => h (by rw [e]))).symm
  have eBody := h
  clear h
  exact bool_eq (dec_true (MMethod.ext' eName eVars eBody)).symm
theorem eqMethodS_ok (xs : List MMethod) : ∀ ys : List MMethod, xs.length + szRows (xs.map MMethod.enc) ≤ 1048576 → PCall Tryz.prog 108 [.c (.d (.sl (xs.map MMethod.enc))), .c (.d (.sl (ys.map MMethod.enc)))] (.c (.d (.b (dec (xs = ys))))) := by
  intro ys hsz S
  refine acall_cw (rs := [.tmp 4]) Tryz.checked.mixed Tryz.func108 Tryz.ntmps108 rfl rfl rfl rfl rfl ?_
  simp -implicitDefEqProofs (disch := omega) only [go_sem]
  with_reducible refine split2 (fun hb => ?_) (fun hb => ?_) <;> have h := hb <;> (try simp only [wf_preprocess] at h) <;> simp -implicitDefEqProofs (disch := omega) only [go_sem, hb] <;> (repeat (with_reducible refine And.intro ?_ ?_; focus first | omega | rfl | assumption | exact ⟨_, rfl, rfl⟩ | (simp; omega) | (simp; done)))
  · exact bool_eq (dec_false (fun e => h (by rw [e]))).symm
  have hl : xs.length = ys.length := by omega
  refine loop_at (ι := Nat) Tryz.checked.mixed rfl [0, 1, 5] (fun y => [.c (.d (.sl (xs.map MMethod.enc))), .c (.d (.sl (ys.map MMethod.enc))), .c (.d (.i .i64 y))]) (fun y => [] :: S)
    (fun i => i ≤ xs.length ∧ ∀ j, j < i → xs[j]? = ys[j]?) (fun y => xs.length - y) 0 rfl rfl ⟨Nat.zero_le _, fun j h => by omega⟩ ?_
  rintro i ⟨p1, p2⟩
  simp -implicitDefEqProofs (disch := omega) only [go_sem]
  with_reducible refine split2 (fun hb => ?_) (fun hb => ?_) <;> have h := hb <;> (try simp only [wf_preprocess] at h) <;> simp -implicitDefEqProofs (disch := omega) only [go_sem, hb] <;> (repeat (with_reducible refine And.intro ?_ ?_; focus first | omega | rfl | assumption | exact ⟨_, rfl, rfl⟩ | (simp; omega) | (simp; done)))
  · have hi : i < xs.length := by omega
    have hi' : i < ys.length := by omega
    have hx : xs[i].sz ≤ szRows (xs.map MMethod.enc) := szRows_mem (List.mem_map_of_mem (List.getElem_mem hi))
    (repeat (with_reducible refine And.intro ?_ ?_; focus first | omega | rfl | assumption | exact ⟨_, rfl, rfl⟩ | (simp; omega) | (simp; done)))
    refine call_w (eqMethod_ok xs[i] ys[i] (by omega)) ?_
    simp -implicitDefEqProofs (disch := omega) only [go_sem]
    with_reducible refine split2 (fun hb => ?_) (fun hb => ?_) <;> have h := hb <;> (try simp only [wf_preprocess] at h) <;> simp -implicitDefEqProofs (disch := omega) only [go_sem, hb] <;> (repeat (with_reducible refine And.intro ?_ ?_; focus first | omega | rfl | assumption | exact ⟨_, rfl, rfl⟩ | (simp; omega) | (simp; done)))
    · exact bool_eq (dec_false (fun e => h (by simp only [e]))).symm
    refine inv_at (i + 1) (by omega) rfl rfl ⟨by omega, fun j hj => ?_⟩
    by_cases e : j = i
    · subst e
      rw [List.getElem?_eq_getElem hi, List.getElem?_eq_getElem hi', h]
    · exact p2 j (by omega)
  · have hi : i = xs.length := by omega
    refine bool_eq (dec_true (List.ext_getElem? fun j => ?_)).symm
    by_cases hj : j < i
    · exact p2 j hj
    · rw [List.getElem?_eq_none (by omega), List.getElem?_eq_none (by omega)]
end Go.Proofs.YtokcpelkieeddaaGreatDoor

namespace Go.Proofs.YtokcpelkieeddaaGreatDoor
open Go Go.Ab
theorem szInstance_ok (x : MInstance) : ∀ left : Int, 0 ≤ left → left ≤ 1048576 → FitL x.enc → PCall Tryz.prog 32 [x.v, .c (.d (.i .i64 left))] (.c (.d (.i .i64 (sub1 left x.sz)))) := by
  intro left h0 h1 hf S
  simp only [MInstance.enc_eq, List.cons_append, List.nil_append, fitL_cons, fitL_append, fitL_nil_iff, and_true] at hf
  obtain ⟨fTrait, fVars, fHead, fWhere, fDefault, fHasAssoc, fAssoc, fMethods⟩ := hf
  have hz : x.sz = x.fTrait.length + ((x.fVars.length + szRows (x.fVars.map encS)) + (x.fHead.sz + ((x.fWhere.length + szRows (x.fWhere.map MBound.enc)) + (x.fAssoc.sz + ((x.fMethods.length + szRows (x.fMethods.map MMethod.enc))))))) := by
    simp only [MInstance.sz, MInstance.enc_eq, szRow, szRow_append, D.sz, List.length_map, Nat.add_zero, Nat.zero_add, MType.sz_def] <;> omega
  refine acall_cw (rs := [.tmp 4]) Tryz.checked.mixed Tryz.func32 Tryz.ntmps32 rfl rfl rfl rfl rfl ?_
  rw [hz]
  have gTrait := fit_s fTrait
  simp -implicitDefEqProofs (disch := omega) only [go_sem]
  with_reducible refine split2 (fun hb => ?_) (fun hb => ?_) <;> have h := hb <;> (try simp only [wf_preprocess] at h) <;> simp -implicitDefEqProofs (disch := omega) only [go_sem, hb] <;> (repeat (with_reducible refine And.intro ?_ ?_; focus first | omega | rfl | assumption | exact ⟨_, rfl, rfl⟩ | (simp; omega) | (simp; done)))
  · exact int_eq (sub1_no (by omega)).symm
  refine call_w (szStringS_ok x.fVars _ (by omega) (by omega) fVars) ?_
  simp -implicitDefEqProofs (disch := omega) only [go_sem]
  with_reducible refine split2 (fun hb => ?_) (fun hb => ?_) <;> have h := hb <;> (try simp only [wf_preprocess] at h) <;> simp -implicitDefEqProofs (disch := omega) only [go_sem, hb] <;> (repeat (with_reducible refine And.intro ?_ ?_; focus first | omega | rfl | assumption | exact ⟨_, rfl, rfl⟩ | (simp; omega) | (simp; done)))
  · have h' := sub1_neg h
    exact int_eq (sub1_no (by omega)).symm
  have hVars := sub1_nn h
  simp only [hVars.1]
  refine call_w (szType_ok x.fHead _ (by omega) (by omega) fHead) ?_
  simp -implicitDefEqProofs (disch := omega) only [go_sem]
  with_reducible refine split2 (fun hb => ?_) (fun hb => ?_) <;> have h := hb <;> (try simp only [wf_preprocess] at h) <;> simp -implicitDefEqProofs (disch := omega) only [go_sem, hb] <;> (repeat (with_reducible refine And.intro ?_ ?_; focus first | omega | rfl | assumption | exact ⟨_, rfl, rfl⟩ | (simp; omega) | (simp; done)))
  · have h' := sub1_neg h
    exact int_eq (sub1_no (by omega)).symm
  have hHead := sub1_nn h
  simp only [hHead.1]
  refine call_w (szBoundS_ok x.fWhere _ (by omega) (by omega) fWhere) ?_
  simp -implicitDefEqProofs (disch := omega) only [go_sem]
  with_reducible refine split2 (fun hb => ?_) (fun hb => ?_) <;> have h := hb <;> (try simp only [wf_preprocess] at h) <;> simp -implicitDefEqProofs (disch := omega) only [go_sem, hb] <;> (repeat (with_reducible refine And.intro ?_ ?_; focus first | omega | rfl | assumption | exact ⟨_, rfl, rfl⟩ | (simp; omega) | (simp; done)))
  · have h' := sub1_neg h
    exact int_eq (sub1_no (by omega)).symm
  have hWhere := sub1_nn h
  simp only [hWhere.1]
  refine call_w (szType_ok x.fAssoc _ (by omega) (by omega) fAssoc) ?_
  simp -implicitDefEqProofs (disch := omega) only [go_sem]
  with_reducible refine split2 (fun hb => ?_) (fun hb => ?_) <;> have h := hb <;> (try simp only [wf_preprocess] at h) <;> simp -implicitDefEqProofs (disch := omega) only [go_sem, hb] <;> (repeat (with_reducible refine And.intro ?_ ?_; focus first | omega | rfl | assumption | exact ⟨_, rfl, rfl⟩ | (simp; omega) | (simp; done)))
  · have h' := sub1_neg h
    exact int_eq (sub1_no (by omega)).symm
  have hAssoc := sub1_nn h
  simp only [hAssoc.1]
  refine call_w (szMethodS_ok x.fMethods _ (by omega) (by omega) fMethods) ?_
  simp -implicitDefEqProofs (disch := omega) only [go_sem]
  with_reducible refine split2 (fun hb => ?_) (fun hb => ?_) <;> have h := hb <;> (try simp only [wf_preprocess] at h) <;> simp -implicitDefEqProofs (disch := omega) only [go_sem, hb] <;> (repeat (with_reducible refine And.intro ?_ ?_; focus first | omega | rfl | assumption | exact ⟨_, rfl, rfl⟩ | (simp; omega) | (simp; done)))
  · have h' := sub1_neg h
    exact int_eq (sub1_no (by omega)).symm
  have hMethods := sub1_nn h
  simp only [hMethods.1]
  refine int_eq ?_
  rw [sub1_yes (by omega)]
  omega
theorem toInstance_ok (x : MInstance) : x.sz ≤ 1048576 → PCall Tryz.prog 34 [x.v] x.v := by
  intro hsz S
  simp only [MInstance.sz, MInstance.enc_eq, szRow, szRow_append, D.sz, List.length_map, MType.sz_def] at hsz
  refine acall_cw (rs := [.cell 2 81]) Tryz.checked.mixed Tryz.func34 Tryz.ntmps34 rfl rfl rfl rfl rfl ?_
  simp -implicitDefEqProofs (disch := omega) only [go_sem]
  refine call_w (toStringS_ok x.fVars (by omega)) ?_
  simp -implicitDefEqProofs (disch := omega) only [go_sem]
  refine call_w (toType_ok x.fHead (by omega)) ?_
  simp -implicitDefEqProofs (disch := omega) only [go_sem]
  refine call_w (toBoundS_ok x.fWhere (by omega)) ?_
  simp -implicitDefEqProofs (disch := omega) only [go_sem]
  refine call_w (toType_ok x.fAssoc (by omega)) ?_
  simp -implicitDefEqProofs (disch := omega) only [go_sem]
  refine call_w (toMethodS_ok x.fMethods (by omega)) ?_
  simp -implicitDefEqProofs (disch := omega) only [go_sem]
theorem eqInstance_ok (x : MInstance) : ∀ y : MInstance, x.sz ≤ 1048576 → PCall Tryz.prog 36 [x.v, y.v] (.c (.d (.b (dec (x = y))))) := by
  intro y hsz S
  simp only [MInstance.sz, MInstance.enc_eq, szRow, szRow_append, D.sz, List.length_map, MType.sz_def] at hsz
  refine acall_cw (rs := [.tmp 4]) Tryz.checked.mixed Tryz.func36 Tryz.ntmps36 rfl rfl rfl rfl rfl ?_
  simp -implicitDefEqProofs (disch := omega) only [go_sem]
  with_reducible refine split2 (fun hb => ?_) (fun hb => ?_) <;> have h := hb <;> (try simp only [wf_preprocess] at h) <;> simp -implicitDefEqProofs (disch := omega) only [go_sem, hb] <;> (repeat (with_reducible refine And.intro ?_ ?_; focus first | omega | rfl | assumption | exact ⟨_, rfl, rfl⟩ | (simp; omega) | (simp; done)))
  · exact bool_eq (dec_false (fun e => h (by rw [e]))).symm
  have eTrait := h
  clear h
  refine call_w (eqStringS_ok x.fVars _ (by omega)) ?_
  simp -implicitDefEqProofs (disch := omega) only [go_sem]
  with_reducible refine split2 (fun hb => ?_) (fun hb => ?_) <;> have h := hb <;> (try simp only [wf_preprocess] at h) <;> simp -implicitDefEqProofs (disch := omega) only [go_sem, hb] <;> (repeat (with_reducible refine And.intro ?_ ?_; focus first | omega | rfl | assumption | exact ⟨_, rfl, rfl⟩ | (simp; omega) | (simp; done)))
  · exact bool_eq (dec_false (fun e => h (by rw [e]))).symm
  have eVars := h
  clear h
  refine call_w (eqType_ok x.fHead _ (by omega)) ?_
  simp -implicitDefEqProofs (disch := omega) only [go_sem]
  with_reducible refine split2 (fun hb => ?_) (fun hb => ?_) <;> have h := hb <;> (try simp only [wf_preprocess] at h) <;> simp -implicitDefEqProofs (disch := omega) only [go_sem, hb] <;> (repeat (with_reducible refine And.intro ?_ ?_; focus first | omega | rfl | assumption | exact ⟨_, rfl, rfl⟩ | (simp; omega) | (simp; done)))
  · exact bool_eq (dec_false (fun e => h (by rw [e]))).symm
  have eHead := h
  clear h
  refine call_w (eqBoundS_ok x.fWhere _ (by omega)) ?_
  simp -implicitDefEqProofs (disch := omega) only [go_sem]
  with_reducible refine split2 (fun hb => ?_) (fun hb => ?_) <;> have h := hb <;> (try simp only [wf_preprocess] at h) <;> simp -implicitDefEqProofs (disch := omega) only [go_sem, hb] <;> (repeat (with_reducible refine And.intro ?_ ?_; focus first | omega | rfl | assumption | exact ⟨_, rfl, rfl⟩ | (simp; omega) | (simp; done)))
  · exact bool_eq (dec_false (fun e => h (by rw [e]))).symm
  have eWhere := h
  clear h
  with_reducible refine split2 (fun hb => ?_) (fun hb => ?_) <;> have h := hb <;> (try simp only [wf_preprocess] at h) <;> simp -implicitDefEqProofs (disch := omega) only [go_sem, hb] <;> (repeat (with_reducible refine And.intro ?_ ?_; focus first | omega | rfl | assumption | exact ⟨_, rfl, rfl⟩ | (simp; omega) | (simp; done)))
  · exact bool_eq (dec_false (fun e => h (by rw [e]))).symm
  have eDefault := h
  clear h
  with_reducible refine split2 (fun hb => ?_) (fun hb => ?_) <;> have h := hb <;> (try simp only [wf_preprocess] at h) <;> simp -implicitDefEqProofs (disch := omega) only [go_sem, hb] <;> (repeat (with_reducible refine And.intro ?_ ?_; focus first | omega | rfl | assumption | exact ⟨_, rfl, rfl⟩ | (simp; omega) | (simp; done)))
  · exact bool_eq (dec_false (fun e => h (by rw [e]))).symm
  have eHasAssoc := h
  clear h
  refine call_w (eqType_ok x.fAssoc _ (by omega)) ?_
  simp -implicitDefEqProofs (disch := omega) only [go_sem]
  with_reducible refine split2 (fun hb => ?_) (fun hb => ?_) <;> have h := hb <;> (try simp only [wf_preprocess] at h) <;> simp -implicitDefEqProofs (disch := omega) only [go_sem, hb] <;> (repeat (with_reducible refine And.intro ?_ ?_; focus first | omega | rfl | assumption | exact ⟨_, rfl, rfl⟩ | (simp; omega) | (simp; done)))
  · exact bool_eq (dec_false (fun e => h (by rw [e]))).symm
  have eAssoc := h
  clear h
  refine call_w (eqMethodS_ok x.fMethods _ (by omega)) ?_
  simp -implicitDefEqProofs (disch := omega) only [go_sem]
  with_reducible refine split2 (fun hb => ?_) (fun hb => ?_) <;> have h := hb <;> (try simp only [wf_preprocess] at h) <;> simp -implicitDefEqProofs (disch := omega) only [go_sem, hb] <;> (repeat (with_reducible refine And.intro ?_ ?_; focus first | omega | rfl | assumption | exact ⟨_, rfl, rfl⟩ | (simp; omega) | (simp; done)))
  · exact bool_eq (dec_false (fun e => h (by rw [e]))).symm
  have eMethods := h
  clear h
  exact bool_eq (dec_true (MInstance.ext' eTrait eVars eHead eWhere eDefault eHasAssoc eAssoc eMethods)).symm
end Go.Proofs.YtokcpelkieeddaaGreatDoor

namespace Go.Proofs.YtokcpelkieeddaaGreatDoor
open Go Go.Ab
end Go.Proofs.YtokcpelkieeddaaGreatDoor

namespace Go.Proofs.YtokcpelkieeddaaGreatDoor
open Go Go.Ab
end Go.Proofs.YtokcpelkieeddaaGreatDoor

namespace Go.Ab
theorem MFunction.sum (x : MFunction) : x.fName.length + (x.fVars.length + szRows (x.fVars.map encS)) + (x.fWhere.length + szRows (x.fWhere.map MBound.enc)) + (x.fParams.length + szRows (x.fParams.map MParam.enc)) + x.fResult.sz + x.fBody.sz ≤ x.sz := by
  simp only [MFunction.sz, MFunction.enc_eq, szRow, szRow_append, D.sz, List.length_map, MType.sz_def, MExpr.sz_def]
  omega
theorem MParam.sum (x : MParam) : x.fName.length + x.fType.sz ≤ x.sz := by
  simp only [MParam.sz, MParam.enc_eq, szRow, szRow_append, D.sz, List.length_map, MType.sz_def]
  omega
end Go.Ab
namespace Go.Proofs.YtokcpelkieeddaaGreatDoor
open Go Go.Ab
end Go.Proofs.YtokcpelkieeddaaGreatDoor

namespace Go.Ab
def reseedAt (n : Nat) (s : St) : St := match s.st with
  | (.seed _ :: own) :: Ω => ⟨s.tm, (.seed n :: own) :: Ω⟩
  | _ => s
theorem reseedAt_ghost {N : Nat} (n : Nat) (s : St) : Ghost N s (reseedAt n s) := by
  obtain ⟨tm, st⟩ := s
  unfold reseedAt
  split
  · rename_i h; simp only at h; subst h; exact reseed_ghost n
  · exact Ghost.refl _ _
theorem reseedAt_mk {n m : Nat} {tm : List (Nat × V)} {own : List Obj} {Ω : Store} : reseedAt n ⟨tm, (.seed m :: own) :: Ω⟩ = ⟨tm, (.seed n :: own) :: Ω⟩ := rfl
def sealN (j p n : Nat) (s : St) : St := reseedAt n (labAt j p s)
attribute [go_sem] sealN reseedAt_mk
def sxB (b : MBound) : MSExpr := listX [atomX b.fTrait, sxT b.fType]
theorem sxB_le (b : MBound) : (sxB b).sz ≤ 14 + 16 * b.sz := by
  have := sxT_le b.fType
  have := MBound.sum b
  rw [sxB, sz_list]; simp [szX, sz_atom]; omega
theorem sxBs_le : ∀ l : List MBound, szX (l.map sxB) ≤ 14 * l.length + 16 * szRows (l.map MBound.enc)
  | [] => by simp [szX]
  | c :: l => by
    have h1 := sxB_le c
    have h2 := sxBs_le l
    rw [List.map_cons, szX, List.map_cons, szRows, List.length_cons]; simp only [MBound.sz] at h1; omega
theorem validBound_formed {vars : List (List UInt8)} {bs : List MBound} (h : boundsOk vars bs = true) : ∀ b ∈ bs, formed b.fType = true := fun b hb => by
  unfold boundsOk at h
  rw [Bool.and_eq_true] at h
  have h2 := List.all_eq_true.1 h.2 b hb
  unfold boundOk at h2
  simp only [Bool.and_eq_true] at h2
  exact valid_formed h2.1.2
theorem typeOver_formed {vars : List (List UInt8)} {t : MType} (h : typeOver vars t = true) : formed t = true := by
  unfold typeOver at h
  rw [Bool.and_eq_true] at h
  exact valid_formed h.1
theorem bodyOk_ok {vars : List (List UInt8)} {e : MExpr} (h : bodyOk vars e = true) : exprOk e = true := by
  unfold bodyOk freeOk at h
  simp only [Bool.and_eq_true] at h
  exact validExpr_ok h.2.1
end Go.Ab
namespace Go.Proofs.YtokcpelkieeddaaGreatDoor
open Go Go.Ab
theorem implWhere_lab (xs : List MBound) (n : Nat) (hfo : ∀ b ∈ xs, formed b.fType = true) (hlen : xs.length ≤ 4194304) (hsz : ∀ b ∈ xs, b.sz ≤ 4194304) : PCall Tryz.prog 184 [.c (.d (.sl (xs.map MBound.enc)))] (.agg [.d (.s []), .d (.ol n (lx (xs.map sxB) (n + 1)))]) := fun S => by
  obtain ⟨L, hL⟩ : ∃ L : Nat → Nat, L = fun i => n + 1 + cntXs ((xs.map sxB).take i) := ⟨_, rfl⟩
  obtain ⟨T, hT⟩ : ∃ T : Nat → List (List D), T = fun i => lx ((xs.map sxB).take i) (n + 1) := ⟨_, rfl⟩
  have hT0 : T 0 = [] := by rw [hT]; rfl
  have hTl : ∀ i, (T i).length ≤ i := fun i => by
    rw [hT]; simp only [lx_length]
    exact List.length_take_le _ _
  have hTs : ∀ i (hi : i < xs.length), T i ++ [[.s [], .ol (L i) [[.s xs[i].fTrait, .ol (L i + 1) []], [.s (sxT xs[i].fType).fAtom, .ol (L i + 1 + 1) (lx (sxT xs[i].fType).fList (L i + 1 + 1 + 1))]]]] = T (i + 1) := fun i hi => by
    have := lx_snoc' (l := xs.map sxB) (i := i) (by rw [List.length_map]; exact hi) (n + 1)
    rw [List.getElem_map, sxB, fAtom_list, fList_list, lx_cons, lx_cons, lx_nil, labX_atom, labX_eq, cntX_atom] at this
    rw [hT, hL]; exact this
  have hTe : T xs.length = lx (xs.map sxB) (n + 1) := by
    rw [hT]; simp only
    rw [List.take_of_length_le (by simp)]
  clear hT hL
  refine acall_cwLs (n) 1 (rs := [.cell 2 32]) Tryz.checked.mixed Tryz.func184 Tryz.ntmps184 rfl rfl rfl rfl rfl ?_
  simp -implicitDefEqProofs (disch := omega) only [go_sem]
  (repeat (with_reducible refine And.intro ?_ ?_; focus first | omega | rfl | assumption | exact ⟨_, rfl, rfl⟩ | (simp; omega) | (simp; done)))
  refine aw_ltok n 3 2 [] (.inl rfl) (by simp) ?_
  refine aw_reseed (L 0) ?_
  refine loop_at (ι := Nat) Tryz.checked.mixed rfl [2, 3, 7, 8, 9] (fun i => [.c (.ptr (0, 2) 0), .c (.tsl (0, 3) (T i)), .c (.d (.sl (xs.map MBound.enc))), .c (.d (.i .i64 xs.length)), .c (.d (.i .i64 i))])
    (fun i => [.seed (L i), .seed 1, .box [.d (.s []), .fsl []], .ltok n 2 (T i)] :: S)
    (fun i => i ≤ xs.length) (fun i => xs.length - i) 0 (by rw [hT0]; rfl) (by rw [hT0]; rfl) (Nat.zero_le _) ?_
  intro i hi
  have hl := hTl i
  simp -implicitDefEqProofs (disch := omega) only [go_sem]
  with_reducible refine split2 (fun hb => ?_) (fun hb => ?_) <;> have h := hb <;> (try simp only [wf_preprocess] at h) <;> simp -implicitDefEqProofs (disch := omega) only [go_sem, hb] <;> (repeat (with_reducible refine And.intro ?_ ?_; focus first | omega | rfl | assumption | exact ⟨_, rfl, rfl⟩ | (simp; omega) | (simp; done)))
  · have hi' : i < xs.length := by omega
    have hm := List.getElem_mem hi'
    have hcz := hsz _ hm
    have hce := MBound.sum xs[i]
    have hs := hTs i hi'
    (repeat (with_reducible refine And.intro ?_ ?_; focus first | omega | rfl | assumption | exact ⟨_, rfl, rfl⟩ | (simp; omega) | (simp; done)))
    refine call_w (implAtom_lab _ (L i + 1)) ?_
    simp -implicitDefEqProofs (disch := omega) only [go_sem]
    refine call_w (implTy_lab xs[i].fType (L i + 1 + 1) (hfo _ hm) (by omega)) ?_
    simp -implicitDefEqProofs (disch := omega) only [go_sem]
    (repeat (with_reducible refine And.intro ?_ ?_; focus first | omega | rfl | assumption | exact ⟨_, rfl, rfl⟩ | (simp; omega) | (simp; done)))
    refine call_w (implList_l _ _) ?_
    simp -implicitDefEqProofs (disch := omega) only [go_sem]
    (repeat (with_reducible refine And.intro ?_ ?_; focus first | omega | rfl | assumption | exact ⟨_, rfl, rfl⟩ | (simp; omega) | (simp; done)))
    rw [hs]
    refine inv_seed (L (i + 1)) 3 (by decide) (i + 1) (by omega) rfl rfl ?_ rfl (by omega)
    simp [tmRefs, zipTm, V.refs, C.refs, refK]
  · have hi' : i = xs.length := by omega
    refine call_d rfl (implList_t 0 3 _ _) ?_
    simp -implicitDefEqProofs (disch := omega) only [go_sem]
    rw [hi', hTe]
theorem specWhere_ok (xs : List MBound) (hlen : xs.length ≤ 4194304) (hsz : ∀ b ∈ xs, b.sz ≤ 4194304) : PCall Tryz.prog 83 [.c (.d (.sl (xs.map MBound.enc)))] (.agg [.d (.s []), .d (.sl ((xs.map sxB).map MSExpr.enc))]) := fun S => by
  obtain ⟨T, hT⟩ : ∃ T : Nat → List (List D), T = fun i => ((xs.map sxB).take i).map MSExpr.enc := ⟨_, rfl⟩
  have hT0 : T 0 = [] := by rw [hT]; rfl
  have hTl : ∀ i, (T i).length ≤ i := fun i => by
    rw [hT]; simp only [List.length_map]
    exact List.length_take_le _ _
  have hTs : ∀ i (hi : i < xs.length), T i ++ [[.s [], .sl [[.s xs[i].fTrait, .sl []], [.s (sxT xs[i].fType).fAtom, .sl ((sxT xs[i].fType).fList.map MSExpr.enc)]]]] = T (i + 1) := fun i hi => by
    have := encX_snoc (base := []) (l := xs.map sxB) (i := i) (by rw [List.length_map]; exact hi)
    rw [List.getElem_map, sxB, fAtom_list, fList_list, List.map_cons, List.map_cons, List.map_nil, enc_atom, MSExpr.enc_eq (sxT xs[i].fType)] at this
    rw [hT]; exact this
  have hTe : T xs.length = (xs.map sxB).map MSExpr.enc := by
    rw [hT]; simp only
    rw [List.take_of_length_le (by simp)]
  clear hT
  refine acall_cw (rs := [.cell 2 32]) Tryz.checked.mixed Tryz.func83 Tryz.ntmps83 rfl rfl rfl rfl rfl ?_
  simp -implicitDefEqProofs (disch := omega) only [go_sem]
  refine aw_tokbox 1 1 2 [] [.d (.s []), .fsl []] rfl rfl (by simp) ?_
  refine loop_at (ι := Nat) Tryz.checked.mixed rfl [0, 2, 3, 4] (fun i => [.c (.d (.sl (xs.map MBound.enc))), .c (.ptr (0, 0) 0), .c (.ptr (0, 1) 0), .c (.d (.i .i64 i))])
    (fun i => [.box [.d (.s []), .fsl []], .box [.d (.s []), .tsl (0, 2) (T i)], .tok 2 (T i)] :: S)
    (fun i => i ≤ xs.length) (fun i => xs.length - i) 0 rfl (by rw [hT0]; rfl) (Nat.zero_le _) ?_
  intro i hi
  have hl := hTl i
  simp -implicitDefEqProofs (disch := omega) only [go_sem]
  with_reducible refine split2 (fun hb => ?_) (fun hb => ?_) <;> have h := hb <;> (try simp only [wf_preprocess] at h) <;> simp -implicitDefEqProofs (disch := omega) only [go_sem, hb] <;> (repeat (with_reducible refine And.intro ?_ ?_; focus first | omega | rfl | assumption | exact ⟨_, rfl, rfl⟩ | (simp; omega) | (simp; done)))
  · have hi' : i < xs.length := by omega
    have hm := List.getElem_mem hi'
    have hcz := hsz _ hm
    have hce := MBound.sum xs[i]
    have hs := hTs i hi'
    (repeat (with_reducible refine And.intro ?_ ?_; focus first | omega | rfl | assumption | exact ⟨_, rfl, rfl⟩ | (simp; omega) | (simp; done)))
    refine call_w (specAtom_ok _) ?_
    simp -implicitDefEqProofs (disch := omega) only [go_sem]
    (repeat (with_reducible refine And.intro ?_ ?_; focus first | omega | rfl | assumption | exact ⟨_, rfl, rfl⟩ | (simp; omega) | (simp; done)))
    refine call_w (specTy_ok xs[i].fType (by omega)) ?_
    simp -implicitDefEqProofs (disch := omega) only [go_sem]
    (repeat (with_reducible refine And.intro ?_ ?_; focus first | omega | rfl | assumption | exact ⟨_, rfl, rfl⟩ | (simp; omega) | (simp; done)))
    refine call_w (specList_ok _ (by simp) (by simp)) ?_
    simp -implicitDefEqProofs (disch := omega) only [go_sem]
    (repeat (with_reducible refine And.intro ?_ ?_; focus first | omega | rfl | assumption | exact ⟨_, rfl, rfl⟩ | (simp; omega) | (simp; done)))
    rw [hs]
    exact inv_at (i + 1) (by omega) rfl rfl (by omega)
  · have hi' : i = xs.length := by omega
    subst hi'
    rw [hTe]
end Go.Proofs.YtokcpelkieeddaaGreatDoor

namespace Go.Ab
noncomputable def methOk (m : MMethod) : Bool := dec (1 ≤ m.fVars.length) && (dec (m.fVars.length ≤ 5) && bodyOk m.fVars m.fBody)
noncomputable def methNames (x : MInstance) : List (List UInt8) := x.fMethods.map MMethod.fName
noncomputable def headOk (x : MInstance) : Bool := validName x.fTrait && (dec (x.fVars.length ≤ 3) && (namesOk x.fVars && (typeOver x.fVars x.fHead && (!hasProj x.fHead && (dec (x.fHead.fKind = 2 ∨ x.fHead.fKind = 1) && (among x.fVars (tvars [] x.fHead) && (boundsOk x.fVars x.fWhere && ((if x.fHasAssoc = true then typeOver x.fVars x.fAssoc else dec (zeroT x.fAssoc)) && dec (x.fMethods.length ≤ 6)))))))))
noncomputable def validInst (x : MInstance) : Bool := headOk x && (x.fMethods.all methOk && namesOk (methNames x))
theorem MInstance.sum (x : MInstance) : x.fTrait.length + (x.fVars.length + szRows (x.fVars.map encS)) + x.fHead.sz + (x.fWhere.length + szRows (x.fWhere.map MBound.enc)) + x.fAssoc.sz + (x.fMethods.length + szRows (x.fMethods.map MMethod.enc)) ≤ x.sz := by
  simp only [MInstance.sz, MInstance.enc_eq, szRow, szRow_append, D.sz, List.length_map, MType.sz_def]
  omega
theorem MMethod.sum (x : MMethod) : x.fName.length + (x.fVars.length + szRows (x.fVars.map encS)) + x.fBody.sz ≤ x.sz := by
  simp only [MMethod.sz, MMethod.enc_eq, szRow, szRow_append, D.sz, List.length_map, MExpr.sz_def]
  omega
theorem mem_szM {xs : List MMethod} {t : MMethod} (h : t ∈ xs) : t.sz ≤ szRows (xs.map MMethod.enc) := szRows_mem (List.mem_map_of_mem h)
theorem mem_foldV (v : List UInt8) : ∀ (us : List MType) (out : List (List UInt8)), v ∈ us.foldl addV out ↔ v ∈ out ∨ 0 < us.countP (isV v)
  | [], out => by simp
  | u :: us, out => by
    rw [List.foldl_cons, mem_foldV v us, List.countP_cons]
    have h : v ∈ addV out u ↔ v ∈ out ∨ isV v u = true := by
      unfold addV isV
      split
      · rename_i h
        simp only [List.mem_append, List.mem_singleton]
        constructor
        · rintro (h1 | h1)
          · exact .inl h1
          · right; simp [h1, h.1]
        · rintro (h1 | h1)
          · exact .inl h1
          · right; simp at h1; exact h1.2.symm
      · rename_i h
        constructor
        · exact .inl
        · rintro (h1 | h1)
          · exact h1
          · simp at h1
            by_cases e : u.fName ∈ out
            · rw [← h1.2]; exact e
            · exact absurd ⟨h1.1, e⟩ h
    rw [h]
    cases isV v u <;> simp
theorem occurs_mem (v : List UInt8) (t : MType) : occurs v t = dec (v ∈ tvars [] t) := by
  unfold occurs tvars countV
  rw [decide_dec]
  exact dec_congr (by rw [mem_foldV]; simp)
theorem valid_kind {t : MType} (h : validType t = true) : t.fKind = 1 ∨ t.fKind = 2 ∨ t.fKind = 3 ∨ t.fKind = 4 := by
  have h1 := (of_dec h).1
  rw [formed_eq, Bool.and_eq_true] at h1
  have h2 := of_dec h1.1
  omega
theorem proj_kind {t : MType} (h : hasProj t = false) : t.fKind ≠ 3 := by
  rw [hasProj_eq] at h
  intro e
  simp [e] at h
end Go.Ab
namespace Go.Proofs.YtokcpelkieeddaaGreatDoor
open Go Go.Ab
set_option maxHeartbeats 2000000 in
theorem implValidInst_ok (x : MInstance) (hsz : x.sz ≤ 4194304) : PCall Tryz.prog 106 [x.v] (.c (.d (.b (validInst x)))) := fun S => by
  have hs := MInstance.sum x
  have hV : ∀ s ∈ x.fVars, s.length ≤ 4194304 := fun s h => by have := strs_b h; omega
  have hW : ∀ b ∈ x.fWhere, b.sz ≤ 4194304 := fun b h => by have := mem_szB h; omega
  have hM : ∀ m ∈ x.fMethods, m.sz ≤ 4194304 := fun m h => by have := mem_szM h; omega
  have no : headOk x = false → V.c (.d (.b false)) = V.c (.d (.b (validInst x))) := fun h => bool_eq (by unfold validInst; rw [h]; rfl)
  refine (show Hold (headOk x = true → ?T) → _ from fun tail => ?main) ?tp
  case' main =>
    refine acall_cw (rs := [.tmp 2]) Tryz.checked.mixed Tryz.func106 Tryz.ntmps106 rfl rfl rfl rfl rfl ?_
    simp -implicitDefEqProofs (disch := omega) only [go_sem]
    repeat' (first
      | with_reducible refine split2 (fun hb => ?_) (fun hb => ?_) <;> have h := hb <;> (try simp only [wf_preprocess] at h) <;> simp -implicitDefEqProofs (disch := omega) only [go_sem, hb] <;> (repeat (with_reducible refine And.intro ?_ ?_; focus first | omega | rfl | assumption | exact ⟨_, rfl, rfl⟩ | (simp; omega) | (simp; done)))
      | ((with_reducible show CallG _ _ 176 _ _ _ _); refine call_w (implValidName_ok x.fTrait (by omega)) ?_; simp -implicitDefEqProofs (disch := omega) only [go_sem])
      | ((with_reducible show CallG _ _ 177 _ _ _ _); refine call_w (areNames_ok x.fVars (by omega) hV) ?_; simp -implicitDefEqProofs (disch := omega) only [go_sem])
      | ((with_reducible show CallG _ _ 181 _ _ _ _); refine call_w (isTypeOver_ok x.fHead x.fVars (by omega) (by omega)) ?_; simp -implicitDefEqProofs (disch := omega) only [go_sem])
      | ((with_reducible show CallG _ _ 181 _ _ _ _); refine call_w (isTypeOver_ok x.fAssoc x.fVars (by omega) (by omega)) ?_; simp -implicitDefEqProofs (disch := omega) only [go_sem])
      | ((with_reducible show CallG _ _ 199 _ _ _ _); refine call_w (implHasProj_ok x.fHead (by omega)) ?_; simp -implicitDefEqProofs (disch := omega) only [go_sem])
      | ((with_reducible show CallG _ _ 201 _ _ _ _); refine call_w (implTypeVars_ok x.fHead (by omega)) ?_; simp -implicitDefEqProofs (disch := omega) only [go_sem])
      | ((with_reducible show CallG _ _ 200 _ _ _ _); refine call_w (areAmong_ok x.fVars (tvars [] x.fHead) (by omega) (tvars_len0 _ (by omega))) ?_; simp -implicitDefEqProofs (disch := omega) only [go_sem])
      | ((with_reducible show CallG _ _ 178 _ _ _ _); refine call_w (areBounds_ok x.fWhere x.fVars (by omega) hW (by omega)) ?_; simp -implicitDefEqProofs (disch := omega) only [go_sem])
      | ((with_reducible show CallG _ _ 202 _ _ _ _); refine call_w (isZeroType_ok x.fAssoc) ?_; simp -implicitDefEqProofs (disch := omega) only [go_sem])
      | (refine no ?_; unfold headOk; grind [of_dec, of_dec_false, dec_true, dec_false]))
    all_goals
      have hh : headOk x = true := by unfold headOk; grind [of_dec, of_dec_false, dec_true, dec_false]
      (repeat (with_reducible refine And.intro ?_ ?_; focus first | omega | rfl | assumption | exact ⟨_, rfl, rfl⟩ | (simp; omega) | (simp; done)))
      refine aw_tok 3 1 [] rfl (by simp) ?_
      refine aw_canon (st' := [.box (x.enc.map .d), .tok 1 []] :: S) [3, 91, 92, 93] [.c (.tsl (0, 1) []), .c (.d (.sl (x.fMethods.map MMethod.enc))), .c (.d (.i .i64 x.fMethods.length)), .c (.d (.i .i64 0))] ?_ ?_ ?_
      · rfl
      · first | (simp -implicitDefEqProofs (disch := omega) only [go_sem]; done) | (simp -implicitDefEqProofs (disch := omega) only [go_sem]; simp [*])
      · exact tail.out hh
  refine ⟨fun hh => ?_⟩
  have bad : ∀ i, ∀ hi : i < x.fMethods.length, methOk x.fMethods[i] = false → V.c (.d (.b false)) = V.c (.d (.b (validInst x))) := fun i hi h => by
    have : x.fMethods.all methOk = false := Bool.eq_false_iff.2 fun hx => by
      rw [List.all_eq_true.1 hx _ (List.getElem_mem hi)] at h; cases h
    unfold validInst
    rw [this]; simp
  refine loop_at (ι := Nat × List (List UInt8)) Tryz.checked.mixed rfl [3, 91, 92, 93] (fun y => [.c (.tsl (0, 1) (y.2.map encS)), .c (.d (.sl (x.fMethods.map MMethod.enc))), .c (.d (.i .i64 x.fMethods.length)), .c (.d (.i .i64 y.1))]) (fun y => [.box (x.enc.map .d), .tok 1 (y.2.map encS)] :: S)
    (fun y => y.1 ≤ x.fMethods.length ∧ y.2 = (methNames x).take y.1 ∧ ∀ j, ∀ hj : j < x.fMethods.length, j < y.1 → methOk x.fMethods[j] = true) (fun y => x.fMethods.length - y.1) (0, []) rfl ?_ ⟨Nat.zero_le _, rfl, fun j _ h => by simp only at h; omega⟩ ?_
  · simp -implicitDefEqProofs (disch := omega) only [go_sem]
  rintro ⟨i, names⟩ ⟨p1, p2, p3⟩
  simp only at p1 p2 p3
  have pl : names.length ≤ x.fMethods.length := by rw [p2]; simp [methNames]; omega
  simp -implicitDefEqProofs (disch := omega) only [go_sem]
  with_reducible refine split2 (fun hb => ?_) (fun hb => ?_) <;> have h := hb <;> (try simp only [wf_preprocess] at h) <;> simp -implicitDefEqProofs (disch := omega) only [go_sem, hb] <;> (repeat (with_reducible refine And.intro ?_ ?_; focus first | omega | rfl | assumption | exact ⟨_, rfl, rfl⟩ | (simp; omega) | (simp; done)))
  · have hi : i < x.fMethods.length := by omega
    have hm := hM _ (List.getElem_mem hi)
    have hms := MMethod.sum x.fMethods[i]
    have hmv : ∀ s ∈ x.fMethods[i].fVars, s.length ≤ 4194304 := fun s h => by have := strs_b h; omega
    (repeat (with_reducible refine And.intro ?_ ?_; focus first | omega | rfl | assumption | exact ⟨_, rfl, rfl⟩ | (simp; omega) | (simp; done)))
    with_reducible refine split2 (fun hb => ?_) (fun hb => ?_) <;> have h := hb <;> (try simp only [wf_preprocess] at h) <;> simp -implicitDefEqProofs (disch := omega) only [go_sem, hb] <;> (repeat (with_reducible refine And.intro ?_ ?_; focus first | omega | rfl | assumption | exact ⟨_, rfl, rfl⟩ | (simp; omega) | (simp; done)))
    · exact bad i hi (by unfold methOk; rw [dec_false (by omega)]; rfl)
    (repeat (with_reducible refine And.intro ?_ ?_; focus first | omega | rfl | assumption | exact ⟨_, rfl, rfl⟩ | (simp; omega) | (simp; done)))
    with_reducible refine split2 (fun hb => ?_) (fun hb => ?_) <;> have h := hb <;> (try simp only [wf_preprocess] at h) <;> simp -implicitDefEqProofs (disch := omega) only [go_sem, hb] <;> (repeat (with_reducible refine And.intro ?_ ?_; focus first | omega | rfl | assumption | exact ⟨_, rfl, rfl⟩ | (simp; omega) | (simp; done)))
    · exact bad i hi (by unfold methOk; rw [dec_false (show ¬ x.fMethods[i].fVars.length ≤ 5 by omega)]; simp)
    (repeat (with_reducible refine And.intro ?_ ?_; focus first | omega | rfl | assumption | exact ⟨_, rfl, rfl⟩ | (simp; omega) | (simp; done)))
    refine call_w (isBody_ok x.fMethods[i].fVars x.fMethods[i].fBody (by omega) hmv (by omega)) ?_
    simp -implicitDefEqProofs (disch := omega) only [go_sem] <;> (repeat (with_reducible refine And.intro ?_ ?_; focus first | omega | rfl | assumption | exact ⟨_, rfl, rfl⟩ | (simp; omega) | (simp; done)))
    with_reducible refine split2 (fun hb => ?_) (fun hb => ?_) <;> have h := hb <;> (try simp only [wf_preprocess] at h) <;> simp -implicitDefEqProofs (disch := omega) only [go_sem, hb] <;> (repeat (with_reducible refine And.intro ?_ ?_; focus first | omega | rfl | assumption | exact ⟨_, rfl, rfl⟩ | (simp; omega) | (simp; done)))
    · exact bad i hi (by unfold methOk; rw [h]; simp)
    have k2 := h
    have k3 : methOk x.fMethods[i] = true := by unfold methOk; rw [k2, dec_true (by omega), dec_true (by omega)]; rfl
    (repeat (with_reducible refine And.intro ?_ ?_; focus first | omega | rfl | assumption | exact ⟨_, rfl, rfl⟩ | (simp; omega) | (simp; done)))
    rw [show List.map encS names ++ [[D.s x.fMethods[i].fName]] = List.map encS (names ++ [x.fMethods[i].fName]) by simp [encS]]
    exact inv_drop 2 (by decide) (i + 1, names ++ [x.fMethods[i].fName]) (by simp only; omega) rfl rfl rfl rfl ⟨by simp only; omega, by simp only; rw [p2, take_snoc (by simpa [methNames] using hi)]; simp [methNames], fun j hj hji => by
      simp only at hji
      by_cases e : j = i
      · subst e; exact k3
      · exact p3 j hj (by omega)⟩
  have hi : i = x.fMethods.length := by omega
  have hn : names = methNames x := by rw [p2, List.take_of_length_le (by simp [methNames]; omega)]
  have hall : x.fMethods.all methOk = true := List.all_eq_true.2 fun c hc => by
    obtain ⟨j, hj, e⟩ := List.getElem_of_mem hc
    rw [← e]; exact p3 j hj (by omega)
  have hnl : ∀ s ∈ names, s.length ≤ 4194304 := fun s hm => by
    rw [hn] at hm
    obtain ⟨g, hg, e⟩ := List.mem_map.1 hm
    have := hM g hg
    have := MMethod.sum g
    rw [← e]; omega
  refine call_w (areNames_ok names (by omega) hnl) ?_
  simp -implicitDefEqProofs (disch := omega) only [go_sem] <;> (repeat (with_reducible refine And.intro ?_ ?_; focus first | omega | rfl | assumption | exact ⟨_, rfl, rfl⟩ | (simp; omega) | (simp; done)))
  exact bool_eq (by unfold validInst; rw [hh, hall, hn]; rfl)
set_option maxHeartbeats 2000000 in
theorem specValidInst_ok (x : MInstance) (hsz : x.sz ≤ 4194304) : PCall Tryz.prog 104 [x.v] (.c (.d (.b (validInst x)))) := fun S => by
  have hs := MInstance.sum x
  have hV : ∀ s ∈ x.fVars, s.length ≤ 4194304 := fun s h => by have := strs_b h; omega
  have hW : ∀ b ∈ x.fWhere, b.sz ≤ 4194304 := fun b h => by have := mem_szB h; omega
  have hM : ∀ m ∈ x.fMethods, m.sz ≤ 4194304 := fun m h => by have := mem_szM h; omega
  have bad : x.fMethods.all methOk = false → V.c (.d (.b false)) = V.c (.d (.b (validInst x))) := fun h => bool_eq (by unfold validInst; rw [h]; simp)
  have no : headOk x = false → V.c (.d (.b false)) = V.c (.d (.b (validInst x))) := fun h => bool_eq (by unfold validInst; rw [h]; rfl)
  have hk : typeOver x.fVars x.fHead = true → hasProj x.fHead = false → (x.fHead.fKind = 1 ∨ x.fHead.fKind = 2 ∨ x.fHead.fKind = 4) := fun h1 h2 => by
    unfold typeOver at h1
    rw [Bool.and_eq_true] at h1
    have := valid_kind h1.1
    have := proj_kind h2
    omega
  refine acall_cw (rs := [.tmp 2]) Tryz.checked.mixed Tryz.func104 Tryz.ntmps104 rfl rfl rfl rfl rfl ?_
  simp -implicitDefEqProofs (disch := omega) only [go_sem]
  repeat' (first
    | with_reducible refine split2 (fun hb => ?_) (fun hb => ?_) <;> have h := hb <;> (try simp only [wf_preprocess] at h) <;> simp -implicitDefEqProofs (disch := omega) only [go_sem, hb] <;> (repeat (with_reducible refine And.intro ?_ ?_; focus first | omega | rfl | assumption | exact ⟨_, rfl, rfl⟩ | (simp; omega) | (simp; done)))
    | ((with_reducible show CallG _ _ 170 _ _ _ _); refine call_w (specValidName_ok x.fTrait (by omega)) ?_; simp -implicitDefEqProofs (disch := omega) only [go_sem])
    | ((with_reducible show CallG _ _ 171 _ _ _ _); refine call_w (l13Words_ok x.fVars 3 (by omega) hV) ?_; simp -implicitDefEqProofs (disch := omega) only [go_sem])
    | ((with_reducible show CallG _ _ 169 _ _ _ _); refine call_w (l13Vars_ok x.fHead x.fVars (by omega) (by omega)) ?_; simp -implicitDefEqProofs (disch := omega) only [go_sem])
    | ((with_reducible show CallG _ _ 195 _ _ _ _); refine call_w (specHasProj_ok x.fHead (by omega)) ?_; simp -implicitDefEqProofs (disch := omega) only [go_sem])
    | ((with_reducible show CallG _ _ 172 _ _ _ _); refine call_w (l13Where_ok x.fWhere x.fVars (by omega) hW (by omega)) ?_; simp -implicitDefEqProofs (disch := omega) only [go_sem])
    | (refine no ?_; unfold headOk; grind [of_dec, of_dec_false, dec_true, dec_false]))
  all_goals
    have h1 : validName x.fTrait = true := by assumption
    have h2 : (dec ((x.fVars.length : Int) ≤ 3) && namesOk x.fVars) = true := by assumption
    have h3 : typeOver x.fVars x.fHead = true := by assumption
    have h4 : hasProj x.fHead = false := by assumption
    have h5 : ¬ x.fHead.fKind = 4 := by assumption
    have h6 : boundsOk x.fVars x.fWhere = true := by assumption
  have h7 := hk h3 h4
  clear hk
  rw [Bool.and_eq_true] at h2
  have h8 := of_dec h2.1
  have pre : headOk x = (among x.fVars (tvars [] x.fHead) && ((if x.fHasAssoc = true then typeOver x.fVars x.fAssoc else dec (zeroT x.fAssoc)) && dec (x.fMethods.length ≤ 6))) := by
    unfold headOk
    rw [h1, h2.2, h3, h4, h6, dec_true (show x.fVars.length ≤ 3 by omega), dec_true (show x.fHead.fKind = 2 ∨ x.fHead.fKind = 1 by omega)]
    simp
  clear h1 h2 h3 h4 h5 h6 h7 h8
  refine loop_at (ι := Nat) Tryz.checked.mixed rfl [1, 3] (fun i => [.c (.ptr (0, 0) 0), .c (.d (.i .i64 i))]) (fun _ => [.box (x.enc.map .d)] :: S)
    (fun i => i ≤ x.fVars.length ∧ among (x.fVars.drop i) (tvars [] x.fHead) = among x.fVars (tvars [] x.fHead)) (fun i => x.fVars.length - i) 0 rfl ?_ ⟨Nat.zero_le _, rfl⟩ ?_
  · simp -implicitDefEqProofs (disch := omega) only [go_sem]
  rintro i ⟨p1, p2⟩
  simp -implicitDefEqProofs (disch := omega) only [go_sem, encS]
  with_reducible refine split2 (fun hb => ?_) (fun hb => ?_) <;> have h := hb <;> (try simp only [wf_preprocess] at h) <;> simp -implicitDefEqProofs (disch := omega) only [go_sem, hb, encS] <;> (repeat (with_reducible refine And.intro ?_ ?_; focus first | omega | rfl | assumption | exact ⟨_, rfl, rfl⟩ | (simp; omega) | (simp; done)))
  · have hi : i < x.fVars.length := by omega
    rw [List.drop_eq_getElem_cons hi] at p2
    have p3 : among x.fVars (tvars [] x.fHead) = (dec (x.fVars[i] ∈ tvars [] x.fHead) && among (x.fVars.drop (i + 1)) (tvars [] x.fHead)) := p2.symm
    (repeat (with_reducible refine And.intro ?_ ?_; focus first | omega | rfl | assumption | exact ⟨_, rfl, rfl⟩ | (simp; omega) | (simp; done)))
    refine call_w (specOccurs_ok x.fVars[i] x.fHead (by omega)) ?_
    simp -implicitDefEqProofs (disch := omega) only [go_sem] <;> (repeat (with_reducible refine And.intro ?_ ?_; focus first | omega | rfl | assumption | exact ⟨_, rfl, rfl⟩ | (simp; omega) | (simp; done)))
    rw [occurs_mem]
    with_reducible refine split2 (fun hb => ?_) (fun hb => ?_) <;> have h := hb <;> (try simp only [wf_preprocess] at h) <;> simp -implicitDefEqProofs (disch := omega) only [go_sem, hb] <;> (repeat (with_reducible refine And.intro ?_ ?_; focus first | omega | rfl | assumption | exact ⟨_, rfl, rfl⟩ | (simp; omega) | (simp; done)))
    · exact no (by rw [pre, p3, dec_false h]; rfl)
    · exact inv_at (i + 1) (by omega) rfl rfl ⟨by omega, by rw [p3, dec_true h]; rfl⟩
  rw [List.drop_of_length_le (by omega)] at p2
  have p3 : among x.fVars (tvars [] x.fHead) = true := p2.symm
  rw [p3, Bool.true_and] at pre
  refine (show Hold ((if x.fHasAssoc = true then typeOver x.fVars x.fAssoc else dec (zeroT x.fAssoc)) = true → ?T) → _ from fun tail => ?main) ?tp
  case' main =>
    repeat' (first
      | with_reducible refine split2 (fun hb => ?_) (fun hb => ?_) <;> have h := hb <;> (try simp only [wf_preprocess] at h) <;> simp -implicitDefEqProofs (disch := omega) only [go_sem, hb] <;> (repeat (with_reducible refine And.intro ?_ ?_; focus first | omega | rfl | assumption | exact ⟨_, rfl, rfl⟩ | (simp; omega) | (simp; done)))
      | ((with_reducible show CallG _ _ 169 _ _ _ _); refine call_w (l13Vars_ok x.fAssoc x.fVars (by omega) (by omega)) ?_; simp -implicitDefEqProofs (disch := omega) only [go_sem])
      | ((with_reducible show CallG _ _ 197 _ _ _ _); refine call_w (l11Zero_ok x.fAssoc) ?_; simp -implicitDefEqProofs (disch := omega) only [go_sem])
      | (refine no ?_; rw [pre]; grind [of_dec, of_dec_false, dec_true, dec_false]))
    all_goals
      have hh : (if x.fHasAssoc = true then typeOver x.fVars x.fAssoc else dec (zeroT x.fAssoc)) = true := by grind [of_dec, of_dec_false, dec_true, dec_false]
      (repeat (with_reducible refine And.intro ?_ ?_; focus first | omega | rfl | assumption | exact ⟨_, rfl, rfl⟩ | (simp; omega) | (simp; done)))
      refine aw_tok 4 1 [] rfl (by simp) ?_
      refine aw_canon (st' := [.box (x.enc.map .d), .tok 1 []] :: S) [1, 4, 5] [.c (.ptr (0, 0) 0), .c (.tsl (0, 1) []), .c (.d (.i .i64 0))] ?_ ?_ ?_
      · rfl
      · first | (simp -implicitDefEqProofs (disch := omega) only [go_sem]; done) | (simp -implicitDefEqProofs (disch := omega) only [go_sem]; simp [*])
      · exact tail.out hh
  refine ⟨fun hh => ?_⟩
  rw [hh, Bool.true_and] at pre
  clear p2 p3 p1 hh no
  have badI : ∀ i, ∀ hi : i < x.fMethods.length, methOk x.fMethods[i] = false → V.c (.d (.b false)) = V.c (.d (.b (validInst x))) := fun i hi h => bad (Bool.eq_false_iff.2 fun hx => by
      rw [List.all_eq_true.1 hx _ (List.getElem_mem hi)] at h; cases h)
  refine loop_at (ι := Nat × List (List UInt8)) Tryz.checked.mixed rfl [1, 4, 5] (fun y => [.c (.ptr (0, 0) 0), .c (.tsl (0, 1) (y.2.map encS)), .c (.d (.i .i64 y.1))]) (fun y => [.box (x.enc.map .d), .tok 1 (y.2.map encS)] :: S)
    (fun y => y.1 ≤ x.fMethods.length ∧ y.2 = (methNames x).take y.1 ∧ ∀ j, ∀ hj : j < x.fMethods.length, j < y.1 → methOk x.fMethods[j] = true) (fun y => x.fMethods.length - y.1) (0, []) rfl ?_ ⟨Nat.zero_le _, rfl, fun j _ h => by simp only at h; omega⟩ ?_
  · simp -implicitDefEqProofs (disch := omega) only [go_sem]
  rintro ⟨i, names⟩ ⟨p1, p2, p3⟩
  simp only at p1 p2 p3
  have pl : names.length ≤ x.fMethods.length := by rw [p2]; simp [methNames]; omega
  simp -implicitDefEqProofs (disch := omega) only [go_sem]
  with_reducible refine split2 (fun hb => ?_) (fun hb => ?_) <;> have h := hb <;> (try simp only [wf_preprocess] at h) <;> simp -implicitDefEqProofs (disch := omega) only [go_sem, hb] <;> (repeat (with_reducible refine And.intro ?_ ?_; focus first | omega | rfl | assumption | exact ⟨_, rfl, rfl⟩ | (simp; omega) | (simp; done)))
  · have hi : i < x.fMethods.length := by omega
    have hm := hM _ (List.getElem_mem hi)
    have hms := MMethod.sum x.fMethods[i]
    have hmv : ∀ s ∈ x.fMethods[i].fVars, s.length ≤ 4194304 := fun s h => by have := strs_b h; omega
    (repeat (with_reducible refine And.intro ?_ ?_; focus first | omega | rfl | assumption | exact ⟨_, rfl, rfl⟩ | (simp; omega) | (simp; done)))
    with_reducible refine split2 (fun hb => ?_) (fun hb => ?_) <;> have h := hb <;> (try simp only [wf_preprocess] at h) <;> simp -implicitDefEqProofs (disch := omega) only [go_sem, hb] <;> (repeat (with_reducible refine And.intro ?_ ?_; focus first | omega | rfl | assumption | exact ⟨_, rfl, rfl⟩ | (simp; omega) | (simp; done)))
    · exact badI i hi (by unfold methOk; rw [dec_false (by omega)]; rfl)
    (repeat (with_reducible refine And.intro ?_ ?_; focus first | omega | rfl | assumption | exact ⟨_, rfl, rfl⟩ | (simp; omega) | (simp; done)))
    refine call_w (l13Words_ok x.fMethods[i].fVars 5 (by omega) hmv) ?_
    simp -implicitDefEqProofs (disch := omega) only [go_sem] <;> (repeat (with_reducible refine And.intro ?_ ?_; focus first | omega | rfl | assumption | exact ⟨_, rfl, rfl⟩ | (simp; omega) | (simp; done)))
    with_reducible refine split2 (fun hb => ?_) (fun hb => ?_) <;> have h := hb <;> (try simp only [wf_preprocess] at h) <;> simp -implicitDefEqProofs (disch := omega) only [go_sem, hb] <;> (repeat (with_reducible refine And.intro ?_ ?_; focus first | omega | rfl | assumption | exact ⟨_, rfl, rfl⟩ | (simp; omega) | (simp; done)))
    · refine badI i hi ?_
      unfold methOk bodyOk
      have : (dec (x.fMethods[i].fVars.length ≤ 5) && namesOk x.fMethods[i].fVars) = false := by
        rw [← h]; congr 1; exact dec_congr ⟨fun h => by omega, fun h => by omega⟩
      rw [← Bool.and_assoc (dec (x.fMethods[i].fVars.length ≤ 5)), this]; simp
    have k1 := h
    rw [Bool.and_eq_true] at k1
    have k4 := of_dec k1.1
    (repeat (with_reducible refine And.intro ?_ ?_; focus first | omega | rfl | assumption | exact ⟨_, rfl, rfl⟩ | (simp; omega) | (simp; done)))
    refine call_w (l13Body_ok x.fMethods[i].fVars x.fMethods[i].fBody (by omega) (by omega)) ?_
    simp -implicitDefEqProofs (disch := omega) only [go_sem] <;> (repeat (with_reducible refine And.intro ?_ ?_; focus first | omega | rfl | assumption | exact ⟨_, rfl, rfl⟩ | (simp; omega) | (simp; done)))
    with_reducible refine split2 (fun hb => ?_) (fun hb => ?_) <;> have h := hb <;> (try simp only [wf_preprocess] at h) <;> simp -implicitDefEqProofs (disch := omega) only [go_sem, hb] <;> (repeat (with_reducible refine And.intro ?_ ?_; focus first | omega | rfl | assumption | exact ⟨_, rfl, rfl⟩ | (simp; omega) | (simp; done)))
    · exact badI i hi (by unfold methOk bodyOk; rw [h]; simp)
    have k2 := h
    have k3 : methOk x.fMethods[i] = true := by unfold methOk bodyOk; rw [k2, k1.2, dec_true (by omega), dec_true (by omega)]; rfl
    (repeat (with_reducible refine And.intro ?_ ?_; focus first | omega | rfl | assumption | exact ⟨_, rfl, rfl⟩ | (simp; omega) | (simp; done)))
    rw [show List.map encS names ++ [[D.s x.fMethods[i].fName]] = List.map encS (names ++ [x.fMethods[i].fName]) by simp [encS]]
    exact inv_drop 2 (by decide) (i + 1, names ++ [x.fMethods[i].fName]) (by simp only; omega) rfl rfl rfl rfl ⟨by simp only; omega, by simp only; rw [p2, take_snoc (by simpa [methNames] using hi)]; simp [methNames], fun j hj hji => by
      simp only at hji
      by_cases e : j = i
      · subst e; exact k3
      · exact p3 j hj (by omega)⟩
  have hi : i = x.fMethods.length := by omega
  have hn : names = methNames x := by rw [p2, List.take_of_length_le (by simp [methNames]; omega)]
  have hall : x.fMethods.all methOk = true := List.all_eq_true.2 fun c hc => by
    obtain ⟨j, hj, e⟩ := List.getElem_of_mem hc
    rw [← e]; exact p3 j hj (by omega)
  have hnl : ∀ s ∈ names, s.length ≤ 4194304 := fun s hm => by
    rw [hn] at hm
    obtain ⟨g, hg, e⟩ := List.mem_map.1 hm
    have := hM g hg
    have := MMethod.sum g
    rw [← e]; omega
  have hlen : names.length = x.fMethods.length := by rw [hn]; simp [methNames]
  refine call_w (l13Words_ok names 6 (by omega) hnl) ?_
  simp -implicitDefEqProofs (disch := omega) only [go_sem] <;> (repeat (with_reducible refine And.intro ?_ ?_; focus first | omega | rfl | assumption | exact ⟨_, rfl, rfl⟩ | (simp; omega) | (simp; done)))
  refine bool_eq ?_
  unfold validInst
  rw [pre, hall, hn, Bool.true_and]
  congr 1
  rw [← hn, hlen]
  exact dec_congr ⟨fun h => by omega, fun h => by omega⟩
end Go.Proofs.YtokcpelkieeddaaGreatDoor

