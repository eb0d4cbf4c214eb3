/-
  SEVERAL TEXTS IN ONE (merged by program): contracts and models, each with its own heading.
-/
import Derived.Test.YtnceiannponbjaaGreatPartDibD
set_option linter.unusedSimpArgs false
set_option linter.unusedVariables false
set_option maxRecDepth 8000
set_option maxRecDepth 4000
namespace Go.Ab
def DoesO (P : Program) (o : Oper) (ρ : Operand → Value) (w : World) (v : Value) (w' : World) : Prop := (execOp ρ o).run P w = .ok (.value v) w' ∨ ((execOp ρ o).run P w = .ok .skip w' ∧ v = undef)
theorem DoesO.wp {P : Program} {o : Oper} {a : Act} {w w' : World} {v : Value} {K : Act → World → Prop} {Q : Exit → Act → World → Prop} (h : DoesO P o a.eval w v w') (hK : K (a.put o.dst v) w') : o.wp P a w K Q := by
  unfold Oper.wp
  rcases h with h | ⟨h, rfl⟩
  · rw [h]; exact hK
  · rw [h]; exact hK
def effUp (eff : List Nat) (i m : Nat) : Nat := if eff.contains i then m ||| 2 ^ eff.idxOf i else m
def DetAll (P : Program) (eff : List Nat) (W : Nat → World) (K : Act → Prop) : List Oper → List (List Nat) → Nat → Act → Prop
  | [], _, _, a => K a
  | o :: l, rs, i, a => ∃ v, (∀ m ∈ rs.headD [], DoesO P o a.eval (W m) v (W (effUp eff i m))) ∧ DetAll P eff W K l rs.tail (i + 1) (a.put o.dst v)
theorem det_out {P : Program} {eff : List Nat} {W : Nat → World} {K : Act → Prop} : ∀ (l : List Oper) (rs : List (List Nat)) (i : Nat) (a : Act), DetAll P eff W K l rs i a →
    ∃ (vs : Nat → Value) (A : Nat → Act), A 0 = a ∧ (∀ j o, l[j]? = some o → A (j + 1) = (A j).put o.dst (vs j) ∧ ∀ m ∈ rs.getD j [], DoesO P o (A j).eval (W m) (vs j) (W (effUp eff (i + j) m))) ∧ K (A l.length)
  | [], rs, i, a, h => ⟨fun _ => undef, fun _ => a, rfl, fun j o hj => by simp at hj, h⟩
  | o :: l, rs, i, a, h => by
    obtain ⟨v, h1, h2⟩ := h
    obtain ⟨vs, A, k0, k1, k2⟩ := det_out l rs.tail (i + 1) _ h2
    refine ⟨fun j => match j with | 0 => v | j + 1 => vs j, fun j => match j with | 0 => a | j + 1 => A j, rfl, fun j o' hj => ?_, k2⟩
    cases j with
    | zero =>
      simp only [List.getElem?_cons_zero, Option.some.injEq] at hj
      subst hj
      refine ⟨k0, fun m hm => h1 m ?_⟩
      cases rs with
      | nil => simp at hm
      | cons r rs => simpa using hm
    | succ j =>
      simp only [List.getElem?_cons_succ] at hj
      obtain ⟨q1, q2⟩ := k1 j o' hj
      refine ⟨q1, fun m hm => ?_⟩
      have := q2 m (by cases rs with
        | nil => simp at hm
        | cons r rs => simpa using hm)
      rw [show i + (j + 1) = i + 1 + j by omega]
      exact this
def mayAt (R : Array Oper) (eff : List Nat) (i m : Nat) : Bool :=
  (List.range eff.length).all fun k => if m.testBit k then !((masks R.toList []).getD (eff.getD k 0) 0).testBit i && eff.getD k 0 != i && (List.range eff.length).all (fun k' => !((masks R.toList []).getD (eff.getD k 0) 0).testBit (eff.getD k' 0) || m.testBit k')
    else !((masks R.toList []).getD i 0).testBit (eff.getD k 0)
def detB (R : Array Oper) (N : Nat) (eff : List Nat) (rng : List (List Nat)) : Bool :=
  ((List.range R.size).all fun j =>
    (match R[j]? with
     | some o => o.guard.isNone && (match o.op with | .select .. => false | _ => true) && o.after.toList.all (fun e => !Region.binds .any e || decide (e.on < j)) && (match o.dst with | some d => decide (d < N) | none => true)
     | none => true) &&
    ((List.range j).all fun i =>
      match R[i]?, R[j]? with
      | some x, some y => (((masks R.toList []).getD j 0).testBit i || x.apart R y) && (x.dst.isNone || x.dst != y.dst)
      | _, _ => true) &&
    ((List.range (2 ^ eff.length)).all fun m => !(mayAt R eff j m) || (rng.getD j []).contains m)) &&
  (List.range eff.length).all fun k' => decide (eff.getD k' 0 < R.size) && (List.range k').all fun k => eff.getD k 0 != eff.getD k' 0
section
variable {P : Program} {R : Array Oper} {N : Nat} {eff : List Nat} {rng : List (List Nat)} {W : Nat → World} {vs : Nat → Value} {A : Nat → Act}
structure DetOk (R : Array Oper) (N : Nat) (eff : List Nat) (rng : List (List Nat)) : Prop where
  guard : ∀ (j : Nat) (o : Oper), R[j]? = some o → o.guard = none
  nosel : ∀ (j : Nat) (o : Oper), R[j]? = some o → ∀ cs b, o.op ≠ .select cs b
  edge : ∀ (i : Nat) (o : Oper) (e : Edge), R[i]? = some o → e ∈ o.after → Region.binds .any e = true → e.on < i
  dst : ∀ (i : Nat) (o : Oper), R[i]? = some o → ∀ d, o.dst = some d → d < N
  pair : ∀ (i j : Nat) (x y : Oper), i < j → R[i]? = some x → R[j]? = some y → ((masks R.toList []).getD j 0).testBit i = true ∨ x.apart R y = true
  one : ∀ (i j : Nat) (x y : Oper) (d : Nat), R[i]? = some x → R[j]? = some y → x.dst = some d → y.dst = some d → i = j
  rng : ∀ (j m : Nat), j < R.size → m < 2 ^ eff.length → mayAt R eff j m = true → m ∈ rng.getD j []
  effs : ∀ k, k < eff.length → eff.getD k 0 < R.size
  apart : ∀ k k', k < k' → k' < eff.length → eff.getD k 0 ≠ eff.getD k' 0
theorem detOk_of (h : detB R N eff rng = true) : DetOk R N eff rng := by
  unfold detB at h
  rw [Bool.and_eq_true] at h
  obtain ⟨h1, h2⟩ := h
  have H : ∀ (j : Nat) (o : Oper), R[j]? = some o → _ := fun j o ho => List.all_eq_true.1 h1 j (List.mem_range.2 (Array.getElem?_eq_some_iff.1 ho).1)
  have H0 : ∀ (j : Nat) (o : Oper), R[j]? = some o → o.guard.isNone = true ∧ (match o.op with | .select .. => false | _ => true) = true ∧ o.after.toList.all (fun e => !Region.binds .any e || decide (e.on < j)) = true ∧ (match o.dst with | some d => decide (d < N) | none => true) = true := by
    intro j o ho
    have := H j o ho
    simp only [ho, Bool.and_eq_true] at this
    exact ⟨this.1.1.1.1.1, this.1.1.1.1.2, this.1.1.1.2, this.1.1.2⟩
  have H1 : ∀ (i j : Nat) (x y : Oper), i < j → R[i]? = some x → R[j]? = some y → ((((masks R.toList []).getD j 0).testBit i || x.apart R y) && (x.dst.isNone || x.dst != y.dst)) = true := by
    intro i j x y hij hx hy
    have := H j y hy
    simp only [Bool.and_eq_true] at this
    have := List.all_eq_true.1 this.1.2 i (List.mem_range.2 hij)
    simp only [hx, hy] at this
    exact this
  have H2 : ∀ (i j : Nat) (x y : Oper) (d : Nat), i < j → R[i]? = some x → R[j]? = some y → x.dst = some d → y.dst = some d → False := by
    intro i j x y d hij hx hy h1 h2
    have := H1 i j x y hij hx hy
    simp [h1, h2] at this
  refine ⟨fun j o ho => by simpa using (H0 j o ho).1, fun j o ho cs b e => ?_, fun i o e ho he hb => ?_, fun i o ho d hd => ?_, fun i j x y hij hx hy => ?_, fun i j x y d hx hy h1 h2 => ?_, fun j m hj hm hp => ?_, fun k hk => ?_, fun k k' hkk hk => ?_⟩
  · have := (H0 j o ho).2.1
    rw [e] at this; cases this
  · have := List.all_eq_true.1 (H0 i o ho).2.2.1 e (by simpa using he)
    simpa [hb] using this
  · have := (H0 i o ho).2.2.2
    rw [hd] at this
    simpa using this
  · have := H1 i j x y hij hx hy
    rw [Bool.and_eq_true, Bool.or_eq_true] at this
    exact this.1
  · rcases Nat.lt_trichotomy i j with h | h | h
    · exact (H2 i j x y d h hx hy h1 h2).elim
    · exact h
    · exact (H2 j i y x d h hy hx h2 h1).elim
  · have := List.all_eq_true.1 h1 j (List.mem_range.2 hj)
    rw [Bool.and_eq_true] at this
    have := List.all_eq_true.1 this.2 m (List.mem_range.2 hm)
    simpa [hp] using this
  · have := List.all_eq_true.1 h2 k (List.mem_range.2 hk)
    rw [Bool.and_eq_true] at this
    simpa using this.1
  · have := List.all_eq_true.1 h2 k' (List.mem_range.2 hk)
    rw [Bool.and_eq_true] at this
    have := List.all_eq_true.1 this.2 k (List.mem_range.2 hkk)
    simpa using this
structure MidD (R : Array Oper) (eff : List Nat) (W : Nat → World) (vs : Nat → Value) (a0 : Act) (listed : Array Bool) (a : Act) (w : World) : Prop where
  size : listed.size = R.size
  closed : ∀ i o e, R[i]? = some o → listed.getD i false = true → e ∈ o.after → Region.binds .any e = true → listed.getD e.on false = true
  wld : ∃ m, m < 2 ^ eff.length ∧ (∀ k, k < eff.length → (listed.getD (eff.getD k 0) false = true ↔ m.testBit k = true)) ∧ w = W m
  defs : a.defers = a0.defers
  tsize : a.tmps.size = a0.tmps.size
  got : ∀ j o t, R[j]? = some o → o.dst = some t → listed.getD j false = true → a.tmps.getD t undef = vs j
  old : ∀ t, (∀ j o, R[j]? = some o → o.dst = some t → listed.getD j false = false) → a.tmps.getD t undef = a0.tmps.getD t undef
theorem put_size (a : Act) (d : Option Nat) (v : Value) : (a.put d v).tmps.size = a.tmps.size := by cases d <;> simp [Act.put]
theorem put_defers (a : Act) (d : Option Nat) (v : Value) : (a.put d v).defers = a.defers := by cases d <;> rfl
theorem put_same {a : Act} {d : Nat} {v : Value} (h : d < a.tmps.size) : (a.put (some d) v).tmps.getD d undef = v := by simp [Act.put, h]
theorem det_acts (hok : DetOk R N eff rng) {a0 : Act} (hN : a0.tmps.size = N) (hA0 : A 0 = a0) (hA : ∀ j o, R[j]? = some o → A (j + 1) = (A j).put o.dst (vs j)) :
    ∀ n, n ≤ R.size → (A n).tmps.size = N ∧ (A n).defers = a0.defers ∧ (∀ t, (∀ j o, j < n → R[j]? = some o → o.dst ≠ some t) → (A n).tmps.getD t undef = a0.tmps.getD t undef) ∧ (∀ j o t, j < n → R[j]? = some o → o.dst = some t → (A n).tmps.getD t undef = vs j) := by
  intro n
  induction n with
  | zero => intro _; rw [hA0]; exact ⟨hN, rfl, fun _ _ => rfl, fun j o t hj => by omega⟩
  | succ n ih =>
    intro hn
    obtain ⟨i1, i2, i3, i4⟩ := ih (by omega)
    have ho : R[n]? = some R[n] := Array.getElem?_eq_getElem (by omega)
    have hAn := hA n _ ho
    refine ⟨by rw [hAn, put_size]; exact i1, by rw [hAn, put_defers]; exact i2, fun t ht => ?_, fun j o t hj hjo hd => ?_⟩
    · rw [hAn, put_other (ht n _ (by omega) ho)]
      exact i3 t fun j o hj hjo => ht j o (by omega) hjo
    · by_cases e : j = n
      · subst e
        rw [ho] at hjo; cases hjo
        rw [hAn, hd, put_same (by rw [i1]; exact hok.dst _ _ ho _ hd)]
      · rw [hAn, put_other fun q => e (hok.one j n _ _ t hjo ho hd q)]
        exact i4 j o t (by omega) hjo hd
theorem detM_step {Q : Exit → Act → World → Prop} (hok : DetOk R N eff rng) {a0 : Act} (hN : a0.tmps.size = N) (hA0 : A 0 = a0)
    (hA : ∀ j o, R[j]? = some o → A (j + 1) = (A j).put o.dst (vs j) ∧ ∀ m ∈ rng.getD j [], DoesO P o (A j).eval (W m) (vs j) (W (effUp eff j m)))
    {listed : Array Bool} {a : Act} {w : World} (hM : MidD R eff W vs a0 listed a w) {i : Nat} (hi : i ∈ Region.ready .any R listed) :
    wpOp P R Q i (fun a' w' => MidD R eff W vs a0 (listed.setIfInBounds i true) a' w') a w := by
  obtain ⟨hun, o, ho, hedges⟩ := mem_ready.1 hi
  have hlt : i < R.size := (Array.getElem?_eq_some_iff.1 ho).1
  have hls : i < listed.size := by rw [hM.size]; exact hlt
  have hunf : listed.getD i false = false := by simp [hls] at hun ⊢; exact hun
  have hset : (listed.setIfInBounds i true).getD i false = true := by simp [hls]
  have hmask : ∀ j x k, R[j]? = some x → listed.getD j false = true → ((masks R.toList []).getD j 0).testBit k = true → listed.getD k false = true := fun j x k hx hE hb =>
    mask_done (fun k => listed.getD k false = true) hM.closed hok.edge j x hx (fun e he hb => hM.closed j x e hx hE he hb) k hb
  have hmaski : ∀ k, ((masks R.toList []).getD i 0).testBit k = true → listed.getD k false = true := fun k hb =>
    mask_done (fun k => listed.getD k false = true) hM.closed hok.edge i o ho (fun e he hb => hedges e he hb) k hb
  obtain ⟨m, hm, hmk, rfl⟩ := hM.wld
  obtain ⟨c1, c2, c3, c4⟩ := det_acts hok hN hA0 (fun j o h => (hA j o h).1) i (by omega)
  have hev : ∀ x ∈ o.op.operands, a.eval x = (A i).eval x := by
    intro x hx
    cases x with
    | tmp t =>
      have hlook : t ∈ o.looksAt R := looks_operand hx rfl
      show a.tmps.getD t undef = (A i).tmps.getD t undef
      by_cases hw : ∃ (j : Nat) (y : Oper), j < i ∧ R[j]? = some y ∧ y.dst = some t
      · obtain ⟨j, y, hj, hy, hd⟩ := hw
        rw [c4 j y t hj hy hd]
        refine hM.got j y t hy hd (hmaski j ?_)
        rcases hok.pair j i y o hj hy ho with h | h
        · exact h
        · exact absurd hlook ((Oper.apart_spec h).1 t hd)
      · rw [c3 t fun j y hj hy hd => hw ⟨j, y, hj, hy, hd⟩]
        refine hM.old t fun j y hy hd => ?_
        cases hl : listed.getD j false with
        | false => rfl
        | true =>
          exfalso
          rcases Nat.lt_trichotomy j i with h | h | h
          · exact hw ⟨j, y, h, hy, hd⟩
          · subst h; rw [hunf] at hl; cases hl
          · rcases hok.pair i j o y h ho hy with k | k
            · rw [hmask j y i hy hl k] at hunf; cases hunf
            · exact (Oper.apart_spec k).2.2 t hd hlook
    | _ => rfl
  have hrng : m ∈ rng.getD i [] := by
    refine hok.rng i m hlt hm ?_
    unfold mayAt
    refine List.all_eq_true.2 fun k hk => ?_
    have hk := List.mem_range.1 hk
    cases q : m.testBit k with
    | false =>
      rw [if_neg (by decide)]
      cases hb : ((masks R.toList []).getD i 0).testBit (eff.getD k 0) with
      | false => rfl
      | true =>
        have := (hmk k hk).1 (hmaski _ hb)
        rw [q] at this; cases this
    | true =>
      rw [if_pos rfl]
      have hl := (hmk k hk).2 q
      have he : R[eff.getD k 0]? = some (R[eff.getD k 0]'(hok.effs k hk)) := Array.getElem?_eq_getElem (hok.effs k hk)
      rw [Bool.and_eq_true, Bool.and_eq_true]
      refine ⟨⟨?_, ?_⟩, List.all_eq_true.2 fun k' hk' => ?_⟩
      · cases hb : ((masks R.toList []).getD (eff.getD k 0) 0).testBit i with
        | false => rfl
        | true => rw [hmask _ _ i he hl hb] at hunf; cases hunf
      · rw [bne_iff_ne]
        intro e
        rw [e, hunf] at hl; cases hl
      · cases hb : ((masks R.toList []).getD (eff.getD k 0) 0).testBit (eff.getD k' 0) with
        | false => rfl
        | true => exact (hmk k' (List.mem_range.1 hk')).1 (hmask _ _ _ he hl hb)
  have hdo := (hA i o ho).2 m hrng
  unfold DoesO at hdo
  rw [← execOp_congr o (hok.nosel i o ho) hev] at hdo
  unfold wpOp
  simp only [ho]
  rw [if_pos (by simp [Region.wanted, hok.guard i o ho])]
  refine .inl (DoesO.wp hdo ?_)
  refine ⟨by simpa using hM.size, fun j x e hx hE he hb => ?_, ?_, by rw [put_defers]; exact hM.defs, by rw [put_size]; exact hM.tsize, fun j y t hy hd hl => ?_, fun t ht => ?_⟩
  · by_cases hji : j = i
    · subst hji
      rw [ho] at hx; cases hx
      exact getD_set_true (hedges e he hb)
    · rw [getD_set_ne false (Ne.symm hji)] at hE
      exact getD_set_true (hM.closed j x e hx hE he hb)
  · by_cases hie : i ∈ eff
    · obtain ⟨k, hk, rfl⟩ : ∃ k, k < eff.length ∧ eff.getD k 0 = i := by
        obtain ⟨k, hk, e⟩ := List.getElem_of_mem hie
        exact ⟨k, hk, by simp [hk, e]⟩
      have hix : eff.idxOf (eff.getD k 0) = k := by
        have h1 : eff.idxOf (eff.getD k 0) < eff.length := List.idxOf_lt_length_iff.2 hie
        have h2 : eff.getD (eff.idxOf (eff.getD k 0)) 0 = eff.getD k 0 := by
          rw [List.getD_eq_getElem?_getD, List.getElem?_eq_getElem h1, Option.getD_some]
          exact List.getElem_idxOf h1
        rcases Nat.lt_trichotomy (eff.idxOf (eff.getD k 0)) k with h | h | h
        · exact absurd h2 (hok.apart _ k h hk)
        · exact h
        · exact absurd h2.symm (hok.apart k _ h h1)
      refine ⟨m ||| 2 ^ k, Nat.or_lt_two_pow hm (Nat.pow_lt_pow_right (by decide) hk), fun k' hk' => ?_, ?_⟩
      · rw [Nat.testBit_or, Nat.testBit_two_pow]
        by_cases e : k' = k
        · subst e; rw [hset, decide_eq_true rfl, Bool.or_true]
        · have hne : eff.getD k 0 ≠ eff.getD k' 0 := by
            rcases Nat.lt_trichotomy k k' with h | h | h
            · exact hok.apart k k' h hk'
            · exact absurd h.symm e
            · exact (hok.apart k' k h hk).symm
          rw [getD_set_ne false hne, hmk k' hk']
          simp [Ne.symm e]
      · unfold effUp
        rw [if_pos (by simpa using hie), hix]
    · refine ⟨m, hm, fun k hk => ?_, by unfold effUp; rw [if_neg (by simpa using hie)]⟩
      have hne : i ≠ eff.getD k 0 := fun e => hie (by rw [e]; simp [hk])
      rw [getD_set_ne false hne]
      exact hmk k hk
  · by_cases hji : j = i
    · subst hji
      rw [ho] at hy; cases hy
      rw [hd, put_same (by rw [hM.tsize, hN]; exact hok.dst _ _ ho _ hd)]
    · rw [getD_set_ne false (Ne.symm hji)] at hl
      rw [put_other fun q => hji (hok.one j i _ _ t hy ho hd q)]
      exact hM.got j y t hy hd hl
  · have hne : o.dst ≠ some t := fun q => by
      have := ht i o ho q
      rw [hset] at this; cases this
    rw [put_other hne]
    refine hM.old t fun j y hy hd => ?_
    have := ht j y hy hd
    by_cases hji : j = i
    · subst hji; exact hunf
    · rw [getD_set_ne false (Ne.symm hji)] at this; exact this
theorem detM_all {Q : Exit → Act → World → Prop} (hok : DetOk R N eff rng) {a0 : Act} (hN : a0.tmps.size = N) (hA0 : A 0 = a0)
    (hA : ∀ j o, R[j]? = some o → A (j + 1) = (A j).put o.dst (vs j) ∧ ∀ m ∈ rng.getD j [], DoesO P o (A j).eval (W m) (vs j) (W (effUp eff j m)))
    (hQ : Q .normal (A R.size) (W (2 ^ eff.length - 1))) :
    ∀ (fuel : Nat) (listed : Array Bool) (a : Act) (w : World), (List.range R.size).countP (fun i => !listed.getD i false) ≤ fuel → MidD R eff W vs a0 listed a w → wpAny P .any R Q fuel listed a w := by
  have hend : ∀ listed a w, MidD R eff W vs a0 listed a w → Region.ready .any R listed = [] → Q .normal a w := by
    intro listed a w hM hr
    have hall : ∀ i, i < R.size → listed.getD i false = true := by
      intro i
      induction i using Nat.strongRecOn with
      | _ i ih =>
        intro hi
        cases hE : listed.getD i false with
        | true => rfl
        | false =>
          exfalso
          have ho : R[i]? = some R[i] := Array.getElem?_eq_getElem hi
          have : i ∈ Region.ready .any R listed := by
            rw [mem_ready]
            have hs : i < listed.size := by rw [hM.size]; exact hi
            refine ⟨by simp [hs] at hE ⊢; exact hE, _, ho, fun e he hb => ?_⟩
            have hon := hok.edge i _ e ho he hb
            exact ih e.on hon (by omega)
          rw [hr] at this
          simp at this
    obtain ⟨m, hm, hmk, rfl⟩ := hM.wld
    obtain ⟨c1, c2, c3, c4⟩ := det_acts hok hN hA0 (fun j o h => (hA j o h).1) R.size (Nat.le_refl _)
    have hme : m = 2 ^ eff.length - 1 := by
      refine Nat.eq_of_testBit_eq fun k => ?_
      rw [Nat.testBit_two_pow_sub_one]
      by_cases q : k < eff.length
      · rw [(hmk k q).1 (hall _ (hok.effs k q)), decide_eq_true q]
      · rw [decide_eq_false q]
        exact Nat.testBit_lt_two_pow (Nat.lt_of_lt_of_le hm (Nat.pow_le_pow_right (by decide) (by omega)))
    subst hme
    have hae : a = A R.size := by
      have hg : ∀ t, a.tmps.getD t undef = (A R.size).tmps.getD t undef := by
        intro t
        by_cases hw : ∃ (j : Nat) (y : Oper), R[j]? = some y ∧ y.dst = some t
        · obtain ⟨j, y, hy, hd⟩ := hw
          have hj := (Array.getElem?_eq_some_iff.1 hy).1
          rw [c4 j y t hj hy hd]
          exact hM.got j y t hy hd (hall j hj)
        · rw [c3 t fun j y _ hy hd => hw ⟨j, y, hy, hd⟩]
          exact hM.old t fun j y hy hd => absurd ⟨j, y, hy, hd⟩ hw
      have hs : a.tmps.size = (A R.size).tmps.size := by rw [hM.tsize, hN, c1]
      have ht : a.tmps = (A R.size).tmps := by
        refine Array.ext hs fun t h1 h2 => ?_
        have := hg t
        simpa [h1, h2] using this
      have hd : a.defers = (A R.size).defers := hM.defs.trans c2.symm
      obtain ⟨at1, ad1⟩ := a
      generalize A R.size = b at *
      obtain ⟨bt, bd⟩ := b
      simp only at ht hd
      rw [ht, hd]
    rw [hae]; exact hQ
  intro fuel
  induction fuel with
  | zero =>
    intro listed a w hc hM
    have hnone : Region.ready .any R listed = [] := by
      cases hr : Region.ready .any R listed with
      | nil => rfl
      | cons i l =>
        exfalso
        have hi : i ∈ Region.ready .any R listed := by rw [hr]; simp
        obtain ⟨hun, o, ho, _⟩ := mem_ready.1 hi
        have hlt := (Array.getElem?_eq_some_iff.1 ho).1
        have hs : i < listed.size := by rw [hM.size]; exact hlt
        have hz : (List.range R.size).countP (fun i => !listed.getD i false) = 0 := by omega
        rw [List.countP_eq_zero] at hz
        have := hz i (List.mem_range.2 hlt)
        simp [hs] at hun this
        rw [hun] at this; cases this
    exact ⟨hnone, hend listed a w hM hnone⟩
  | succ fuel ih =>
    intro listed a w hc hM
    refine ⟨hend listed a w hM, fun i hi => ?_⟩
    refine wpOp_mono (fun a' w' hM' => ih _ a' w' ?_ hM') (detM_step hok hN hA0 hA hM hi)
    obtain ⟨hun, o, ho, _⟩ := mem_ready.1 hi
    have hlt := (Array.getElem?_eq_some_iff.1 ho).1
    have hs : i < listed.size := by rw [hM.size]; exact hlt
    have := cnt_lt (fun j => !listed.getD j false) (fun j => !(listed.setIfInBounds i true).getD j false) (List.range R.size) i (fun x hx => by
      by_cases e : x = i
      · subst e; simp [hs] at hx
      · rw [getD_set_ne false (Ne.symm e)] at hx; exact hx) (List.mem_range.2 hlt) (by simp [hs] at hun ⊢; exact hun) (by simp [hs])
    omega
end
theorem region_det {P : Program} {id : Nat} {Q : Exit → Act → World → Prop} {a : Act} {w : World} {l : List Oper} (N : Nat) (eff : List Nat) (rng : List (List Nat)) (W : Nat → World) (hm : P.follows .mixedOrders = true) (hB : detB l.toArray N eff rng = true)
    (hN : a.tmps.size = N) (h0 : W 0 = w.drew) (h : DetAll P eff W (fun a' => Q .normal a' (W (2 ^ eff.length - 1))) l rng 0 a) : (Code.region id l.toArray true).wp P Q a w := by
  refine wp_region_any hm ?_
  have hok := detOk_of hB
  obtain ⟨vs, A, k0, k1, k2⟩ := det_out l rng 0 a h
  refine detM_all (W := W) (vs := vs) (A := A) hok hN k0 (fun j o hj => ?_) (by simpa using k2) _ _ _ _ ?_ ⟨by simp, fun i o e _ hl => ?_, ⟨0, Nat.two_pow_pos _, fun k hk => ?_, h0.symm⟩, rfl, rfl, fun j o t _ _ hl => ?_, fun t _ => rfl⟩
  · have := k1 j o (by simpa using hj)
    rw [Nat.zero_add] at this
    exact this
  · exact Nat.le_trans List.countP_le_length (by simp)
  · rw [getD_replicate_false] at hl; cases hl
  · rw [getD_replicate_false]; simp
  · rw [getD_replicate_false] at hl; cases hl
section
variable {P : Program} {eff : List Nat} {W : Nat → World} {K : Act → Prop} {o : Oper} {l : List Oper} {rs : List (List Nat)} {i : Nat} {a : Act}
theorem DetAll.step (v : Value) {r : List Nat} (h : ∀ m ∈ r, DoesO P o a.eval (W m) v (W (effUp eff i m))) (hk : DetAll P eff W K l rs (i + 1) (a.put o.dst v)) : DetAll P eff W K (o :: l) (r :: rs) i a := ⟨v, h, hk⟩
theorem effUp_no {m : Nat} (he : eff.contains i = false) : effUp eff i m = m := by unfold effUp; rw [he]; rfl
theorem DetAll.done (h : K a) : DetAll P eff W K [] rs i a := h
theorem DetAll.any (v : Value) {r : List Nat} (he : eff.contains i = false) (h : ∀ w, DoesO P o a.eval w v w) (hk : DetAll P eff W K l rs (i + 1) (a.put o.dst v)) : DetAll P eff W K (o :: l) (r :: rs) i a :=
  ⟨v, fun m _ => by rw [effUp_no he]; exact h _, hk⟩
theorem DetAll.at1 (v : Value) {m : Nat} {w w' : World} (hw : W m = w) (hw' : W (effUp eff i m) = w') (h : DoesO P o a.eval w v w') (hk : DetAll P eff W K l rs (i + 1) (a.put o.dst v)) : DetAll P eff W K (o :: l) ([m] :: rs) i a :=
  ⟨v, fun k hk => by
    have : k = m := by simpa using hk
    subst this; rw [hw, hw']; exact h, hk⟩
theorem does_run {ρ : Operand → Value} {w w' : World} {v : Value} (h : (execOp ρ o).run P w = .ok (.value v) w') : DoesO P o ρ w v w' := .inl h
theorem does_skip {ρ : Operand → Value} {w w' : World} (h : (execOp ρ o).run P w = .ok .skip w') : DoesO P o ρ w undef w' := .inr ⟨h, rfl⟩
theorem does_append {ρ : Operand → Value} {w w' : World} {s x : Operand} {t : TypeId} {v u r : Value} (ho : o.op = .call { callee := .builtin .append, args := #[s, x], argTypes := #[t, t] }) (hs : ρ s = v) (hx : ρ x = u)
    (hr : (Builtin.append_ #[t, t] o.type #[v, u]).run P w = .ok r w') : DoesO P o ρ w r w' := by
  left
  unfold execOp
  simp only [ho, resolve, invoke, builtin, Sem.run_bind, Sem.run_pure, Result.andThen_ok, List.map_toArray, List.map_cons, List.map_nil, hs, hx, hr]
end
end Go.Ab

namespace Go.Ab
def cutC (c : Array Value) (k n : Nat) : Array Value := (c.toList.take (k * 2) ++ (c.toList.drop ((k + 1) * 2)).take ((n - (k + 1)) * 2) ++ c.toList.drop (k * 2 + (n - (k + 1)) * 2)).toArray
def restV (b k n cap : Nat) : Value := .slice (if cap = k + 1 then some ⟨b, 0, none⟩ else some ⟨b, (k + 1) * 2, none⟩) (n - (k + 1)) (cap - (k + 1))
section
variable {P : Program} {w : World} {σ : Nat → Nat}
theorem cutC_size {c : Array Value} {k n : Nat} (hk : k < n) (hn : n * 2 ≤ c.size) : (cutC c k n).size = c.size := by
  unfold cutC
  simp only [List.size_toArray, List.length_append, List.length_take, List.length_drop, Array.length_toList]
  omega
theorem cutC_low {c : Array Value} {k n j : Nat} (hk : k < n) (hn : n * 2 ≤ c.size) (hj : j < k * 2) : (cutC c k n)[j]? = c[j]? := by
  unfold cutC
  rw [List.getElem?_toArray, List.append_assoc, List.getElem?_append_left (by simp; omega), List.getElem?_take_of_lt hj, Array.getElem?_toList]
theorem cutC_high {c : Array Value} {k n j : Nat} (hk : k < n) (hn : n * 2 ≤ c.size) (hj : k * 2 ≤ j) (hj2 : j < (n - 1) * 2) : (cutC c k n)[j]? = c[j + 2]? := by
  unfold cutC
  rw [List.getElem?_toArray, List.append_assoc, List.getElem?_append_right (by simp; omega), List.getElem?_append_left (by simp; omega), List.getElem?_take_of_lt (by simp; omega), List.getElem?_drop, Array.getElem?_toList]
  congr 1
  simp
  omega
theorem run_cut {t e ty : TypeId} {b k n cap : Nat} {c : Array Value} {et : TypeId} {i : TypeInfo} (ht : P.underlying t = some (.slice e)) (hi : P.info? e = some i) (h2 : i.size = 2)
    (hb : w.heap[b]? = some (.cells c et (0, 0))) (hk : k < n) (hn : n ≤ cap) (hfit : cap * 2 ≤ c.size) (hone : ∀ j, j < n * 2 → ∃ v : Value, c[j]? = some v ∧ v.oneCell' = true) :
    (Builtin.append_ #[t, t] ty #[.slice (some ⟨b, 0, none⟩) k cap, restV b k n cap]).run P w = .ok (.slice (some ⟨b, 0, none⟩) (n - 1) cap) (w.setRow b (cutC c k n)) := by
  have hsz : ((c.toList.drop ((k + 1) * 2)).take ((n - (k + 1)) * 2)).length = (n - (k + 1)) * 2 := by
    simp only [List.length_take, List.length_drop, Array.length_toList]; omega
  have hr := run_app_room (P := P) (w := w) (t := t) (u := t) (ty := ty) (b := b) (off := 0) (sLen := k) (sCap := cap) (m := n - (k + 1)) (yv := restV b k n cap) (i := i) (ya := ((c.toList.drop ((k + 1) * 2)).take ((n - (k + 1)) * 2)).toArray) (c := c) (et := et) ht (.inl ⟨_, ht⟩) hi rfl (by
    rw [h2]
    unfold restV
    by_cases he : cap = k + 1
    · have hm : n - (k + 1) = 0 := by omega
      rw [if_pos he, hm]
      simp [Builtin.firstCells, loadCells, loadCellsFrom]
    · rw [if_neg he]
      exact run_cells_of (a := ⟨b, (k + 1) * 2, none⟩) rfl hb _ fun j hj => ⟨_, Array.getElem?_eq_getElem (by simp only; omega)⟩) (by omega) hb (by rw [h2]; simp only [List.size_toArray, hsz]; omega) (fun v hv => by
    obtain ⟨j, hj⟩ := List.getElem?_of_mem hv
    simp only at hj
    have hjl := (List.getElem?_eq_some_iff.1 hj).1
    rw [hsz] at hjl
    rw [List.getElem?_take_of_lt hjl, List.getElem?_drop, Array.getElem?_toList] at hj
    obtain ⟨u, h1, h3⟩ := hone ((k + 1) * 2 + j) (by omega)
    rw [h1] at hj; cases hj; exact h3)
  rw [h2, show k + (n - (k + 1)) = n - 1 by omega, Nat.zero_add] at hr
  rw [hr]
  simp only [List.size_toArray, hsz]
  rfl
theorem flat_erase {es : List (List D)} (hz : ∀ e ∈ es, e.length = 2) {k : Nat} (hk : k < es.length) (j : Nat) : (es.eraseIdx k).flatten[j]? = if j < k * 2 then es.flatten[j]? else es.flatten[j + 2]? := by
  have h1 : (es.take k).flatten.length = k * 2 := by rw [flat_len _ 2 (fun e he => hz e (List.mem_of_mem_take he)), List.length_take, Nat.min_eq_left (by omega)]
  rw [List.eraseIdx_eq_take_drop_succ, List.flatten_append]
  split
  · rename_i h
    rw [List.getElem?_append_left (by omega)]
    have : es.flatten = (es.take k).flatten ++ (es.drop k).flatten := by rw [← List.flatten_append, List.take_append_drop]
    rw [this, List.getElem?_append_left (by omega)]
  · rename_i h
    rw [List.getElem?_append_right (by omega), h1, flat_drop es 2 hz (k + 1) (by omega)]
    congr 1; omega
theorem cut_rep {a : List UInt8} {es : List (List D)} {k : Nat} {o1 : Obj} {Ω : Store} {β : Hs} (hk : k < es.length) (hS : RepS w σ ([.box [.d (.s a), .msl (0, 2)], o1, .mrow 2 es] :: Ω) β) :
    ∃ (b0 b cap : Nat) (cc0 cc : Array Value) (t0 ty : TypeId), getO β (0, 0) = some (.pointer (some ⟨b0, 0, none⟩)) ∧ getO β (0, 2) = some (.slice (some ⟨b, 0, none⟩) es.length cap) ∧ w.heap[b0]? = some (.cells cc0 t0 (0, 0)) ∧ w.heap[b]? = some (.cells cc ty (0, 0)) ∧ b ≠ b0 ∧
      cc0.size = 2 ∧ cc0[1]? = some (.slice (some ⟨b, 0, none⟩) es.length cap) ∧ es.length ≤ cap ∧ cap * 2 ≤ cc.size ∧ (∀ j, j < es.length * 2 → ∃ v : Value, cc[j]? = some v ∧ v.oneCell' = true) ∧
      ∀ wf : World, wf.heap.size = w.heap.size → wf.os = w.os → wf.output = w.output → (∀ x, x ≠ b → x ≠ b0 → wf.heap[x]? = w.heap[x]?) → wf.heap[b]? = some (.cells (cutC cc k es.length) ty (0, 0)) →
        wf.heap[b0]? = some (.cells (cc0.setIfInBounds 1 (.slice (some ⟨b, 0, none⟩) (es.length - 1) cap)) t0 (0, 0)) →
        ∃ σ', RepS wf σ' ([.box [.d (.s a), .d (.sl (es.eraseIdx k))], o1, .dead] :: Ω) β ∧ Keep ([.box [.d (.s a), .msl (0, 2)], o1, .mrow 2 es] :: Ω) β ([.box [.d (.s a), .d (.sl (es.eraseIdx k))], o1, .dead] :: Ω) β ∧
          Step ([.box [.d (.s a), .msl (0, 2)], o1, .mrow 2 es] :: Ω) β σ w ([.box [.d (.s a), .d (.sl (es.eraseIdx k))], o1, .dead] :: Ω) β σ' wf := by
  obtain ⟨hh0, g0, b0, cc0, t0, rfl, hb0, hσ0, hcs0⟩ := hS.obj (0, 0) _ rfl
  obtain ⟨hh2, g2, hz, ad, cap, rfl, hcap, hcase⟩ := hS.obj (0, 2) _ rfl
  have hcap0 : cap ≠ 0 := by omega
  obtain ⟨b, cc, ty, rfl, hb, hσ, hfit, hcells⟩ := hcase.resolve_left hcap0
  obtain ⟨v0, f0, r0, o0⟩ := hcs0.2 0 _ rfl
  obtain ⟨v1, f1, r1, _⟩ := hcs0.2 1 _ rfl
  have hv1 : v1 = .slice (some ⟨b, 0, none⟩) es.length cap := by
    obtain ⟨o, ho, hl⟩ := r1
    cases ho
    have := hl _ _ rfl
    exact (Option.some.inj (this.symm.trans g2))
  subst hv1
  have hs0 : cc0.size = 2 := by have := hcs0.1; simpa using this.symm
  have hbb : b ≠ b0 := by
    rintro rfl
    have := hS.apart (0, 0) (0, 2) _ _ _ _ b rfl g0 rfl rfl g2 (by simp [owns, blk, hcap0])
    cases this
  have hfl := flat_len es 2 hz
  have hn2 : es.length * 2 ≤ cc.size := by omega
  have hlt := lt_of_some hb
  refine ⟨b0, b, cap, cc0, cc, t0, ty, g0, g2, hb0, hb, hbb, hs0, by simpa using f1, hcap, hfit, fun j hj => ?_, fun wf q1 q2 q3 q4 q5 q6 => ?_⟩
  · obtain ⟨v, h1, h2⟩ := hcells j _ (List.getElem?_eq_getElem (by omega))
    exact ⟨v, h1, h2.one⟩
  have hel : (es.eraseIdx k).length = es.length - 1 := List.length_eraseIdx_of_lt hk
  let w1 : World := w.setRow b (cutC cc k es.length)
  let σ' : Nat → Nat := fun x => if x = b then (es.length - 1) * 2 else σ x
  have hcs := cutC_size hk hn2
  have h1b : w1.heap[b]? = some (.cells (cutC cc k es.length) ty (0, 0)) := setRow_heap w b cc _ ty (0, 0) hb
  have h1o : ∀ x, x ≠ b → w1.heap[x]? = w.heap[x]? := fun x hx => setRow_heap_ne _ _ _ _ hx
  have hn1 : Near w σ w1 σ' := by
    intro b1 c1 t1 fz1 e1
    by_cases hb1 : b1 = b
    · subst hb1
      rw [hb] at e1; cases e1
      exact ⟨by simp only [σ', if_true]; omega, fun h => by omega, _, h1b, hcs, fun i hi => by omega⟩
    · exact ⟨by simp only [σ', if_neg hb1]; exact Nat.le_refl _, fun _ => if_neg hb1, c1, (h1o b1 hb1).trans e1, rfl, fun _ _ => rfl⟩
  have hl1 : ∀ x, x < w1.heap.size ∨ σ' x = 0 := fun x => by
    by_cases hx : x = b
    · left; subst hx; show _ < (w.setRow _ _).heap.size; rw [setRow_size]; exact hlt
    · rcases hS.live x with h | h
      · left; show _ < (w.setRow _ _).heap.size; rw [setRow_size]; exact h
      · right; simp only [σ', if_neg hx]; exact h
  obtain ⟨hS1, hk1, hst1⟩ := hS.set (k := (0, 2)) (o' := .dead) (h' := .slice (some ⟨b, 0, none⟩) es.length cap) rfl g2 (w' := w1) (σ' := σ') (by show _ ≤ (w.setRow _ _).heap.size; rw [setRow_size]; exact Nat.le_refl _) rfl rfl hn1 hl1
    (fun x hx hno => ⟨h1o x fun e => hno (by subst e; simp [owns, blk, hcap0]), if_neg fun e => hno (by subst e; simp [owns, blk, hcap0])⟩) (.inl rfl) trivial (fun x hx => by cases hx)
  rw [setO_setO undef β (0, 2) _ g2] at hS1 hk1 hst1
  have hrest : RepD w1 σ' (.sl (es.eraseIdx k)) (.slice (some ⟨b, 0, none⟩) (es.length - 1) cap) := by
    rw [← hel]
    refine .sl b 0 cap 2 _ (fun j => ((cutC cc k es.length)[j]?).getD undef) (cutC cc k es.length) ty (0, 0) (by omega) (fun e he => hz e (List.mem_of_mem_eraseIdx he)) h1b (by simp only [σ', if_true, hel]; omega) (fun j hj => ?_) (fun j d hd => ?_)
    · rw [hel] at hj
      rw [Nat.zero_add, Array.getElem?_eq_getElem (by rw [hcs]; omega)]
      rfl
    · have hjl : j < (es.length - 1) * 2 := by
        have := (List.getElem?_eq_some_iff.1 hd).1
        rw [flat_len (es.eraseIdx k) 2 (fun e he => hz e (List.mem_of_mem_eraseIdx he)), hel] at this
        exact this
      rw [flat_erase hz hk] at hd
      split at hd
      · rename_i hj
        obtain ⟨v, h1, h2⟩ := hcells j d hd
        rw [cutC_low hk hn2 hj, h1]
        exact h2.mono hn1
      · rename_i hj
        obtain ⟨v, h1, h2⟩ := hcells (j + 2) d hd
        rw [cutC_high hk hn2 (by omega) hjl, h1]
        exact h2.mono hn1
  have hb0' : w1.heap[b0]? = some (.cells cc0 t0 (0, 0)) := (h1o b0 (Ne.symm hbb)).trans hb0
  have hlt0 := lt_of_some hb0
  have hfx : ∀ x, x ≠ b0 → wf.heap[x]? = w1.heap[x]? := fun x hx => by
    by_cases e : x = b
    · subst e; rw [q5, h1b]
    · rw [q4 x e hx, h1o x e]
  have hsz1 : w1.heap.size = w.heap.size := setRow_size ..
  have hn2' : Near w1 σ' wf σ' := by
    intro x c1 t1 fz1 e1
    by_cases e : x = b0
    · subst e
      rw [hb0'] at e1; cases e1
      have : σ' x = 0 := (if_neg (Ne.symm hbb)).trans hσ0
      exact ⟨Nat.le_refl _, fun _ => rfl, _, q6, by simp, fun i hi => by omega⟩
    · exact ⟨Nat.le_refl _, fun _ => rfl, c1, (hfx x e).trans e1, rfl, fun _ _ => rfl⟩
  obtain ⟨hS2, hk2, hst2⟩ := hS1.set (k := (0, 0)) (o := .box [.d (.s a), .msl (0, 2)]) (o' := .box [.d (.s a), .d (.sl (es.eraseIdx k))]) (h' := .pointer (some ⟨b0, 0, none⟩)) rfl g0 (w' := wf) (σ' := σ') (by rw [q1, hsz1]; exact Nat.le_refl _) q2 q3 hn2' (fun x => by rw [q1]; rw [← hsz1]; exact hl1 x)
    (fun x hx hno => ⟨hfx x fun e => hno (by subst e; rfl), rfl⟩) (.inr ⟨⟨_, rfl⟩, rfl⟩)
    ⟨b0, _, t0, rfl, q6, (if_neg (Ne.symm hbb)).trans hσ0, by simp [hs0], fun j x hx => by
      match j, hx with
      | 0, hx =>
        cases hx
        refine ⟨v0, ?_, by cases r0; constructor, o0⟩
        rw [Array.getElem?_toList, Array.getElem?_setIfInBounds_ne (by omega)]
        rw [Array.getElem?_toList] at f0
        exact f0
      | 1, hx =>
        cases hx
        refine ⟨_, ?_, hrest.mono hn2', rfl⟩
        rw [Array.getElem?_toList, Array.getElem?_setIfInBounds_self_of_lt (by omega)]
      | j + 2, hx => simp at hx⟩ (fun x hx => .inl hx)
  rw [setO_setO undef β (0, 0) _ g0] at hS2 hk2 hst2
  exact ⟨σ', hS2, hk1.trans hk2, hst1.trans hst2⟩
end
end Go.Ab

namespace Go.Proofs.YtnceiannponbjaaGreat
open Go Go.Ab
theorem turn_no {bs : List Int} (hB : Bytes bs) (c : Cu bs) (l j : Nat) (S : Store) (x : MSExpr) (hk : getO S (l, j) = some (.box (cur c))) (hx : x.sz ≤ 1048576) (hno : x.fList.length = 0 ∨ (onceD 3 c).1 = false) :
    ACall Tryz.prog 33 [.c (.ptr (l, j) 0), x.v] S (fun r S1 => r = x.v ∧ S1 = setO S (l, j) (.box (cur (if x.fList.length = 0 then c else (onceD 3 c).2)))) := by
  by_cases h0 : x.fList.length = 0
  · have d0 : decide (0 < (x.fList.length : Int)) = false := decide_eq_false (by omega)
    rw [if_pos h0, setO_setO .dead S (l, j) _ hk]
    refine acall_cwc [39] (rs := [.cell 4 31]) Tryz.checked.mixed Tryz.func33 Tryz.ntmps33 rfl rfl rfl rfl rfl ?_
    simp -implicitDefEqProofs (disch := omega) only [go_sem, d0]
    first | done | exact ⟨rfl, rfl⟩
  · have h1 := hno.resolve_left h0
    have d0 : decide (0 < (x.fList.length : Int)) = true := decide_eq_true (by omega)
    have q1 := fun fr : List Ab.Obj => l1Once_ok hB c (1 + l) j (fr :: S) 3 (by rw [getO_up1]; exact hk) (by omega) (by omega)
    simp only [h1, setO_up1] at q1
    rw [if_neg h0]
    refine acall_cwc [39] (rs := [.cell 4 31]) Tryz.checked.mixed Tryz.func33 Tryz.ntmps33 rfl rfl rfl rfl rfl ?_
    simp -implicitDefEqProofs (disch := omega) only [go_sem, d0]
    refine call_d rfl (q1 _) ?_
    simp -implicitDefEqProofs (disch := omega) only [go_sem, d0, setO_up1]
    first | done | exact ⟨rfl, rfl⟩
theorem turn_0 {bs : List Int} (hB : Bytes bs) (c c1 c2 c3 : Cu bs) (k : Nat) (l j : Nat) (S : Store) (x : MSExpr) (hk : getO S (l, j) = some (.box (cur c))) (hx : x.sz ≤ 1048576) (h0 : x.fList.length ≠ 0)
    (h1 : onceD 3 c = (true, c1)) (h2 : belowG x.fList.length c1 = ((k : Int), c2)) (h3 : belowD 3 c2 = (0, c3)) :
    ACall Tryz.prog 33 [.c (.ptr (l, j) 0), x.v] S (fun r S1 => r = (turnK x 0 k c3).1.v ∧ S1 = setO S (l, j) (.box (cur (turnK x 0 k c3).2))) := by
  have g : ∀ x : Ab.Obj, getO (setO S (l, j) x) (l, j) = some x := fun x => getO_setO_eq _ _ _ _ hk
  have hxl : x.fList.length ≤ 1048576 := by rw [sx_sz] at hx; omega
  have d0 : decide (0 < (x.fList.length : Int)) = true := decide_eq_true (by omega)
  have rk := belowG_rng (n := x.fList.length) c1 (by omega)
  rw [h2] at rk
  simp only at rk
  have hkl : k < x.fList.length := by omega
  have q1 := fun fr : List Ab.Obj => l1Once_ok hB c (1 + l) j (fr :: S) 3 (by rw [getO_up1]; exact hk) (by omega) (by omega)
  simp only [h1, setO_up1] at q1
  have q2 := fun fr : List Ab.Obj => l1BelowG_ok hB c1 (1 + l) j (fr :: setO S (l, j) (.box (cur c1))) x.fList.length (by rw [getO_up1]; exact g _) (by omega) (by omega)
  simp only [h2, setO_up1, setO_twice] at q2
  have q3 := fun fr : List Ab.Obj => l1Below_ok hB c2 (1 + l) j (fr :: setO S (l, j) (.box (cur c2))) 3 (by rw [getO_up1]; exact g _) (by omega) (by omega)
  simp only [h3, setO_up1, setO_twice] at q3
  have q4 := fun fr : List Ab.Obj => l2Sx_ok hB 1 c3 (1 + l) j (fr :: setO S (l, j) (.box (cur c3))) (by rw [getO_up1]; exact g _) (by omega)
  simp only [setO_up1, setO_twice] at q4
  have hne : x.fList.map MSExpr.enc ≠ [] := fun e => h0 (by rw [← List.length_map (f := MSExpr.enc), e]; rfl)
  have hplw := x.plw.1
  rw [MSExpr.enc_eq] at hplw
  have qc := fun (own : List Ab.Obj) (Ω : Store) => ACall.ownRow (f := 69) (args := [x.v]) (own0 := own) (Ω := Ω) (a := x.fAtom) (z := 2) hne enc_rows (by simpa [plR, plD] using hplw) (P := Tryz.prog) (fun n => by
    have := l2Copy_lab x n hx
    rw [MSExpr.enc_eq] at this
    exact this)
  have hT : turnK x 0 k c3 = (.mk x.fAtom (x.fList.set k (sxN 1 c3).1), (sxN 1 c3).2) := if_pos rfl
  rw [hT]
  obtain ⟨y, hy⟩ : ∃ y, y = (sxN 1 c3).1 := ⟨_, rfl⟩
  obtain ⟨c4, hc4⟩ : ∃ c4, c4 = (sxN 1 c3).2 := ⟨_, rfl⟩
  simp only [← hy, ← hc4] at q4 ⊢
  refine acall_cwc [39] (rs := [.cell 4 31]) Tryz.checked.mixed Tryz.func33 Tryz.ntmps33 rfl rfl rfl rfl rfl ?_
  simp -implicitDefEqProofs (disch := omega) only [go_sem, d0]
  refine call_d rfl (q1 _) ?_
  simp -implicitDefEqProofs (disch := omega) only [go_sem, d0, setO_up1]
  refine call_d rfl (qc _ _) ?_
  simp -implicitDefEqProofs (disch := omega) only [go_sem, setO_up1]
  refine call_d rfl (q2 _) ?_
  simp -implicitDefEqProofs (disch := omega) only [go_sem, setO_up1, setO_twice]
  refine call_d rfl (q3 _) ?_
  simp -implicitDefEqProofs (disch := omega) only [go_sem, setO_up1, setO_twice]
  refine call_d rfl (q4 _) ?_
  simp -implicitDefEqProofs (disch := omega) only [go_sem, setO_up1, setO_twice]
  (repeat (with_reducible refine And.intro ?_ ?_; focus first | omega | rfl | assumption | exact ⟨_, rfl, rfl⟩ | (simp; omega) | (simp; done)))
  refine ⟨by cases l <;> rfl, ?_⟩
  simp -implicitDefEqProofs (disch := omega) only [go_sem, setO_up1, setO_twice]
  first
  | done
  | (simp only [List.map_set, MSExpr.enc_eq, MSExpr.fAtom, MSExpr.fList, MSExpr.v]; done)
  | (simp only [List.map_set, MSExpr.enc_eq, MSExpr.fAtom, MSExpr.fList, MSExpr.v]; rfl)
theorem turn_2 {bs : List Int} (hB : Bytes bs) (c c1 c2 c3 : Cu bs) (k : Nat) (l j : Nat) (S : Store) (x : MSExpr) (hk : getO S (l, j) = some (.box (cur c))) (hx : x.sz ≤ 1048576) (h0 : x.fList.length ≠ 0)
    (h1 : onceD 3 c = (true, c1)) (h2 : belowG x.fList.length c1 = ((k : Int), c2)) (h3 : belowD 3 c2 = (2, c3)) :
    ACall Tryz.prog 33 [.c (.ptr (l, j) 0), x.v] S (fun r S1 => r = (turnK x 2 k c3).1.v ∧ S1 = setO S (l, j) (.box (cur (turnK x 2 k c3).2))) := by
  have g : ∀ x : Ab.Obj, getO (setO S (l, j) x) (l, j) = some x := fun x => getO_setO_eq _ _ _ _ hk
  have hxl : x.fList.length ≤ 1048576 := by rw [sx_sz] at hx; omega
  have d0 : decide (0 < (x.fList.length : Int)) = true := decide_eq_true (by omega)
  have rk := belowG_rng (n := x.fList.length) c1 (by omega)
  rw [h2] at rk
  simp only at rk
  have hkl : k < x.fList.length := by omega
  have q1 := fun fr : List Ab.Obj => l1Once_ok hB c (1 + l) j (fr :: S) 3 (by rw [getO_up1]; exact hk) (by omega) (by omega)
  simp only [h1, setO_up1] at q1
  have q2 := fun fr : List Ab.Obj => l1BelowG_ok hB c1 (1 + l) j (fr :: setO S (l, j) (.box (cur c1))) x.fList.length (by rw [getO_up1]; exact g _) (by omega) (by omega)
  simp only [h2, setO_up1, setO_twice] at q2
  have q3 := fun fr : List Ab.Obj => l1Below_ok hB c2 (1 + l) j (fr :: setO S (l, j) (.box (cur c2))) 3 (by rw [getO_up1]; exact g _) (by omega) (by omega)
  simp only [h3, setO_up1, setO_twice] at q3
  have qc := fun (own : List Ab.Obj) => Esc.push (pre := [.d (.s x.fAtom)]) (post := []) rfl rfl (S' := own :: setO S (l, j) (.box (cur c1))) rfl (l2Copy_esc x hx (own :: setO S (l, j) (.box (cur c1))))
  have hT : turnK x 2 k c3 = (.mk x.fAtom (x.fList ++ [x.fList.getD k zeroX]), c3) := rfl
  rw [hT]
  simp only [pushL_cons, topL_cons, List.cons_append, List.nil_append] at qc
  refine acall_cwc [39] (rs := [.cell 4 31]) Tryz.checked.mixed Tryz.func33 Tryz.ntmps33 rfl rfl rfl rfl rfl ?_
  simp -implicitDefEqProofs (disch := omega) only [go_sem, d0]
  refine call_d rfl (q1 _) ?_
  simp -implicitDefEqProofs (disch := omega) only [go_sem, d0, setO_up1]
  refine call_d rfl (qc _) ?_
  simp -implicitDefEqProofs (disch := omega) only [go_sem, setO_up1]
  refine call_d rfl (q2 _) ?_
  simp -implicitDefEqProofs (disch := omega) only [go_sem, setO_up1, setO_twice]
  refine call_d rfl (q3 _) ?_
  simp -implicitDefEqProofs (disch := omega) only [go_sem, setO_up1, setO_twice]
  (repeat (with_reducible refine And.intro ?_ ?_; focus first | omega | rfl | assumption | exact ⟨_, rfl, rfl⟩ | (simp; omega) | (simp; done)))
  refine ⟨by cases l <;> rfl, ?_⟩
  simp -implicitDefEqProofs (disch := omega) only [go_sem, setO_up1, setO_twice]
  have hg : x.fList.getD k zeroX = x.fList[k] := by rw [List.getD_eq_getElem?_getD, List.getElem?_eq_getElem hkl]; rfl
  rw [hg]
  first
  | done
  | (simp only [List.map_append, List.map_cons, List.map_nil, MSExpr.enc_eq, MSExpr.fAtom, MSExpr.fList, MSExpr.v]; done)
theorem xS2 : (Tryz.prog.info? 31).map (fun i => i.size) = some 2 := by kernel_rfl
theorem ev_put_same {a : Act} {d : Nat} {v : Value} (h : d < a.tmps.size) : (a.put (some d) v).eval (.tmp d) = v := put_same h
theorem ev_put_none {a : Act} {v : Value} {x : Operand} : (a.put none v).eval x = a.eval x := rfl
theorem setC_far {w : World} {g j b : Nat} {v : Value} (h : b ≠ g) : (w.setCell ⟨g, j, none⟩ v).heap[b]? = w.heap[b]? := by
  simp [World.setCell, Array.getElem?_modify, Ne.symm h]
theorem setC_near {w : World} {g j : Nat} {v : Value} {cur : Array Value} {t : TypeId} {fz : Nat × Nat} (h : w.heap[g]? = some (.cells cur t fz)) : (w.setCell ⟨g, j, none⟩ v).heap[g]? = some (.cells (cur.setIfInBounds j v) t fz) := by
  simp [World.setCell, Array.getElem?_modify, h]
theorem frz_none {w : World} {b : Nat} {cs : Array Value} {T : TypeId} (hb : w.heap[b]? = some (.cells cs T (0, 0))) (j : Nat) : w.frozen? ⟨b, j, none⟩ = false := by
  simp [World.frozen?, hb]
theorem ev_put_other {a : Act} {d t : Nat} {v : Value} (h : d ≠ t) : (a.put (some d) v).eval (.tmp t) = a.eval (.tmp t) := put_other (by simpa using h)
theorem turn_1 {bs : List Int} (hB : Bytes bs) (c c1 c2 c3 : Cu bs) (k : Nat) (l j : Nat) (S : Store) (x : MSExpr) (hk : getO S (l, j) = some (.box (cur c))) (hx : x.sz ≤ 1048576) (h0 : x.fList.length ≠ 0)
    (h1 : onceD 3 c = (true, c1)) (h2 : belowG x.fList.length c1 = ((k : Int), c2)) (h3 : belowD 3 c2 = (1, c3)) :
    ACall Tryz.prog 33 [.c (.ptr (l, j) 0), x.v] S (fun r S1 => r = (turnK x 1 k c3).1.v ∧ S1 = setO S (l, j) (.box (cur (turnK x 1 k c3).2))) := by
  have g : ∀ x : Ab.Obj, getO (setO S (l, j) x) (l, j) = some x := fun x => getO_setO_eq _ _ _ _ hk
  have hxl : x.fList.length ≤ 1048576 := by rw [sx_sz] at hx; omega
  have d0 : decide (0 < (x.fList.length : Int)) = true := decide_eq_true (by omega)
  have rk := belowG_rng (n := x.fList.length) c1 (by omega)
  rw [h2] at rk
  simp only at rk
  have hkl : k < x.fList.length := by omega
  have q1 := fun fr : List Ab.Obj => l1Once_ok hB c (1 + l) j (fr :: S) 3 (by rw [getO_up1]; exact hk) (by omega) (by omega)
  simp only [h1, setO_up1] at q1
  have q2 := fun fr : List Ab.Obj => l1BelowG_ok hB c1 (1 + l) j (fr :: setO S (l, j) (.box (cur c1))) x.fList.length (by rw [getO_up1]; exact g _) (by omega) (by omega)
  simp only [h2, setO_up1, setO_twice] at q2
  have q3 := fun fr : List Ab.Obj => l1Below_ok hB c2 (1 + l) j (fr :: setO S (l, j) (.box (cur c2))) 3 (by rw [getO_up1]; exact g _) (by omega) (by omega)
  simp only [h3, setO_up1, setO_twice] at q3
  have hne : x.fList.map MSExpr.enc ≠ [] := fun e => h0 (by rw [← List.length_map (f := MSExpr.enc), e]; rfl)
  have hplw := x.plw.1
  rw [MSExpr.enc_eq] at hplw
  have qc := fun (own : List Ab.Obj) (Ω : Store) => ACall.ownRow (f := 69) (args := [x.v]) (own0 := own) (Ω := Ω) (a := x.fAtom) (z := 2) hne enc_rows (by simpa [plR, plD] using hplw) (P := Tryz.prog) (fun n => by
    have := l2Copy_lab x n hx
    rw [MSExpr.enc_eq] at this
    exact this)
  have hT : turnK x 1 k c3 = (.mk x.fAtom (x.fList.eraseIdx k), c3) := rfl
  rw [hT]
  refine acall_aw (rs := [.cell 4 31]) Tryz.checked.mixed Tryz.func33 Tryz.ntmps33 rfl rfl rfl rfl rfl ?_
  refine aw_seqC [39] Tryz.checked.mixed rfl ?_
  simp -implicitDefEqProofs (disch := omega) only [go_sem]
  refine aw_seq ?_
  refine aw_seqC [39] Tryz.checked.mixed rfl ?_
  simp -implicitDefEqProofs (disch := omega) only [go_sem, d0]
  refine call_d rfl (q1 _) ?_
  simp -implicitDefEqProofs (disch := omega) only [go_sem, d0, setO_up1]
  refine aw_yes rfl ?_
  refine aw_seqC [39] Tryz.checked.mixed rfl ?_
  simp -implicitDefEqProofs (disch := omega) only [go_sem, setO_up1]
  refine call_d rfl (qc _ _) ?_
  simp -implicitDefEqProofs (disch := omega) only [go_sem, setO_up1]
  refine aw_seqC [39] Tryz.checked.mixed rfl ?_
  simp -implicitDefEqProofs (disch := omega) only [go_sem, setO_up1]
  refine call_d rfl (q2 _) ?_
  simp -implicitDefEqProofs (disch := omega) only [go_sem, setO_up1, setO_twice]
  refine aw_seqC [39] Tryz.checked.mixed rfl ?_
  simp -implicitDefEqProofs (disch := omega) only [go_sem, setO_up1]
  refine call_d rfl (q3 _) ?_
  simp -implicitDefEqProofs (disch := omega) only [go_sem, setO_up1, setO_twice]
  refine aw_block ?_
  refine aw_seqC [39] Tryz.checked.mixed rfl ?_
  simp -implicitDefEqProofs (disch := omega) only [go_sem, setO_up1]
  refine aw_not rfl ?_
  refine aw_seqC [39] Tryz.checked.mixed rfl ?_
  simp -implicitDefEqProofs (disch := omega) only [go_sem, setO_up1]
  refine aw_yes rfl ?_
  refine aw_tm (tm' := [(3, .c (.ptr (0, 0) 0)), (4, .c (.ptr (0, 1) 0)), (5, .c (.d (.i .i64 k)))]) ?_ (fun t => ?_)
  rotate_left
  · by_cases e3 : t = 3
    · subst e3; exact .inl rfl
    by_cases e4 : t = 4
    · subst e4; exact .inl rfl
    by_cases e5 : t = 5
    · subst e5; exact .inl rfl
    exact .inr (show (if 3 = t then _ else if 4 = t then _ else if 5 = t then _ else V.any) = V.any by rw [if_neg (Ne.symm e3), if_neg (Ne.symm e4), if_neg (Ne.symm e5)])
  intro a w σ β hR
  obtain ⟨b0, b, cap, cc0, cc, t0, ty, g0, g2, hb0, hb, hbb, hs0, hc1, hcap, hfit, hone, hfin⟩ := cut_rep (k := k) (by rw [List.length_map]; exact hkl) hR.S
  rw [List.length_map] at g2 hc1 hcap hone hfin
  have e3 : a.eval (.tmp 3) = .pointer (some ⟨b0, 0, none⟩) := by
    obtain ⟨⟨o, ho, hl⟩, _⟩ := hR.T 3
    cases ho
    obtain ⟨bb, h1, h2⟩ := hl _ rfl
    rw [g0] at h1; cases h1; exact h2
  have e5 : a.eval (.tmp 5) = .int .i64 k := by
    obtain ⟨h, _⟩ := hR.T 5
    generalize hv : a.tmps.getD 5 undef = v at h
    cases h
    exact hv
  have hN := hR.size
  have hD := hR.defers
  have hTT := hR.T
  obtain ⟨n, hn⟩ : ∃ n, n = x.fList.length := ⟨_, rfl⟩
  rw [← hn] at g2 hc1 hcap hone hfin hkl hxl
  obtain ⟨i, hi, hi2⟩ : ∃ i, Tryz.prog.info? 31 = some i ∧ i.size = 2 := by
    have h := xS2
    cases hh : Tryz.prog.info? 31 with
    | none => rw [hh] at h; cases h
    | some i => rw [hh] at h; exact ⟨i, rfl, Option.some.inj h⟩
  have hrun := run_cut (P := Tryz.prog) (w := w.drew) (t := 29) (ty := 29) Tryz.underlying29 hi hi2 hb hkl hcap hfit hone
  obtain ⟨w1, hw1⟩ : ∃ w1, w1 = w.drew.setRow b (cutC cc k n) := ⟨_, rfl⟩
  obtain ⟨wf, hwf⟩ : ∃ wf, wf = w1.setCell ⟨b0, 1, none⟩ (.slice (some ⟨b, 0, none⟩) (n - 1) cap) := ⟨_, rfl⟩
  rw [← hw1] at hrun
  obtain ⟨W, w0e, w1e, w3e⟩ : ∃ W : Nat → World, W 0 = w.drew ∧ W 1 = w1 ∧ W 3 = wf := ⟨fun m => if m = 0 then w.drew else if m = 1 then w1 else wf, rfl, rfl, rfl⟩
  refine region_det 55 [9, 11] [[0], [0], [0], [0], [0], [0], [0], [0], [0], [0], [1], [1]] W Tryz.checked.mixed (by kernel_rfl) hN w0e ?_
  have m1 : (k : Int) ≤ (cap : Int) := by omega
  have m2 : ¬ cap < k := by omega
  have m3 : (k : Int) + 1 ≤ (n : Int) := by omega
  have m4 : (0 : Int) ≤ (k : Int) + 1 := by omega
  have m5 : ¬ n < k + 1 := by omega
  have m6 : IntKind.i64.wrap ((k : Int) + 1) = (k : Int) + 1 := IntWalk.i64_in _ (by omega)
  have hb0' : w1.heap[b0]? = some (.cells cc0 t0 (0, 0)) := by rw [hw1, setRow_heap_ne _ _ _ _ (Ne.symm hbb)]; exact hb0
  have r2 : w1.cell? ⟨b0, 1, none⟩ = some (.slice (some ⟨b, 0, none⟩) n cap) := by rw [cell_of hb0']; exact hc1
  have r3 := frz_none hb0' 1
  obtain ⟨σ', z1, z2, z3⟩ := hfin wf (by rw [hwf, hw1]; simp [World.setCell, World.setRow]) (by rw [hwf, hw1]; rfl) (by rw [hwf, hw1]; rfl)
    (fun y h1 h2 => by rw [hwf, setC_far h2, hw1, setRow_heap_ne _ _ _ _ h1]; rfl)
    (by rw [hwf, setC_far hbb, hw1]; exact setRow_heap w.drew b cc _ ty (0, 0) hb)
    (by rw [hwf]; exact setC_near hb0')
  rw [hn] at hkl
  clear hfin hn hw1 hb0'
  have hwf' : wf = w1.setCell ⟨b0, 1, none⟩ (.slice (some ⟨b, 0, none⟩) (n - 1) cap) := hwf
  clear hwf
  have r1 : w.drew.cell? ⟨b0, 1, none⟩ = some (.slice (some ⟨b, 0, none⟩) n cap) := by rw [cell_of (w := w.drew) (off := 1) hb0]; exact hc1
  refine DetAll.at1 (.pointer (some ⟨b0, 1, none⟩)) w0e w0e (does_run (by simp only [execOp, ev_put_other, ev_put_same, put_size, hN, ne_eq, Nat.reduceEqDiff, not_false_eq_true, Nat.reduceLT, e3, e5]; go_simp)) ?_
  refine DetAll.at1 (.slice (some ⟨b, 0, none⟩) n cap) w0e w0e (does_run (by simp only [execOp, ev_put_other, ev_put_same, put_size, hN, ne_eq, Nat.reduceEqDiff, not_false_eq_true, Nat.reduceLT, e3, e5]; go_simp)) ?_
  refine DetAll.at1 (.int .i64 k) w0e w0e (does_run (by simp only [execOp, ev_put_other, ev_put_same, put_size, hN, ne_eq, Nat.reduceEqDiff, not_false_eq_true, Nat.reduceLT, e3, e5]; go_simp)) ?_
  refine DetAll.at1 (.slice (some ⟨b, 0, none⟩) k cap) w0e w0e (does_run (by simp only [execOp, ev_put_other, ev_put_same, put_size, hN, ne_eq, Nat.reduceEqDiff, not_false_eq_true, Nat.reduceLT, e3, e5]; go_simp; try (intro h; omega))) ?_
  refine DetAll.at1 (.pointer (some ⟨b0, 1, none⟩)) w0e w0e (does_run (by simp only [execOp, ev_put_other, ev_put_same, put_size, hN, ne_eq, Nat.reduceEqDiff, not_false_eq_true, Nat.reduceLT, e3, e5]; go_simp)) ?_
  refine DetAll.at1 (.slice (some ⟨b, 0, none⟩) n cap) w0e w0e (does_run (by simp only [execOp, ev_put_other, ev_put_same, put_size, hN, ne_eq, Nat.reduceEqDiff, not_false_eq_true, Nat.reduceLT, e3, e5]; go_simp)) ?_
  refine DetAll.at1 (.int .i64 k) w0e w0e (does_run (by simp only [execOp, ev_put_other, ev_put_same, put_size, hN, ne_eq, Nat.reduceEqDiff, not_false_eq_true, Nat.reduceLT, e3, e5]; go_simp)) ?_
  refine DetAll.at1 (.int .i64 (k + 1)) w0e w0e (does_run (by simp only [execOp, ev_put_other, ev_put_same, put_size, hN, ne_eq, Nat.reduceEqDiff, not_false_eq_true, Nat.reduceLT, e3, e5]; go_simp)) ?_
  refine DetAll.at1 (restV b k n cap) w0e w0e (does_run (by simp only [execOp, ev_put_other, ev_put_same, put_size, hN, ne_eq, Nat.reduceEqDiff, not_false_eq_true, Nat.reduceLT, e3, e5]; go_simp; first | done | rfl | (rw [if_pos m3]; rfl))) ?_
  refine DetAll.at1 (.slice (some ⟨b, 0, none⟩) (n - 1) cap) w0e w1e (does_append rfl (by simp only [ev_put_other, ev_put_same, put_size, hN, ne_eq, Nat.reduceEqDiff, not_false_eq_true, Nat.reduceLT, e3, e5]) (by simp only [ev_put_other, ev_put_same, put_size, hN, ne_eq, Nat.reduceEqDiff, not_false_eq_true, Nat.reduceLT, e3, e5]) hrun) ?_
  refine DetAll.at1 (.pointer (some ⟨b0, 1, none⟩)) w1e w1e (does_run (by simp only [execOp, ev_put_other, ev_put_same, put_size, hN, ne_eq, Nat.reduceEqDiff, not_false_eq_true, Nat.reduceLT, e3, e5]; go_simp)) ?_
  refine DetAll.at1 undef w1e w3e (does_skip (by simp only [execOp, ev_put_other, ev_put_same, put_size, hN, ne_eq, Nat.reduceEqDiff, not_false_eq_true, Nat.reduceLT, e3, e5]; rw [hwf']; clear hwf'; go_simp)) ?_
  refine DetAll.done ?_
  rw [show W (2 ^ [9, 11].length - 1) = wf from w3e]
  refine ⟨⟨[(3, .c (.ptr (0, 0) 0)), (4, .c (.ptr (0, 1) 0))], _⟩, σ', β, ⟨by simp only [put_size]; exact hN, by simp only [put_defers]; exact hD, z1, fun t => ?_⟩, z3, Keep.refl _ _, ?_⟩
  · have ht := (hTT.mono z3.near z2) t
    by_cases e3' : t = 3
    · subst e3'
      have he : ∀ (y : Act), y.tmps.getD 3 undef = y.eval (.tmp 3) := fun _ => rfl
      rw [he]
      simp only [ev_put_other, ne_eq, Nat.reduceEqDiff, not_false_eq_true, ev_put_none]
      exact ht
    by_cases e4' : t = 4
    · subst e4'
      have he : ∀ (y : Act), y.tmps.getD 4 undef = y.eval (.tmp 4) := fun _ => rfl
      rw [he]
      simp only [ev_put_other, ne_eq, Nat.reduceEqDiff, not_false_eq_true, ev_put_none]
      exact ht
    show RepV _ _ _ _ (if 3 = t then _ else if 4 = t then _ else V.any) _
    rw [if_neg (Ne.symm e3'), if_neg (Ne.symm e4')]
    trivial
  simp -implicitDefEqProofs (disch := omega) only [go_sem]
  refine aw_fin [39] Tryz.checked.mixed rfl ?_
  simp -implicitDefEqProofs (disch := omega) only [go_sem]
  simp only [List.eraseIdx_eq_take_drop_succ, MSExpr.v, MSExpr.fAtom, MSExpr.fList, List.map_append, List.map_take, List.map_drop]
theorem l14Turned_ok {bs : List Int} (hB : Bytes bs) (c : Cu bs) (l j : Nat) (S : Store) (x : MSExpr) (hk : getO S (l, j) = some (.box (cur c))) (hx : x.sz ≤ 1048576) :
    ACall Tryz.prog 33 [.c (.ptr (l, j) 0), x.v] S (fun r S1 => r = (turnX x c).1.v ∧ S1 = setO S (l, j) (.box (cur (turnX x c).2))) := by
  have hxl : x.fList.length ≤ 1048576 := by rw [sx_sz] at hx; omega
  by_cases h0 : x.fList.length = 0
  · have := turn_no hB c l j S x hk hx (.inl h0)
    rw [if_pos h0] at this
    rw [turnX, if_pos h0]
    exact this
  by_cases ho : (onceD 3 c).1 = true
  · rw [turnX, if_neg h0, if_pos ho]
    have r1 := belowG_rng (n := x.fList.length) (onceD 3 c).2 (by omega)
    have r2 := belowD_rng (n := 3) (belowG x.fList.length (onceD 3 c).2).2 (by omega)
    have hk1 : belowG x.fList.length (onceD 3 c).2 = (((belowG x.fList.length (onceD 3 c).2).1.toNat : Int), (belowG x.fList.length (onceD 3 c).2).2) := Prod.ext (by show _ = _; simp only; omega) rfl
    have ho1 : onceD 3 c = (true, (onceD 3 c).2) := Prod.ext ho rfl
    have hm : (belowD 3 (belowG x.fList.length (onceD 3 c).2).2).1 = 0 ∨ (belowD 3 (belowG x.fList.length (onceD 3 c).2).2).1 = 1 ∨ (belowD 3 (belowG x.fList.length (onceD 3 c).2).2).1 = 2 := by omega
    rcases hm with hm | hm | hm
    · rw [hm]
      exact turn_0 hB c _ _ _ _ l j S x hk hx h0 ho1 hk1 (Prod.ext hm rfl)
    · rw [hm]
      exact turn_1 hB c _ _ _ _ l j S x hk hx h0 ho1 hk1 (Prod.ext hm rfl)
    · rw [hm]
      exact turn_2 hB c _ _ _ _ l j S x hk hx h0 ho1 hk1 (Prod.ext hm rfl)
  · have ho' : (onceD 3 c).1 = false := by cases h : (onceD 3 c).1 <;> simp_all
    have := turn_no hB c l j S x hk hx (.inr ho')
    rw [if_neg h0] at this
    rw [turnX, if_neg h0, if_neg ho]
    exact this
end Go.Proofs.YtnceiannponbjaaGreat

namespace Go.Proofs.YtnceiannponbjaaGreat
open Go Go.Ab
theorem l13Data_w {bs : List Int} (hB : Bytes bs) (c c2 : Cu bs) (k : Int) (l j : Nat) (S : Store) (hk : getO S (l, j) = some (.box (cur c))) (h2 : belowD 10 c = (k, c2)) (hk3 : k = 2 ∨ k = 3) :
    ACall Tryz.prog 14 [.c (.ptr (l, j) 0)] S (fun r S1 => r = (dataK k c2).1.v ∧ S1 = setO S (l, j) (.box (cur (dataK k c2).2))) := by
  have g : ∀ x : Ab.Obj, getO (setO S (l, j) x) (l, j) = some x := fun x => getO_setO_eq _ _ _ _ hk
  have q2 := fun fr : List Ab.Obj => l1Below_ok hB c (1 + l) j (fr :: S) 10 (by rw [getO_up1]; exact hk) (by omega) (by omega)
  simp only [h2, setO_up1] at q2
  obtain ⟨q, hq⟩ : ∃ q, q = dataK k c2 := ⟨_, rfl⟩
  rw [← hq]
  refine ACall.of_le ?_
  refine acall_cwRc [39] (rs := [.cell 2 27]) Tryz.checked.mixed Tryz.func14 Tryz.ntmps14 rfl rfl rfl rfl rfl ?_
  simp -implicitDefEqProofs (disch := omega) only [go_sem]
  refine call_w (l4Var_ok _) ?_
  simp -implicitDefEqProofs (disch := omega) only [go_sem]
  refine call_w (l4Var_ok _) ?_
  simp -implicitDefEqProofs (disch := omega) only [go_sem]
  (repeat (with_reducible refine And.intro ?_ ?_; focus first | omega | rfl | assumption | exact ⟨_, rfl, rfl⟩ | (simp; omega) | (simp; done)))
  refine call_w (l4Con_ok [108, 105, 115, 116] [varT [97]] rfl (by decide) (.inl rfl)) ?_
  simp -implicitDefEqProofs (disch := omega) only [go_sem]
  (repeat (with_reducible refine And.intro ?_ ?_; focus first | omega | rfl | assumption | exact ⟨_, rfl, rfl⟩ | (simp; omega) | (simp; done)))
  refine call_d rfl (q2 _) ?_
  rcases hk3 with rfl | rfl
  · simp only [dataK, reduceIte, Int.reduceEq] at hq
    simp -implicitDefEqProofs (disch := omega) only [go_sem, setO_up1, setO_twice]
    refine call_d rfl (l4Free_ok hB 2 c2 (1 + l) j _ (by rw [getO_up1]; exact g _) (by omega)) ?_
    simp -implicitDefEqProofs (disch := omega) only [go_sem, setO_up1, setO_twice]
    (repeat (with_reducible refine And.intro ?_ ?_; focus first | omega | rfl | assumption | exact ⟨_, rfl, rfl⟩ | (simp; omega) | (simp; done)))
    refine ⟨by cases l <;> rfl, ?_⟩
    simp -implicitDefEqProofs (disch := omega) only [go_sem, setO_up1, setO_twice]
    rw [hq]
    first | exact ⟨less_pure rfl, rfl⟩ | (refine ⟨less_pure ?_, rfl⟩; simp only [MDataType.v, List.map_cons, List.map_nil, List.map_append, MBound.enc_eq, MConstructor.enc_eq, MSignature.enc_eq, MMethod.enc_eq, MType.enc_eq, MExpr.enc_eq, List.cons_append, List.nil_append]; rfl)
  · simp only [dataK, reduceIte, Int.reduceEq] at hq
    simp -implicitDefEqProofs (disch := omega) only [go_sem, setO_up1, setO_twice]
    refine call_m [true] rfl (l1Pick_ok hB c2 (1 + l) j _ ctorL (by rw [getO_up1]; exact g _) (by decide) (by decide)) ?_
    simp -implicitDefEqProofs (disch := omega) only [go_sem, setO_up1, setO_twice]
    (repeat (with_reducible refine And.intro ?_ ?_; focus first | omega | rfl | assumption | exact ⟨_, rfl, rfl⟩ | (simp; omega) | (simp; done)))
    refine ⟨by cases l <;> rfl, ?_⟩
    simp -implicitDefEqProofs (disch := omega) only [go_sem, setO_up1, setO_twice]
    rw [hq]
    first | exact ⟨less_pure rfl, rfl⟩ | (refine ⟨less_pure ?_, rfl⟩; simp only [MDataType.v, List.map_cons, List.map_nil, List.map_append, MBound.enc_eq, MConstructor.enc_eq, MSignature.enc_eq, MMethod.enc_eq, MType.enc_eq, MExpr.enc_eq, List.cons_append, List.nil_append]; rfl)
theorem l13Data_n {bs : List Int} (hB : Bytes bs) (c c2 : Cu bs) (k : Int) (l j : Nat) (S : Store) (hk : getO S (l, j) = some (.box (cur c))) (h2 : belowD 10 c = (k, c2)) (hk2 : k ≠ 2) (hk3 : k ≠ 3) :
    ACall Tryz.prog 14 [.c (.ptr (l, j) 0)] S (fun r S1 => r = (dataK k c2).1.v ∧ S1 = setO S (l, j) (.box (cur (dataK k c2).2))) := by
  have g : ∀ x : Ab.Obj, getO (setO S (l, j) x) (l, j) = some x := fun x => getO_setO_eq _ _ _ _ hk
  have q2 := fun fr : List Ab.Obj => l1Below_ok hB c (1 + l) j (fr :: S) 10 (by rw [getO_up1]; exact hk) (by omega) (by omega)
  simp only [h2, setO_up1] at q2
  obtain ⟨q, hq⟩ : ∃ q, q = dataK k c2 := ⟨_, rfl⟩
  rw [← hq]
  refine ACall.of_le ?_
  refine acall_cwc [39] (rs := [.cell 2 27]) Tryz.checked.mixed Tryz.func14 Tryz.ntmps14 rfl rfl rfl rfl rfl ?_
  simp -implicitDefEqProofs (disch := omega) only [go_sem]
  refine call_w (l4Var_ok _) ?_
  simp -implicitDefEqProofs (disch := omega) only [go_sem]
  refine call_w (l4Var_ok _) ?_
  simp -implicitDefEqProofs (disch := omega) only [go_sem]
  (repeat (with_reducible refine And.intro ?_ ?_; focus first | omega | rfl | assumption | exact ⟨_, rfl, rfl⟩ | (simp; omega) | (simp; done)))
  refine call_w (l4Con_ok [108, 105, 115, 116] [varT [97]] rfl (by decide) (.inl rfl)) ?_
  simp -implicitDefEqProofs (disch := omega) only [go_sem]
  (repeat (with_reducible refine And.intro ?_ ?_; focus first | omega | rfl | assumption | exact ⟨_, rfl, rfl⟩ | (simp; omega) | (simp; done)))
  refine call_d rfl (q2 _) ?_
  simp -implicitDefEqProofs (disch := omega) only [go_sem, setO_up1, setO_twice]
  with_reducible refine split2 (fun hb => ?_) (fun hb => ?_) <;> have h := hb <;> (try simp only [wf_preprocess] at h) <;> simp -implicitDefEqProofs (disch := omega) only [go_sem, hb, setO_up1, setO_twice] <;> (repeat (with_reducible refine And.intro ?_ ?_; focus first | omega | rfl | assumption | exact ⟨_, rfl, rfl⟩ | (simp; omega) | (simp; done)))
  · subst h
    simp only [dataK, reduceIte, Int.reduceEq] at hq
    refine call_m [true] rfl (l1Pick_ok hB c2 (1 + l) j _ abL (by rw [getO_up1]; exact g _) (by decide) (by decide)) ?_
    simp -implicitDefEqProofs (disch := omega) only [go_sem, setO_up1, setO_twice]
    (repeat (with_reducible refine And.intro ?_ ?_; focus first | omega | rfl | assumption | exact ⟨_, rfl, rfl⟩ | (simp; omega) | (simp; done)))
    refine ⟨by cases l <;> rfl, ?_⟩
    simp -implicitDefEqProofs (disch := omega) only [go_sem, setO_up1, setO_twice]
    rw [hq]
    first | exact ⟨less_pure rfl, rfl⟩ | (refine ⟨less_pure ?_, rfl⟩; simp only [MDataType.v, List.map_cons, List.map_nil, List.map_append, MBound.enc_eq, MConstructor.enc_eq, MSignature.enc_eq, MMethod.enc_eq, MType.enc_eq, MExpr.enc_eq, List.cons_append, List.nil_append]; rfl)
  have e0 := h
  with_reducible refine split2 (fun hb => ?_) (fun hb => ?_) <;> have h := hb <;> (try simp only [wf_preprocess] at h) <;> simp -implicitDefEqProofs (disch := omega) only [go_sem, hb, setO_up1, setO_twice] <;> (repeat (with_reducible refine And.intro ?_ ?_; focus first | omega | rfl | assumption | exact ⟨_, rfl, rfl⟩ | (simp; omega) | (simp; done)))
  · subst h
    simp only [dataK, reduceIte, Int.reduceEq] at hq
    have hx := belowD_rng (n := 2) c2 (by omega)
    obtain ⟨m, hm⟩ : ∃ m : Nat, (belowD 2 c2).1 = (m : Int) := ⟨(belowD 2 c2).1.toNat, by omega⟩
    have q3 := fun fr : List Ab.Obj => l1Below_ok hB c2 (1 + l) j (fr :: setO S (l, j) (.box (cur c2))) 2 (by rw [getO_up1]; exact g _) (by omega) (by omega)
    rw [hm] at hx hq
    simp only [hm, setO_up1, setO_twice] at q3
    refine call_d rfl (q3 _) ?_
    simp -implicitDefEqProofs (disch := omega) only [go_sem, setO_up1, setO_twice]
    (repeat (with_reducible refine And.intro ?_ ?_; focus first | omega | rfl | assumption | exact ⟨_, rfl, rfl⟩ | (simp; omega) | (simp; done)))
    refine ⟨by cases l <;> rfl, ?_⟩
    simp -implicitDefEqProofs (disch := omega) only [go_sem, setO_up1, setO_twice]
    rw [hq]
    have hm2 : m = 0 ∨ m = 1 := by omega
    clear hm q3
    rcases hm2 with rfl | rfl
    all_goals
      refine ⟨less_pure ?_, rfl⟩
      rfl
  have e1 := h
  with_reducible refine split2 (fun hb => ?_) (fun hb => ?_) <;> have h := hb <;> (try simp only [wf_preprocess] at h) <;> simp -implicitDefEqProofs (disch := omega) only [go_sem, hb, setO_up1, setO_twice] <;> (repeat (with_reducible refine And.intro ?_ ?_; focus first | omega | rfl | assumption | exact ⟨_, rfl, rfl⟩ | (simp; omega) | (simp; done)))
  · exact absurd h hk2
  with_reducible refine split2 (fun hb => ?_) (fun hb => ?_) <;> have h := hb <;> (try simp only [wf_preprocess] at h) <;> simp -implicitDefEqProofs (disch := omega) only [go_sem, hb, setO_up1, setO_twice] <;> (repeat (with_reducible refine And.intro ?_ ?_; focus first | omega | rfl | assumption | exact ⟨_, rfl, rfl⟩ | (simp; omega) | (simp; done)))
  · exact absurd h hk3
  simp only [dataK, if_neg e0, if_neg e1, if_neg hk2, if_neg hk3] at hq
  rw [hq]
  first | exact ⟨less_pure rfl, rfl⟩ | (refine ⟨less_pure ?_, rfl⟩; simp only [MDataType.v, List.map_cons, List.map_nil, List.map_append, MBound.enc_eq, MConstructor.enc_eq, MSignature.enc_eq, MMethod.enc_eq, MType.enc_eq, MExpr.enc_eq, List.cons_append, List.nil_append]; rfl)
theorem l13Data_ok {bs : List Int} (hB : Bytes bs) (c : Cu bs) (l j : Nat) (S : Store) (hk : getO S (l, j) = some (.box (cur c))) :
    ACall Tryz.prog 14 [.c (.ptr (l, j) 0)] S (fun r S1 => r = (dataX c).1.v ∧ S1 = setO S (l, j) (.box (cur (dataX c).2))) := by
  unfold dataX
  by_cases h2 : (belowD 10 c).1 = 2
  · exact l13Data_w hB c _ _ l j S hk rfl (.inl h2)
  by_cases h3 : (belowD 10 c).1 = 3
  · exact l13Data_w hB c _ _ l j S hk rfl (.inr h3)
  · exact l13Data_n hB c _ _ l j S hk rfl h2 h3
end Go.Proofs.YtnceiannponbjaaGreat

namespace Go.Ab
def atA (l : List MSExpr) (i : Nat) : List UInt8 := (l.getD i zeroX).fAtom
theorem atA_get {l : List MSExpr} {i : Nat} (h : i < l.length) : atA l i = l[i].fAtom := by simp [atA, List.getD, h]
theorem atA_no {l : List MSExpr} {i : Nat} (h : l.length ≤ i) : atA l i = [] := by simp [atA, List.getD, h]; rfl
def namesX (l : List MSExpr) : List (List UInt8) := if l.all (fun x => decide (x.fAtom ≠ [])) = true then l.map MSExpr.fAtom else []
theorem namesX_words : ∀ {vs : List (List UInt8)}, (∀ v ∈ vs, v ≠ []) → namesX (wordsX vs) = vs := fun {vs} h => by
  unfold namesX wordsX
  rw [if_pos (List.all_eq_true.2 fun x hx => ?_), List.map_map]
  · conv => rhs; rw [← List.map_id vs]
    rfl
  · obtain ⟨v, hv, rfl⟩ := List.mem_map.1 hx
    exact decide_eq_true (h v hv)
theorem atoms_sz : ∀ l : List MSExpr, ((l.map MSExpr.fAtom).map List.length).sum ≤ szX l
  | [] => by simp [szX]
  | x :: l => by
    have := atoms_sz l
    rw [List.map_cons, List.map_cons, List.sum_cons, szX, sx_sz]; omega
theorem namesX_sz (l : List MSExpr) : (namesX l).length ≤ l.length ∧ ((namesX l).map List.length).sum ≤ szX l := by
  unfold namesX
  split
  · refine ⟨by simp, ?_⟩
    exact atoms_sz l
  · simp
mutual
def decT (b : Bool) : MSExpr → MType
  | .mk a l => if a = [] then
      if l.length < 2 then .mk 0 [] []
      else if atA l 0 = wDyn ∧ (b = true ∨ l.length = 2 ∧ atA l 1 ≠ []) then .mk 4 (atA l 1) []
      else if atA l 0 = wAssoc ∧ (b = true ∨ l.length = 3 ∧ atA l 1 ≠ []) then .mk 3 (atA l 1) ((decTs b l).drop 2)
      else .mk 2 (atA l 0) ((decTs b l).drop 1)
    else if a.head? = some 39 then .mk 1 a.tail [] else .mk 2 a []
def decTs (b : Bool) : List MSExpr → List MType
  | [] => []
  | x :: xs => decT b x :: decTs b xs
end
theorem decTs_map (b : Bool) : ∀ l, decTs b l = l.map (decT b)
  | [] => rfl
  | t :: ts => by rw [decTs, List.map_cons, decTs_map b ts]
theorem decT_eq (b : Bool) (x : MSExpr) : decT b x = if x.fAtom = [] then
      if x.fList.length < 2 then .mk 0 [] []
      else if atA x.fList 0 = wDyn ∧ (b = true ∨ x.fList.length = 2 ∧ atA x.fList 1 ≠ []) then .mk 4 (atA x.fList 1) []
      else if atA x.fList 0 = wAssoc ∧ (b = true ∨ x.fList.length = 3 ∧ atA x.fList 1 ≠ []) then .mk 3 (atA x.fList 1) ((x.fList.map (decT b)).drop 2)
      else .mk 2 (atA x.fList 0) ((x.fList.map (decT b)).drop 1)
    else if x.fAtom.head? = some 39 then .mk 1 x.fAtom.tail [] else .mk 2 x.fAtom [] := by
  cases x; rw [decT, decTs_map]; rfl
theorem szT_append : ∀ a b, szT (a ++ b) = szT a + szT b
  | [], b => by simp [szT]
  | x :: a, b => by rw [List.cons_append, szT, szT, szT_append a b]; omega
theorem szT_drop (l : List MType) (i : Nat) : szT (l.drop i) ≤ szT l := by
  have := szT_append (l.take i) (l.drop i)
  rw [List.take_append_drop] at this
  omega
theorem atA_sz (l : List MSExpr) (i : Nat) : (atA l i).length ≤ szX l := by
  by_cases h : i < l.length
  · rw [atA_get h]
    have h1 := szX_mem (List.getElem_mem h)
    rw [sx_sz] at h1; omega
  · rw [atA_no (by omega)]; simp
mutual
theorem decT_sz (b : Bool) : ∀ x : MSExpr, (decT b x).sz ≤ x.sz
  | .mk a l => by
    have h1 := decTs_sz b l
    have h2 := szT_drop (decTs b l) 2
    have h3 := szT_drop (decTs b l) 1
    have h4 := atA_sz l 0
    have h5 := atA_sz l 1
    have h6 : (decTs b l).length = l.length := by rw [decTs_map, List.length_map]
    rw [sx_sz, szX_rows]; simp only [MSExpr.fAtom, MSExpr.fList]
    rw [decT]
    split
    · split
      · rw [ty_sz_eq]; simp [MType.fName, MType.fArgs, szT]
      · split
        · rw [ty_sz_eq]; simp [MType.fName, MType.fArgs, szT]; omega
        · have g0 := decTs_cut b l 0
          have g1 := decTs_cut b l 1
          simp only [Nat.zero_add, Nat.reduceAdd] at g0 g1
          split
          · rw [ty_sz_eq]; simp only [MType.fName, MType.fArgs, List.length_drop, h6]; omega
          · rw [ty_sz_eq]; simp only [MType.fName, MType.fArgs, List.length_drop, h6]; omega
    · split
      · rw [ty_sz_eq]; simp [MType.fName, MType.fArgs, szT]; omega
      · rw [ty_sz_eq]; simp [MType.fName, MType.fArgs, szT]
theorem decTs_sz (b : Bool) : ∀ l : List MSExpr, szT (decTs b l) ≤ szX l
  | [] => by simp [decTs, szT]
  | x :: xs => by
    have h1 := decT_sz b x
    have h2 := decTs_sz b xs
    rw [decTs, szT, szX]; omega
theorem decTs_cut (b : Bool) : ∀ (l : List MSExpr) (i : Nat), szT ((decTs b l).drop (i + 1)) + (atA l i).length ≤ szX l
  | [], i => by simp [decTs, szT, atA_no]
  | x :: xs, 0 => by
    have h2 := decTs_sz b xs
    rw [decTs, List.drop_succ_cons, List.drop_zero, szX, show atA (x :: xs) 0 = x.fAtom from rfl, sx_sz]; omega
  | x :: xs, i + 1 => by
    have h2 := decTs_cut b xs i
    rw [decTs, List.drop_succ_cons, szX, show atA (x :: xs) (i + 1) = atA xs i from rfl]; omega
end
theorem name_ne {s : List UInt8} (h : validName s = true) : s ≠ [] := fun e => by rw [e] at h; have := of_dec h; simp at this
theorem name_head {s : List UInt8} (h : validName s = true) : s.head? ≠ some 39 := fun e => by
  have h1 := of_dec h
  have h2 := h1.2.2 0 (by omega)
  cases s with
  | nil => cases e
  | cons c s =>
    simp only [List.head?_cons, Option.some.injEq] at e
    subst e
    simp [lowerB, digitB] at h2
theorem name_dyn {s : List UInt8} (h : validName s = true) : s ≠ wDyn ∧ s ≠ wAssoc := by
  have h1 := (of_dec h).2.1
  refine ⟨fun e => h1 (by rw [e]; simp [reserved, wDyn]), fun e => h1 (by rw [e]; simp [reserved, wAssoc])⟩
mutual
theorem decT_sx (b : Bool) : ∀ t : MType, formed t = true → decT b (sxT t) = t
  | .mk k n zs => fun hf => by
    rw [formed, Bool.and_eq_true] at hf
    have hfi := of_dec hf.1
    have hzs := decTs_sx b zs hf.2
    rw [sxT]
    by_cases h1 : k = 1
    · have hz : zs = [] := by
        have : zs.length = 0 := by omega
        exact List.eq_nil_of_length_eq_zero this
      rw [if_pos h1, atomX, decT, if_neg (by simp), if_pos (by simp), hz, h1]; rfl
    rw [if_neg h1]
    by_cases h4 : k = 4
    · have hz : zs = [] := by
        have : zs.length = 0 := by omega
        exact List.eq_nil_of_length_eq_zero this
      have hn : validName n = true := by
        rcases hfi with h | h | h
        · exact h.2.1
        · exact h.2.1
        · omega
      rw [if_pos h4, listX, decT, if_pos rfl, if_neg (by simp), if_pos ⟨rfl, .inr ⟨rfl, name_ne hn⟩⟩, hz, h4]; rfl
    rw [if_neg h4]
    by_cases h2 : k = 2 ∧ zs.length = 0
    · have hz : zs = [] := List.eq_nil_of_length_eq_zero h2.2
      have hn : n ≠ [] ∧ n.head? ≠ some 39 := by
        rcases hfi with h | h | h
        · omega
        · omega
        · rcases h.2 with g | g
          · exact ⟨name_ne g.1, name_head g.1⟩
          · rcases of_dec g.1 with e | e <;> rw [e] <;> simp
      rw [if_pos h2, atomX, decT, if_neg hn.1, if_neg hn.2, hz, h2.1]
    rw [if_neg h2]
    by_cases h3 : k = 3
    · have hz : zs.length = 1 ∧ validName n = true := by
        rcases hfi with h | h | h
        · omega
        · exact ⟨h.2.2, h.2.1⟩
        · omega
      rw [if_pos h3, listX, decT, if_pos rfl, if_neg (by simp), if_neg (fun h => by have := h.1; simp [atA, atomX, MSExpr.fAtom, wDyn, wAssoc] at this), if_pos ⟨rfl, .inr ⟨by rw [sxTs_map]; simp [hz.1], name_ne hz.2⟩⟩]
      show MType.mk 3 n (decTs b (sxTs zs)) = _
      rw [hzs, h3]
    · have hn : validName n = true ∧ zs ≠ [] := by
        rcases hfi with h | h | h
        · omega
        · omega
        · rcases h.2 with g | g
          · exact ⟨g.1, fun e => h2 ⟨h.1, by rw [e]; rfl⟩⟩
          · exact (h2 ⟨h.1, g.2⟩).elim
      have hk : k = 2 := by
        rcases hfi with h | h | h
        · omega
        · omega
        · exact h.1
      have hd := name_dyn hn.1
      rw [if_neg h3, listX, decT, if_pos rfl, if_neg (by rw [sxTs_map]; cases zs with | nil => exact (hn.2 rfl).elim | cons z zs => simp), if_neg (fun h => hd.1 h.1), if_neg (fun h => hd.2 h.1)]
      show MType.mk 2 n (decTs b (sxTs zs)) = _
      rw [hzs, hk]
theorem decTs_sx (b : Bool) : ∀ ts : List MType, formeds ts = true → decTs b (sxTs ts) = ts
  | [], _ => rfl
  | t :: ts, h => by
    rw [formeds, Bool.and_eq_true] at h
    rw [sxTs, decTs, decT_sx b t h.1, decTs_sx b ts h.2]
end
theorem decT_map_sx (b : Bool) {ts : List MType} (h : formeds ts = true) : (ts.map sxT).map (decT b) = ts := by
  have := decTs_sx b ts h
  rw [decTs_map, sxTs_map] at this
  exact this
def decC (b : Bool) (y : MSExpr) : MConstructor := ⟨atA y.fList 0, (y.fList.drop 1).map (decT b)⟩
def decD (b : Bool) (x : MSExpr) : MDataType := ⟨atA x.fList 1, namesX (x.fList.getD 2 zeroX).fList, (x.fList.drop 3).map (decC b)⟩
theorem namesNe {vs : List (List UInt8)} (h : namesOk vs = true) : ∀ v ∈ vs, v ≠ [] := fun v hv => by
  unfold namesOk at h
  rw [Bool.and_eq_true] at h
  exact name_ne (List.all_eq_true.1 h.2 v hv)
theorem decC_sx (b : Bool) {c : MConstructor} (h : formeds c.fFields = true) : decC b (sxC c) = c := by
  show MConstructor.mk c.fName ((c.fFields.map sxT).map (decT b)) = c
  rw [decT_map_sx b h]
theorem validData_vars {d : MDataType} (h : validData d = true) : ∀ v ∈ d.fVars, v ≠ [] := by
  unfold validData at h
  simp only [Bool.and_eq_true] at h
  exact namesNe (by simp_all)
theorem decD_sx (b : Bool) {d : MDataType} (h : validData d = true) : decD b (sxD d) = d := by
  show MDataType.mk d.fName (namesX (wordsX d.fVars)) ((d.fConstructors.map sxC).map (decC b)) = d
  rw [namesX_words (validData_vars h), List.map_map, show d.fConstructors.map (decC b ∘ sxC) = d.fConstructors.map id from List.map_congr_left (fun c hc => decC_sx b (validData_cons h c hc)), List.map_id]
theorem sxD_head (d : MDataType) : 3 ≤ (sxD d).fList.length ∧ atA (sxD d).fList 0 = wData := ⟨by rw [sxD, fList_list]; simp [baseD], rfl⟩
noncomputable def okD (x : MSExpr) : Bool := dec (validX x = true ∧ 3 ≤ x.fList.length ∧ atA x.fList 0 = wData ∧ validData (decD true x) = true ∧ sxD (decD true x) = x)
noncomputable def rdD (x : MSExpr) : MDataType := if okD x = true then decD true x else ⟨[], [], []⟩
theorem outX_out {b : Bool} {s x : MSExpr} (h : outX b s = x) (hx : x.fList ≠ []) : b = true ∧ s = x ∧ validX x = true := by
  cases b with
  | false => rw [← h] at hx; exact (hx rfl).elim
  | true =>
    rw [outX] at h
    unfold ifX at h
    split at h
    · rename_i hv; exact ⟨rfl, h, by rw [← h]; exact hv⟩
    · rw [← h] at hx; exact (hx rfl).elim
theorem okD_spec {x : MSExpr} (hx : x.fList ≠ []) : okD x = (validX x && dec (outD (decD false x) = x)) := by
  cases hv : validX x with
  | false => exact dec_false fun h => by rw [hv] at h; cases h.1
  | true =>
    rw [Bool.true_and]
    refine dec_congr ⟨fun ⟨_, h1, h2, h3, h4⟩ => ?_, fun h => ?_⟩
    · have e : decD false x = decD true x := by conv => lhs; rw [← h4]
                                                exact decD_sx false h3
      rw [e, outD, h3, h4, outX, ifX, if_pos hv]
    · obtain ⟨h1, h2, _⟩ := outX_out h hx
      have e : decD true x = decD false x := by conv => lhs; rw [← h2]
                                                exact decD_sx true h1
      have := sxD_head (decD false x)
      rw [h2] at this
      rw [e]
      exact ⟨hv, this.1, this.2, h1, h2⟩
theorem okD_same {x : MSExpr} (h : okD x = true) : decD false x = decD true x := by
  have h1 := of_dec h
  conv => lhs; rw [← h1.2.2.2.2]
  exact decD_sx false h1.2.2.2.1
theorem decC_sz (b : Bool) (y : MSExpr) : (decC b y).sz ≤ y.sz := by
  have h := decTs_cut b y.fList 0
  rw [decTs_map] at h
  rw [con_sz_eq, sx_sz, szX_rows]
  simp only [decC, List.length_map, List.length_drop, ← List.map_drop, Nat.zero_add] at h ⊢
  omega
theorem decCs_sz (b : Bool) : ∀ l : List MSExpr, szC (l.map (decC b)) ≤ szX l
  | [] => by simp [szC]
  | y :: l => by
    have h1 := decC_sz b y
    have h2 := decCs_sz b l
    rw [List.map_cons, szC, szX]; omega
theorem szX_split3 (l : List MSExpr) : (atA l 1).length + ((l.getD 2 zeroX).fList.length + szX (l.getD 2 zeroX).fList) + szX (l.drop 3) ≤ szX l := by
  match l with
  | [] => simp [atA, szX, zeroX, MSExpr.fAtom, MSExpr.fList]
  | [x] => simp [atA, szX, zeroX, MSExpr.fAtom, MSExpr.fList]
  | [x, y] =>
    simp only [szX, sx_sz y]
    simp [atA, szX, zeroX, MSExpr.fAtom, MSExpr.fList]; omega
  | x :: y :: z :: l =>
    simp only [szX, sx_sz y, sx_sz z, szX_rows]
    simp [atA]; omega
theorem decD_sz (b : Bool) (x : MSExpr) : (decD b x).sz ≤ x.sz := by
  have h1 := decCs_sz b (x.fList.drop 3)
  have h2 := namesX_sz (x.fList.getD 2 zeroX).fList
  have h3 := szX_split3 x.fList
  rw [data_sz_eq, sx_sz, szX_rows]
  simp only [decD, List.length_map, List.length_drop]
  omega
theorem rdD_sz {x : MSExpr} (h : x.sz ≤ 1048576) : (rdD x).sz ≤ 1048576 := by
  have := decD_sz true x
  unfold rdD
  split
  · omega
  · rw [data_sz_eq]; simp [szC]
end Go.Ab

namespace Go.Ab
theorem sx_arg {x : MSExpr} {i : Nat} (hi : i < x.fList.length) (h : x.sz ≤ 4194304) : x.fList[i].sz ≤ 4194304 := by
  have := szX_mem (List.getElem_mem hi)
  rw [sx_sz, szX_rows] at h
  omega
theorem sx_len {x : MSExpr} (h : x.sz ≤ 4194304) : x.fAtom.length ≤ 4194304 ∧ x.fList.length ≤ 4194304 := by
  rw [sx_sz] at h
  omega
end Go.Ab
namespace Go.Proofs.YtnceiannponbjaaGreat
open Go Go.Ab
theorem specEqualSExpr_all : ∀ n : Nat, ∀ x : MSExpr, SizeOf.sizeOf x < n → ∀ y : MSExpr, x.sz ≤ 4194304 → PCall Tryz.prog 7 [x.v, y.v] (.c (.d (.b (dec (x = y)))))
  | 0 => fun x h => by omega
  | n + 1 => by
    have ih := specEqualSExpr_all n
    intro x hn y hsz S
    have lList := MSExpr.lt_List x
    have hb := sx_len hsz
    refine acall_cw (rs := [.tmp 4]) Tryz.checked.mixed Tryz.func7 Tryz.ntmps7 rfl rfl rfl rfl rfl ?_
    simp -implicitDefEqProofs (disch := omega) only [go_sem]
    with_reducible refine split2 (fun hb => ?_) (fun hb => ?_) <;> have h := hb <;> (try simp only [wf_preprocess] at h) <;> simp -implicitDefEqProofs (disch := omega) only [go_sem, hb] <;> (repeat (with_reducible refine And.intro ?_ ?_; focus first | omega | rfl | assumption | exact ⟨_, rfl, rfl⟩ | (simp; omega) | (simp; done)))
    · exact bool_eq (dec_false (fun e => h (by rw [e]))).symm
    have h1 := h
    with_reducible refine split2 (fun hb => ?_) (fun hb => ?_) <;> have h := hb <;> (try simp only [wf_preprocess] at h) <;> simp -implicitDefEqProofs (disch := omega) only [go_sem, hb] <;> (repeat (with_reducible refine And.intro ?_ ?_; focus first | omega | rfl | assumption | exact ⟨_, rfl, rfl⟩ | (simp; omega) | (simp; done)))
    · exact bool_eq (dec_false (fun e => h (by rw [e]))).symm
    have hl : x.fList.length = y.fList.length := by omega
    refine loop_at (ι := Nat) Tryz.checked.mixed rfl [2, 3, 5] (fun i => [.c (.ptr (0, 0) 0), .c (.ptr (0, 1) 0), .c (.d (.i .i64 i))]) (fun i => [.box [.d (.s x.fAtom), .d (.sl (x.fList.map MSExpr.enc))], .box [.d (.s y.fAtom), .d (.sl (y.fList.map MSExpr.enc))]] :: S)
      (fun i => i ≤ x.fList.length ∧ ∀ j, j < i → x.fList[j]? = y.fList[j]?) (fun i => x.fList.length - i) 0 rfl rfl ⟨Nat.zero_le _, fun j h => by omega⟩ ?_
    rintro i ⟨p1, p2⟩
    simp -implicitDefEqProofs (disch := omega) only [go_sem, MSExpr.enc_eq]
    with_reducible refine split2 (fun hb => ?_) (fun hb => ?_) <;> have h := hb <;> (try simp only [wf_preprocess] at h) <;> simp -implicitDefEqProofs (disch := omega) only [go_sem, hb] <;> (repeat (with_reducible refine And.intro ?_ ?_; focus first | omega | rfl | assumption | exact ⟨_, rfl, rfl⟩ | (simp; omega) | (simp; done)))
    · have hi : i < x.fList.length := by omega
      have hi' : i < y.fList.length := by omega
      (repeat (with_reducible refine And.intro ?_ ?_; focus first | omega | rfl | assumption | exact ⟨_, rfl, rfl⟩ | (simp; omega) | (simp; done)))
      refine call_w (ih x.fList[i] (by have := List.sizeOf_lt_of_mem (List.getElem_mem hi); omega) y.fList[i] (sx_arg hi hsz)) ?_
      simp -implicitDefEqProofs (disch := omega) only [go_sem]
      with_reducible refine split2 (fun hb => ?_) (fun hb => ?_) <;> have h := hb <;> (try simp only [wf_preprocess] at h) <;> simp -implicitDefEqProofs (disch := omega) only [go_sem, hb] <;> (repeat (with_reducible refine And.intro ?_ ?_; focus first | omega | rfl | assumption | exact ⟨_, rfl, rfl⟩ | (simp; omega) | (simp; done)))
      · exact bool_eq (dec_false (fun e => h (by simp only [e]))).symm
      refine inv_at (i + 1) (by omega) rfl rfl ⟨by omega, fun j hj => ?_⟩
      by_cases e : j = i
      · subst e
        rw [List.getElem?_eq_getElem hi, List.getElem?_eq_getElem hi', h]
      · exact p2 j (by omega)
    · have hi : i = x.fList.length := by omega
      refine bool_eq (dec_true ?_).symm
      refine MSExpr.ext (by first | exact h1 | (simp at h1; exact h1)) (List.ext_getElem? fun j => ?_)
      by_cases hj : j < i
      · exact p2 j hj
      · rw [List.getElem?_eq_none (by omega), List.getElem?_eq_none (by omega)]
theorem specEqualSExpr_ok (x y : MSExpr) (h : x.sz ≤ 4194304) : PCall Tryz.prog 7 [x.v, y.v] (.c (.d (.b (dec (x = y))))) := specEqualSExpr_all _ x (Nat.lt_succ_self _) y h
theorem implEqualSExpr_all : ∀ n : Nat, (∀ x : MSExpr, SizeOf.sizeOf x < n → ∀ y : MSExpr, x.sz ≤ 4194304 → PCall Tryz.prog 32 [x.v, y.v] (.c (.d (.b (dec (x = y)))))) ∧
    (∀ xs : List MSExpr, SizeOf.sizeOf xs < n → ∀ ys : List MSExpr, xs.length ≤ 4194304 → (∀ t ∈ xs, t.sz ≤ 4194304) → PCall Tryz.prog 67 [.c (.d (.sl (xs.map MSExpr.enc))), .c (.d (.sl (ys.map MSExpr.enc))), .c (.fn 32 [])] (.c (.d (.b (dec (xs = ys))))))
  | 0 => ⟨fun x h => by omega, fun x h => by omega⟩
  | n + 1 => by
    obtain ⟨ih, ihS⟩ := implEqualSExpr_all n
    refine ⟨fun x hn y hsz S => ?_, fun xs hn ys hlen hsz S => ?_⟩
    · have lList := MSExpr.lt_List x
      have hb := sx_len hsz
      refine acall_cw (rs := [.tmp 4]) Tryz.checked.mixed Tryz.func32 Tryz.ntmps32 rfl rfl rfl rfl rfl ?_
      simp -implicitDefEqProofs (disch := omega) only [go_sem]
      with_reducible refine split2 (fun hb => ?_) (fun hb => ?_) <;> have h := hb <;> (try simp only [wf_preprocess] at h) <;> simp -implicitDefEqProofs (disch := omega) only [go_sem, hb] <;> (repeat (with_reducible refine And.intro ?_ ?_; focus first | omega | rfl | assumption | exact ⟨_, rfl, rfl⟩ | (simp; omega) | (simp; done)))
      · have h1 := h
        (repeat (with_reducible refine And.intro ?_ ?_; focus first | omega | rfl | assumption | exact ⟨_, rfl, rfl⟩ | (simp; omega) | (simp; done)))
        refine call_w (ihS x.fList (by omega) y.fList (by omega) (fun t ht => by
          obtain ⟨i, hi, e⟩ := List.getElem_of_mem ht
          rw [← e]; exact sx_arg hi hsz)) ?_
        simp -implicitDefEqProofs (disch := omega) only [go_sem]
        refine bool_eq (dec_congr ⟨fun e => MSExpr.ext h1 e, fun e => by rw [e]⟩)
      · exact bool_eq (dec_false (fun e => h (by rw [e]))).symm
    · refine acall_cw (rs := [.tmp 6]) Tryz.checked.mixed Tryz.func67 Tryz.ntmps67 rfl rfl rfl rfl rfl ?_
      simp -implicitDefEqProofs (disch := omega) only [go_sem]
      with_reducible refine split2 (fun hb => ?_) (fun hb => ?_) <;> have h := hb <;> (try simp only [wf_preprocess] at h) <;> simp -implicitDefEqProofs (disch := omega) only [go_sem, hb] <;> (repeat (with_reducible refine And.intro ?_ ?_; focus first | omega | rfl | assumption | exact ⟨_, rfl, rfl⟩ | (simp; omega) | (simp; done)))
      · exact bool_eq (dec_false (fun e => h (by rw [e]))).symm
      have hl : xs.length = ys.length := by omega
      refine loop_at (ι := Nat) Tryz.checked.mixed rfl [1, 2, 15, 16, 17] (fun y => [.c (.d (.sl (ys.map MSExpr.enc))), .c (.fn 32 []), .c (.d (.sl (xs.map MSExpr.enc))), .c (.d (.i .i64 xs.length)), .c (.d (.i .i64 y))]) (fun y => [] :: S)
        (fun i => i ≤ xs.length ∧ ∀ j, j < i → xs[j]? = ys[j]?) (fun y => xs.length - y) 0 rfl rfl ⟨Nat.zero_le _, fun j h => by omega⟩ ?_
      rintro i ⟨p1, p2⟩
      simp -implicitDefEqProofs (disch := omega) only [go_sem]
      with_reducible refine split2 (fun hb => ?_) (fun hb => ?_) <;> have h := hb <;> (try simp only [wf_preprocess] at h) <;> simp -implicitDefEqProofs (disch := omega) only [go_sem, hb] <;> (repeat (with_reducible refine And.intro ?_ ?_; focus first | omega | rfl | assumption | exact ⟨_, rfl, rfl⟩ | (simp; omega) | (simp; done)))
      · have hi : i < xs.length := by omega
        have hi' : i < ys.length := by omega
        (repeat (with_reducible refine And.intro ?_ ?_; focus first | omega | rfl | assumption | exact ⟨_, rfl, rfl⟩ | (simp; omega) | (simp; done)))
        refine call_w (ih xs[i] (by have := List.sizeOf_lt_of_mem (List.getElem_mem hi); omega) ys[i] (hsz _ (List.getElem_mem hi))) ?_
        simp -implicitDefEqProofs (disch := omega) only [go_sem]
        with_reducible refine split2 (fun hb => ?_) (fun hb => ?_) <;> have h := hb <;> (try simp only [wf_preprocess] at h) <;> simp -implicitDefEqProofs (disch := omega) only [go_sem, hb] <;> (repeat (with_reducible refine And.intro ?_ ?_; focus first | omega | rfl | assumption | exact ⟨_, rfl, rfl⟩ | (simp; omega) | (simp; done)))
        · exact bool_eq (dec_false (fun e => h (by simp only [e]))).symm
        refine inv_drop 0 (by decide) (i + 1) (by omega) rfl rfl rfl rfl ⟨by omega, fun j hj => ?_⟩
        by_cases e : j = i
        · subst e
          rw [List.getElem?_eq_getElem hi, List.getElem?_eq_getElem hi', h]
        · exact p2 j (by omega)
      · have hi : i = xs.length := by omega
        refine bool_eq (dec_true (List.ext_getElem? fun j => ?_)).symm
        by_cases hj : j < i
        · exact p2 j hj
        · rw [List.getElem?_eq_none (by omega), List.getElem?_eq_none (by omega)]
theorem implEqualSExpr_ok (x y : MSExpr) (h : x.sz ≤ 4194304) : PCall Tryz.prog 32 [x.v, y.v] (.c (.d (.b (dec (x = y))))) := (implEqualSExpr_all _).1 x (Nat.lt_succ_self _) y h
end Go.Proofs.YtnceiannponbjaaGreat

namespace Go.Ab
theorem sizeOf_drop {α : Type} [SizeOf α] : ∀ (i : Nat) (l : List α), SizeOf.sizeOf (l.drop i) ≤ SizeOf.sizeOf l
  | 0, l => by simp
  | i + 1, [] => by simp
  | i + 1, x :: l => by
    have := sizeOf_drop i l
    rw [List.drop_succ_cons]; simp only [List.cons.sizeOf_spec]; omega
theorem encX_drop (l : List MSExpr) (n i : Nat) (h : l.length ≤ n) : ((l.map MSExpr.enc).take n).drop i = (l.drop i).map MSExpr.enc := by
  rw [List.take_of_length_le (by rw [List.length_map]; exact h), List.map_drop]
theorem szX_getD (l : List MSExpr) (i : Nat) : (l.getD i zeroX).sz ≤ szX l := by
  rw [List.getD_eq_getElem?_getD]
  by_cases h : i < l.length
  · rw [List.getElem?_eq_getElem h]; exact szX_mem (List.getElem_mem h)
  · rw [List.getElem?_eq_none (by omega)]
    rw [Option.getD_none, sx_sz]; simp [zeroX, MSExpr.fAtom, MSExpr.fList, szRows]
theorem sz_fList (x : MSExpr) : x.fList.length + szX x.fList ≤ x.sz := by rw [sx_sz, szX_rows]; omega
theorem sz_fAtom (x : MSExpr) : x.fAtom.length ≤ x.sz := by rw [sx_sz]; omega
def atomRow (x : MSExpr) : List D := [.s x.fAtom]
def allA (l : List MSExpr) : Bool := l.all fun x => decide (x.fAtom ≠ [])
theorem allA_no {l : List MSExpr} {i : Nat} (hi : i < l.length) (h : l[i].fAtom = []) : allA l = false ∧ namesX l = [] := by
  have : allA l = false := by
    unfold allA
    rw [List.all_eq_false]
    exact ⟨_, List.getElem_mem hi, by simp [h]⟩
  refine ⟨this, ?_⟩
  unfold namesX
  unfold allA at this
  rw [this]; rfl
theorem allA_yes {l : List MSExpr} (h : ∀ j (hj : j < l.length), l[j].fAtom ≠ []) : allA l = true ∧ (namesX l).map encS = l.map atomRow := by
  have : allA l = true := by
    unfold allA
    rw [List.all_eq_true]
    intro x hx
    obtain ⟨j, hj, rfl⟩ := List.getElem_of_mem hx
    exact decide_eq_true (h j hj)
  refine ⟨this, ?_⟩
  unfold namesX
  unfold allA at this
  rw [this, if_pos rfl, List.map_map]; rfl
theorem atomRow_snoc {l : List MSExpr} {i : Nat} (hi : i < l.length) : (l.take i).map atomRow ++ [[.s l[i].fAtom]] = (l.take (i + 1)).map atomRow := by
  rw [List.take_succ_eq_append_getElem hi, List.map_append]; rfl
theorem atomRow_len {l : List MSExpr} {i : Nat} : ((l.take i).map atomRow).length ≤ i := by rw [List.length_map]; exact List.length_take_le _ _
def lt (l : List MType) (n : Nat) : List (List D) := labRs (l.map MType.enc) n
def cntTs (l : List MType) : Nat := cntRs (l.map MType.enc)
theorem labT_eq (x : MType) (n : Nat) : labR x.enc n = [.i .i64 x.fKind, .s x.fName, .ol n (lt x.fArgs (n + 1))] := by
  rw [MType.enc_eq]; simp only [labR, labD, cntD, Nat.add_zero, lt]
theorem lt_length (l : List MType) (n : Nat) : (lt l n).length = l.length := by unfold lt; rw [labRs_length, List.length_map]
theorem lt_snoc {l : List MType} {i : Nat} (hi : i < l.length) (n : Nat) : lt (l.take i) n ++ [[.i .i64 l[i].fKind, .s l[i].fName, .ol (n + cntTs (l.take i)) (lt l[i].fArgs (n + cntTs (l.take i) + 1))]] = lt (l.take (i + 1)) n := by
  rw [List.take_succ_eq_append_getElem hi]
  unfold lt cntTs
  rw [List.map_append, labRs_append]
  simp only [List.map_cons, List.map_nil, labRs, labT_eq, lt]
theorem encT_snoc {l : List MType} {i : Nat} (hi : i < l.length) : (l.take i).map MType.enc ++ [[.i .i64 l[i].fKind, .s l[i].fName, .sl (l[i].fArgs.map MType.enc)]] = (l.take (i + 1)).map MType.enc := by
  rw [List.take_succ_eq_append_getElem hi, List.map_append]
  simp only [List.map_cons, List.map_nil, MType.enc_eq]
theorem typ_nil (k : Int) (s : List UInt8) (n : Nat) : Less (.agg [.d (.i .i64 k), .d (.s s), .fsl []]) (.agg [.d (.i .i64 k), .d (.s s), .d (.ol n [])]) := (CellsLe.cons (.refl _) (.cons (.refl _) (.cons (cell_nil_ol n) .nil))).less
theorem typ_fsl (k : Int) (s : List UInt8) (es : List (List D)) : Less (.agg [.d (.i .i64 k), .d (.s s), .fsl es]) (.agg [.d (.i .i64 k), .d (.s s), .d (.sl es)]) := (CellsLe.cons (.refl _) (.cons (.refl _) (.cons (cell_fsl es) .nil))).less
theorem head39 {s : List UInt8} (h : s ≠ []) : ((s.getD 0 0).toNat : Int) = 39 ↔ s.head? = some 39 := by
  cases s with
  | nil => exact (h rfl).elim
  | cons b s =>
    simp only [List.getD_cons_zero, List.head?_cons, Option.some.injEq]
    constructor
    · intro e
      have : b.toNat = 39 := by omega
      exact UInt8.toNat.inj this
    · intro e; rw [e]; rfl
theorem tail_slice (s : List UInt8) (n : Nat) (h : s.length ≤ n) : (s.take n).drop 1 = s.tail := by rw [List.take_of_length_le h, List.drop_one]
theorem cell_sl_le {a b : List (List D)} (h : RowsLe a b) : CellLe (.d (.sl a)) (.d (.sl b)) := fun w σ S β v hr => h.rep hr
abbrev MType.vl (t : MType) (n : Nat) : V := .agg [.d (.i .i64 t.fKind), .d (.s t.fName), .d (.ol n (lt t.fArgs (n + 1)))]
theorem labW_cnt (l : List (List UInt8)) : cntRs (l.map encS) = 0 := by
  induction l with
  | nil => rfl
  | cons s l ih => rw [List.map_cons, cntRs, ih]; rfl
theorem le_T {b : Bool} {x : MSExpr} {r : V} {k : Int} {s : List UInt8} {l : List MType} (h : decT b x = .mk k s l) (hl : Less r (.agg [.d (.i .i64 k), .d (.s s), .d (.sl (l.map MType.enc))])) : Less r (decT b x).v := by rw [h]; exact hl
theorem le_T0 {b : Bool} {x : MSExpr} {k : Int} {s : List UInt8} (h : decT b x = .mk k s []) : Less (.agg [.d (.i .i64 k), .d (.s s), .fsl []]) (decT b x).v := by rw [h]; exact typ_fsl k s []
theorem le_T1 {b : Bool} {x : MSExpr} {k : Int} {s : List UInt8} (h : decT b x = .mk k s []) : Less (.agg [.d (.i .i64 k), .d (.s s), .d (.sl [])]) (decT b x).v := by rw [h]; exact less_refl _
theorem le_lT {b : Bool} {x : MSExpr} {r : V} {n : Nat} {k : Int} {s : List UInt8} {l : List MType} (h : decT b x = .mk k s l) (hl : Less r (.agg [.d (.i .i64 k), .d (.s s), .d (.ol n (lt l (n + 1)))])) : Less r ((decT b x).vl n) := by rw [h]; exact hl
theorem le_lT0 {b : Bool} {x : MSExpr} {n : Nat} {k : Int} {s : List UInt8} (h : decT b x = .mk k s []) : Less (.agg [.d (.i .i64 k), .d (.s s), .fsl []]) ((decT b x).vl n) := by rw [h]; exact typ_nil k s n
theorem le_lT1 {b : Bool} {x : MSExpr} {n : Nat} {k : Int} {s : List UInt8} (h : decT b x = .mk k s []) : Less (.agg [.d (.i .i64 k), .d (.s s), .d (.ol n [])]) ((decT b x).vl n) := by rw [h]; exact less_refl _
theorem head39_take {s : List UInt8} (h : 1 ≤ s.length) : (s.take 1).drop 0 = [39] ↔ s.head? = some 39 := by
  cases s with
  | nil => simp at h
  | cons b s => simp
end Go.Ab
namespace Go.Proofs.YtnceiannponbjaaGreat
open Go Go.Ab
theorem specAtoms_ok (xs : List MSExpr) (hx : xs.length ≤ 1073741824) : PCall Tryz.prog 71 [.c (.d (.sl (xs.map MSExpr.enc)))] (.tup [(false, [.d (.sl ((namesX xs).map encS))]), (false, [.d (.b (allA xs))])]) := PCall.of_le fun S => by
  refine acall_cw (rs := [.tmp 2, .tmp 3]) Tryz.checked.mixed Tryz.func71 Tryz.ntmps71 rfl rfl rfl rfl rfl ?_
  simp -implicitDefEqProofs (disch := omega) only [go_sem]
  (repeat (with_reducible refine And.intro ?_ ?_; focus first | omega | rfl | assumption | exact ⟨_, rfl, rfl⟩ | (simp; omega) | (simp; done)))
  refine aw_tok 4 1 [] rfl (by simp) ?_
  refine loop_at (ι := Nat) Tryz.checked.mixed rfl [0, 4, 5] (fun i => [.c (.d (.sl (xs.map MSExpr.enc))), .c (.tsl (0, 0) ((xs.take i).map atomRow)), .c (.d (.i .i64 i))]) (fun i => [.tok 1 ((xs.take i).map atomRow)] :: S)
    (fun i => i ≤ xs.length ∧ ∀ j, ∀ hj : j < xs.length, j < i → xs[j].fAtom ≠ []) (fun i => xs.length - i) 0 rfl rfl ⟨Nat.zero_le _, fun j _ h => by omega⟩ ?_
  rintro i ⟨p1, p2⟩
  have hl := atomRow_len (l := xs) (i := i)
  simp -implicitDefEqProofs (disch := omega) only [go_sem, MSExpr.enc_eq]
  with_reducible refine split2 (fun hb => ?_) (fun hb => ?_) <;> have h := hb <;> (try simp only [wf_preprocess] at h) <;> simp -implicitDefEqProofs (disch := omega) only [go_sem, hb] <;> (repeat (with_reducible refine And.intro ?_ ?_; focus first | omega | rfl | assumption | exact ⟨_, rfl, rfl⟩ | (simp; omega) | (simp; done)))
  · have hi' : i < xs.length := by omega
    have hs := atomRow_snoc hi'
    (repeat (with_reducible refine And.intro ?_ ?_; focus first | omega | rfl | assumption | exact ⟨_, rfl, rfl⟩ | (simp; omega) | (simp; done)))
    with_reducible refine split2 (fun hb => ?_) (fun hb => ?_) <;> have h := hb <;> (try simp only [wf_preprocess] at h) <;> simp -implicitDefEqProofs (disch := omega) only [go_sem, hb] <;> (repeat (with_reducible refine And.intro ?_ ?_; focus first | omega | rfl | assumption | exact ⟨_, rfl, rfl⟩ | (simp; omega) | (simp; done)))
    · obtain ⟨e1, e2⟩ := allA_no hi' h
      rw [e1, e2]
      exact (CompsLe.cons (.cons (cell_fsl _) .nil) (.refl _)).less
    · (repeat (with_reducible refine And.intro ?_ ?_; focus first | omega | rfl | assumption | exact ⟨_, rfl, rfl⟩ | (simp; omega) | (simp; done)))
      rw [hs]
      refine inv_at (i + 1) (by omega) rfl rfl ⟨by omega, fun j hj hji => ?_⟩
      by_cases e' : j = i
      · subst e'; exact h
      · exact p2 j hj (by omega)
  · have hi' : i = xs.length := by omega
    subst hi'
    obtain ⟨e1, e2⟩ := allA_yes fun j hj => p2 j hj hj
    rw [e1, e2, List.take_length]
    exact less_refl _
theorem specNames_ok (x : MSExpr) (hx : x.sz ≤ 4194304) : PCall Tryz.prog 35 [x.v] (.c (.d (.sl ((namesX x.fList).map encS)))) := fun S => by
  have := sz_fList x
  refine acall_cw (rs := [.tmp 2]) Tryz.checked.mixed Tryz.func35 Tryz.ntmps35 rfl rfl rfl rfl rfl ?_
  simp -implicitDefEqProofs (disch := omega) only [go_sem]
  refine call_w (specAtoms_ok x.fList (by omega)) ?_
  simp -implicitDefEqProofs (disch := omega) only [go_sem]
theorem specAt_ok (x : MSExpr) (i : Nat) (hx : x.sz ≤ 4194304) (hi : i ≤ 100) : PCall Tryz.prog 34 [x.v, .c (.d (.i .i64 i))] (x.fList.getD i zeroX).v := PCall.of_le fun S => by
  have := sz_fList x
  refine acall_cw (rs := [.cell 4 31]) Tryz.checked.mixed Tryz.func34 Tryz.ntmps34 rfl rfl rfl rfl rfl ?_
  simp -implicitDefEqProofs (disch := omega) only [go_sem]
  with_reducible refine split2 (fun hb => ?_) (fun hb => ?_) <;> have h := hb <;> (try simp only [wf_preprocess] at h) <;> simp -implicitDefEqProofs (disch := omega) only [go_sem, hb] <;> (repeat (with_reducible refine And.intro ?_ ?_; focus first | omega | rfl | assumption | exact ⟨_, rfl, rfl⟩ | (simp; omega) | (simp; done)))
  · rw [List.getD_eq_getElem?_getD, List.getElem?_eq_none (by omega)]
    exact (CellsLe.cons (.refl _) (.cons (cell_fsl _) .nil)).less
  · have hi : i < x.fList.length := by omega
    rw [List.getD_eq_getElem?_getD, List.getElem?_eq_getElem hi]
    exact less_refl _
theorem l1Min_ok (a b : Int) : PCall Tryz.prog 72 [.c (.d (.i .i64 a)), .c (.d (.i .i64 b))] (.c (.d (.i .i64 (min a b)))) := fun S => by
  refine acall_cw (rs := [.tmp 4]) Tryz.checked.mixed Tryz.func72 Tryz.ntmps72 rfl rfl rfl rfl rfl ?_
  simp -implicitDefEqProofs (disch := omega) only [go_sem]
  with_reducible refine split2 (fun hb => ?_) (fun hb => ?_) <;> have h := hb <;> (try simp only [wf_preprocess] at h) <;> simp -implicitDefEqProofs (disch := omega) only [go_sem, hb] <;> (repeat (with_reducible refine And.intro ?_ ?_; focus first | omega | rfl | assumption | exact ⟨_, rfl, rfl⟩ | (simp; omega) | (simp; done)))
  · exact int_eq (by omega)
  · exact int_eq (by omega)
theorem specFrom_ok (x : MSExpr) (i : Nat) (hx : x.sz ≤ 4194304) : PCall Tryz.prog 36 [x.v, .c (.d (.i .i64 i))] (.c (.d (.sl ((x.fList.drop i).map MSExpr.enc)))) := fun S => by
  have := sz_fList x
  refine acall_cw (rs := [.tmp 4]) Tryz.checked.mixed Tryz.func36 Tryz.ntmps36 rfl rfl rfl rfl rfl ?_
  simp -implicitDefEqProofs (disch := omega) only [go_sem]
  refine call_w (l1Min_ok _ _) ?_
  have e : min (i : Int) (x.fList.length : Int) = ((min i x.fList.length : Nat) : Int) := by omega
  rw [e]
  have hr := enc_rows (l := x.fList)
  simp -implicitDefEqProofs (disch := omega) only [go_sem]
  (repeat (with_reducible refine And.intro ?_ ?_; focus first | omega | rfl | assumption | exact ⟨_, rfl, rfl⟩ | (simp; omega) | (simp; done)))
  refine ⟨⟨by omega, by omega, by omega, hr⟩, ?_⟩
  rw [encX_drop _ _ _ (Nat.le_refl _)]
  by_cases h : i ≤ x.fList.length
  · rw [Nat.min_eq_left h]
  · rw [Nat.min_eq_right (by omega), List.drop_length, List.drop_of_length_le (by omega)]
theorem specCon_ok (s : List UInt8) : PCall Tryz.prog 40 [.c (.d (.s s)), .c (.d (.sl []))] (.agg [.d (.i .i64 2), .d (.s s), .d (.sl [])]) := PCall.of_le fun S => by
  refine acall_cw (rs := [.cell 4 62]) Tryz.checked.mixed Tryz.func40 Tryz.ntmps40 rfl rfl rfl rfl rfl ?_
  simp -implicitDefEqProofs (disch := omega) only [go_sem]
  (repeat (with_reducible refine And.intro ?_ ?_; focus first | omega | rfl | assumption | exact ⟨_, rfl, rfl⟩ | (simp; omega) | (simp; done)))
  exact less_refl _
theorem specVar_ok (s : List UInt8) : PCall Tryz.prog 39 [.c (.d (.s s))] (.agg [.d (.i .i64 1), .d (.s s), .d (.sl [])]) := PCall.of_le fun S => by
  refine acall_cw (rs := [.cell 2 62]) Tryz.checked.mixed Tryz.func39 Tryz.ntmps39 rfl rfl rfl rfl rfl ?_
  simp -implicitDefEqProofs (disch := omega) only [go_sem]
  (repeat (with_reducible refine And.intro ?_ ?_; focus first | omega | rfl | assumption | exact ⟨_, rfl, rfl⟩ | (simp; omega) | (simp; done)))
  exact typ_fsl _ _ _
theorem specDecTy_all : ∀ N : Nat, (∀ x : MSExpr, SizeOf.sizeOf x < N → x.sz ≤ 4194304 → PCall Tryz.prog 73 [x.v] (decT false x).v)
  | 0 => fun x h => by omega
  | N + 1 => by
    have ih := specDecTy_all N
    intro x hn hsz
    have lArgs := MSExpr.lt_List x
    have h1 := sz_fList x
    have h2 := sz_fAtom x
    have hx := decT_eq false x
    have hall : ∀ t ∈ x.fList, t.sz ≤ 4194304 := fun t ht => by have := szX_mem ht; omega
    refine PCall.of_le fun S => ?_
    refine acall_cw (rs := [.cell 2 62]) Tryz.checked.mixed Tryz.func73 Tryz.ntmps73 rfl rfl rfl rfl rfl ?_
    simp -implicitDefEqProofs (disch := omega) only [go_sem]
    with_reducible refine split2 (fun hb => ?_) (fun hb => ?_) <;> have h := hb <;> (try simp only [wf_preprocess] at h) <;> simp -implicitDefEqProofs (disch := omega) only [go_sem, hb] <;> (repeat (with_reducible refine And.intro ?_ ?_; focus first | omega | rfl | assumption | exact ⟨_, rfl, rfl⟩ | (simp; omega) | (simp; done)))
    · have hne := h
      rw [if_neg h] at hx
      have h39 := head39 h
      have hln : 0 < x.fAtom.length := List.length_pos_iff.2 hne
      have hsl := tail_slice x.fAtom x.fAtom.length (Nat.le_refl _)
      (repeat (with_reducible refine And.intro ?_ ?_; focus first | omega | rfl | assumption | exact ⟨_, rfl, rfl⟩ | (simp; omega) | (simp; done)))
      with_reducible refine split2 (fun hb => ?_) (fun hb => ?_) <;> have h := hb <;> (try simp only [wf_preprocess] at h) <;> simp -implicitDefEqProofs (disch := omega) only [go_sem, hb] <;> (repeat (with_reducible refine And.intro ?_ ?_; focus first | omega | rfl | assumption | exact ⟨_, rfl, rfl⟩ | (simp; omega) | (simp; done)))
      · rw [if_pos (h39.1 h)] at hx
        (repeat (with_reducible refine And.intro ?_ ?_; focus first | omega | rfl | assumption | exact ⟨_, rfl, rfl⟩ | (simp; omega) | (simp; done)))
        rw [hsl]
        refine call_w (specVar_ok _) ?_
        simp -implicitDefEqProofs (disch := omega) only [go_sem]
        exact le_T1 hx
      · rw [if_neg (fun e => h (h39.2 e))] at hx
        refine call_w (specCon_ok _) ?_
        simp -implicitDefEqProofs (disch := omega) only [go_sem]
        exact le_T1 hx
    rw [if_pos h] at hx
    with_reducible refine split2 (fun hb => ?_) (fun hb => ?_) <;> have h := hb <;> (try simp only [wf_preprocess] at h) <;> simp -implicitDefEqProofs (disch := omega) only [go_sem, hb] <;> (repeat (with_reducible refine And.intro ?_ ?_; focus first | omega | rfl | assumption | exact ⟨_, rfl, rfl⟩ | (simp; omega) | (simp; done)))
    · rw [if_pos (by omega)] at hx
      exact le_T0 hx
    rw [if_neg (by omega)] at hx
    have hl2 : 2 ≤ x.fList.length := by omega
    have a0 := atA_get (l := x.fList) (i := 0) (by omega)
    have a1 := atA_get (l := x.fList) (i := 1) (by omega)
    obtain ⟨T, hT⟩ : ∃ T : Nat → List (List D), T = fun i => (((x.fList.map (decT false)).drop 1).take i).map MType.enc := ⟨_, rfl⟩
    have hT0 : T 0 = [] := by rw [hT]; rfl
    have hTl : ∀ i, (T i).length ≤ i := fun i => by rw [hT]; simp only [List.length_map]; exact List.length_take_le _ _
    have hTr : ∀ i, ∀ r ∈ T i, r.length = 3 := fun i => by
      rw [hT]; intro r hr
      obtain ⟨z, _, rfl⟩ := List.mem_map.1 hr
      exact z.enc_length
    have hTs : ∀ i (hi : i + 1 < x.fList.length), T i ++ [[.i .i64 (decT false x.fList[i + 1]).fKind, .s (decT false x.fList[i + 1]).fName, .sl ((decT false x.fList[i + 1]).fArgs.map MType.enc)]] = T (i + 1) := fun i hi => by
      have := encT_snoc (l := (x.fList.map (decT false)).drop 1) (i := i) (by rw [List.length_drop, List.length_map]; omega)
      rw [List.getElem_drop, List.getElem_map] at this
      rw [hT]; simp only [Nat.add_comm 1 i] at this ⊢; exact this
    have hTe : T (x.fList.length - 1) = ((x.fList.map (decT false)).drop 1).map MType.enc := by
      rw [hT]; simp only
      rw [List.take_of_length_le (by simp)]
    have hTn : (T (x.fList.length - 1)).length = x.fList.length - 1 := by rw [hTe]; simp
    have hTd : (T (x.fList.length - 1)).drop 1 = ((x.fList.map (decT false)).drop 2).map MType.enc := by rw [hTe, ← List.map_drop, List.drop_drop]
    clear hT
    (repeat (with_reducible refine And.intro ?_ ?_; focus first | omega | rfl | assumption | exact ⟨_, rfl, rfl⟩ | (simp; omega) | (simp; done)))
    refine aw_tok 4 3 [] rfl (by simp) ?_
    refine loop_at (ι := Nat) Tryz.checked.mixed rfl [1, 2, 3, 4, 5] (fun i => [.c (.ptr (0, 0) 0), .c (.ptr (0, 1) 0), .c (.d (.s x.fList[0].fAtom)), .c (.tsl (0, 2) (T i)), .c (.d (.i .i64 ((i + 1 : Nat) : Int)))])
      (fun i => [.box [.d (.s x.fAtom), .d (.sl (x.fList.map MSExpr.enc))], .box [.d (.i .i64 0), .d (.s []), .fsl []], .tok 3 (T i)] :: S)
      (fun i => i + 1 ≤ x.fList.length) (fun i => x.fList.length - (i + 1)) 0 (by rw [hT0]; rfl) (by rw [hT0]; rfl) (by omega) ?_
    intro i hi
    have hl := hTl i
    simp -implicitDefEqProofs (disch := omega) only [go_sem]
    with_reducible refine split2 (fun hb => ?_) (fun hb => ?_) <;> have h := hb <;> (try simp only [wf_preprocess] at h) <;> simp -implicitDefEqProofs (disch := omega) only [go_sem, hb] <;> (repeat (with_reducible refine And.intro ?_ ?_; focus first | omega | rfl | assumption | exact ⟨_, rfl, rfl⟩ | (simp; omega) | (simp; done)))
    · have hi' : i + 1 < x.fList.length := by omega
      have hm := List.getElem_mem hi'
      have hs := hTs i hi'
      (repeat (with_reducible refine And.intro ?_ ?_; focus first | omega | rfl | assumption | exact ⟨_, rfl, rfl⟩ | (simp; omega) | (simp; done)))
      refine call_w (ih x.fList[i + 1] (by have := List.sizeOf_lt_of_mem hm; omega) (hall _ hm)) ?_
      simp -implicitDefEqProofs (disch := omega) only [go_sem, MType.enc_eq]
      (repeat (with_reducible refine And.intro ?_ ?_; focus first | omega | rfl | assumption | exact ⟨_, rfl, rfl⟩ | (simp; omega) | (simp; done)))
      rw [hs]
      exact inv_at (i + 1) (by omega) rfl rfl (by omega)
    have hi' : i = x.fList.length - 1 := by omega
    subst hi'
    have hrows := hTr (x.fList.length - 1)
    have hta : ((T (x.fList.length - 1)).take (x.fList.length - 1)) = T (x.fList.length - 1) := List.take_of_length_le (by omega)
    rw [a0, a1] at hx
    have tD : x.fList[0].fAtom = [100, 121, 110] ∧ x.fList.length = 2 ∧ x.fList[1].fAtom ≠ [] → decT false x = .mk 4 x.fList[1].fAtom [] := fun e => hx.trans (if_pos ⟨e.1, .inr e.2⟩)
    have tA : x.fList[0].fAtom = [97, 115, 115, 111, 99] ∧ x.fList.length = 3 ∧ x.fList[1].fAtom ≠ [] → decT false x = .mk 3 x.fList[1].fAtom ((x.fList.map (decT false)).drop 2) := fun e => by
      rw [hx, if_neg (fun e' => by have := e'.1.symm.trans e.1; revert this; decide), if_pos ⟨e.1, .inr e.2⟩]
    have tN : ¬ (x.fList[0].fAtom = [100, 121, 110] ∧ x.fList.length = 2 ∧ x.fList[1].fAtom ≠ []) → ¬ (x.fList[0].fAtom = [97, 115, 115, 111, 99] ∧ x.fList.length = 3 ∧ x.fList[1].fAtom ≠ []) → decT false x = .mk 2 x.fList[0].fAtom ((x.fList.map (decT false)).drop 1) := fun e1 e2 => by
      rw [hx, if_neg (fun e' => e1 ⟨e'.1, e'.2.resolve_left (by decide)⟩), if_neg (fun e' => e2 ⟨e'.1, e'.2.resolve_left (by decide)⟩)]
    clear hx hTs ih
    repeat' (first | (with_reducible refine split2 (fun hb => ?_) (fun hb => ?_) <;> have h := hb <;> (try simp only [wf_preprocess] at h) <;> simp -implicitDefEqProofs (disch := omega) only [go_sem, hb] <;> (repeat (with_reducible refine And.intro ?_ ?_; focus first | omega | rfl | assumption | exact ⟨_, rfl, rfl⟩ | (simp; omega) | (simp; done)))))
    all_goals first
      | (refine ⟨⟨by omega, by omega, hrows⟩, ?_⟩; refine le_T (tA ⟨by assumption, by omega, by assumption⟩) ?_; rw [hTn, hta, hTd]; exact less_refl _)
      | exact le_T0 (tD ⟨by assumption, by omega, by assumption⟩)
      | (refine le_T (tN (fun ⟨a, b, c⟩ => by first | contradiction | omega) (fun ⟨a, b, c⟩ => by first | contradiction | omega)) ?_; rw [hTe]; exact less_refl _)
      | trace_state
theorem specDecTy_ok (x : MSExpr) (hsz : x.sz ≤ 4194304) : PCall Tryz.prog 73 [x.v] (decT false x).v := specDecTy_all _ x (Nat.lt_succ_self _) hsz
theorem specDecTys_ok (xs : List MSExpr) (hlen : xs.length ≤ 4194304) (hsz : ∀ t ∈ xs, t.sz ≤ 4194304) : PCall Tryz.prog 37 [.c (.d (.sl (xs.map MSExpr.enc)))] (.c (.d (.sl ((xs.map (decT false)).map MType.enc)))) := fun S => by
  refine acall_cw (rs := [.tmp 2]) Tryz.checked.mixed Tryz.func37 Tryz.ntmps37 rfl rfl rfl rfl rfl ?_
  simp -implicitDefEqProofs (disch := omega) only [go_sem]
  (repeat (with_reducible refine And.intro ?_ ?_; focus first | omega | rfl | assumption | exact ⟨_, rfl, rfl⟩ | (simp; omega) | (simp; done)))
  refine aw_tok 3 3 [] rfl (by simp) ?_
  refine loop_at (ι := Nat) Tryz.checked.mixed rfl [0, 3, 4] (fun i => [.c (.d (.sl (xs.map MSExpr.enc))), .c (.tsl (0, 0) (((xs.map (decT false)).take i).map MType.enc)), .c (.d (.i .i64 i))]) (fun i => [.tok 3 (((xs.map (decT false)).take i).map MType.enc)] :: S)
    (fun i => i ≤ xs.length) (fun i => xs.length - i) 0 rfl rfl (Nat.zero_le _) ?_
  intro i hi
  have hl : (((xs.map (decT false)).take i).map MType.enc).length ≤ i := by rw [List.length_map]; exact List.length_take_le _ _
  simp -implicitDefEqProofs (disch := omega) only [go_sem]
  with_reducible refine split2 (fun hb => ?_) (fun hb => ?_) <;> have h := hb <;> (try simp only [wf_preprocess] at h) <;> simp -implicitDefEqProofs (disch := omega) only [go_sem, hb] <;> (repeat (with_reducible refine And.intro ?_ ?_; focus first | omega | rfl | assumption | exact ⟨_, rfl, rfl⟩ | (simp; omega) | (simp; done)))
  · have hi' : i < xs.length := by omega
    have hs := encT_snoc (l := xs.map (decT false)) (i := i) (by rw [List.length_map]; exact hi')
    rw [List.getElem_map] at hs
    (repeat (with_reducible refine And.intro ?_ ?_; focus first | omega | rfl | assumption | exact ⟨_, rfl, rfl⟩ | (simp; omega) | (simp; done)))
    refine call_w (specDecTy_ok xs[i] (hsz _ (List.getElem_mem hi'))) ?_
    simp -implicitDefEqProofs (disch := omega) only [go_sem]
    (repeat (with_reducible refine And.intro ?_ ?_; focus first | omega | rfl | assumption | exact ⟨_, rfl, rfl⟩ | (simp; omega) | (simp; done)))
    rw [hs]
    exact inv_at (i + 1) (by omega) rfl rfl (by omega)
  · have hi' : i = (xs.map (decT false)).length := by rw [List.length_map]; omega
    rw [hi', List.take_length]
theorem stlHasPrefix_ok (s : List UInt8) (hs : s.length ≤ 1073741824) : PCall Tryz.prog 123 [.c (.d (.s s)), .c (.d (.s [39]))] (.c (.d (.b (decide (s.head? = some 39))))) := fun S => by
  refine acall_cw (rs := [.tmp 4]) Tryz.checked.mixed Tryz.func123 Tryz.ntmps123 rfl rfl rfl rfl rfl ?_
  simp -implicitDefEqProofs (disch := omega) only [go_sem]
  with_reducible refine split2 (fun hb => ?_) (fun hb => ?_) <;> have h := hb <;> (try simp only [wf_preprocess] at h) <;> simp -implicitDefEqProofs (disch := omega) only [go_sem, hb] <;> (repeat (with_reducible refine And.intro ?_ ?_; focus first | omega | rfl | assumption | exact ⟨_, rfl, rfl⟩ | (simp; omega) | (simp; done)))
  · exact bool_eq (decide_eq_decide.2 (head39_take (by omega)))
  · have : s = [] := List.eq_nil_of_length_eq_zero (by omega)
    subst this
    rfl
theorem stlCutPrefix_ok (s : List UInt8) (hs : s.length ≤ 1073741824) : PCall Tryz.prog 113 [.c (.d (.s s)), .c (.d (.s [39]))] (.tup [(false, [.d (.s (if s.head? = some 39 then s.tail else s))]), (false, [.d (.b (decide (s.head? = some 39)))])]) := fun S => by
  refine acall_cw (rs := [.tmp 4, .tmp 5]) Tryz.checked.mixed Tryz.func113 Tryz.ntmps113 rfl rfl rfl rfl rfl ?_
  simp -implicitDefEqProofs (disch := omega) only [go_sem]
  refine call_w (stlHasPrefix_ok s hs) ?_
  simp -implicitDefEqProofs (disch := omega) only [go_sem]
  with_reducible refine split2 (fun hb => ?_) (fun hb => ?_) <;> have h := hb <;> (try simp only [wf_preprocess] at h) <;> simp -implicitDefEqProofs (disch := omega) only [go_sem, hb] <;> (repeat (with_reducible refine And.intro ?_ ?_; focus first | omega | rfl | assumption | exact ⟨_, rfl, rfl⟩ | (simp; omega) | (simp; done)))
  · rw [if_neg h, decide_eq_false h]
  · have hl : 0 < s.length := by
      cases s with
      | nil => cases h
      | cons _ _ => simp
    (repeat (with_reducible refine And.intro ?_ ?_; focus first | omega | rfl | assumption | exact ⟨_, rfl, rfl⟩ | (simp; omega) | (simp; done)))
    rw [if_pos h, decide_eq_true h, tail_slice _ _ (Nat.le_refl _)]
theorem cutPrefix_ok (s : List UInt8) (hs : s.length ≤ 1073741824) : PCall Tryz.prog 94 [.c (.d (.s s)), .c (.d (.s [39]))] (.tup [(false, [.d (.s (if s.head? = some 39 then s.tail else s))]), (false, [.d (.b (decide (s.head? = some 39)))])]) := fun S => by
  refine acall_cw (rs := [.tmp 4, .tmp 5]) Tryz.checked.mixed Tryz.func94 Tryz.ntmps94 rfl rfl rfl rfl rfl ?_
  simp -implicitDefEqProofs (disch := omega) only [go_sem]
  refine call_w (stlCutPrefix_ok s hs) ?_
  simp -implicitDefEqProofs (disch := omega) only [go_sem]
theorem implNamesOf_lab (xs : List MSExpr) (hx : xs.length ≤ 1073741824) (n : Nat) : PCall Tryz.prog 65 [.c (.d (.sl (xs.map MSExpr.enc)))] (.tup [(false, [.d (.ol n ((namesX xs).map encS))]), (false, [.d (.b (allA xs))])]) := PCall.of_le fun S => by
  refine acall_cwL (n) (rs := [.tmp 2, .tmp 3]) Tryz.checked.mixed Tryz.func65 Tryz.ntmps65 rfl rfl rfl rfl rfl ?_
  simp -implicitDefEqProofs (disch := omega) only [go_sem]
  (repeat (with_reducible refine And.intro ?_ ?_; focus first | omega | rfl | assumption | exact ⟨_, rfl, rfl⟩ | (simp; omega) | (simp; done)))
  refine aw_ltok n 4 1 [] (.inl rfl) (by simp) ?_
  refine loop_at (ι := Nat) Tryz.checked.mixed rfl [4, 8, 9, 10] (fun i => [.c (.tsl (0, 1) ((xs.take i).map atomRow)), .c (.d (.sl (xs.map MSExpr.enc))), .c (.d (.i .i64 xs.length)), .c (.d (.i .i64 i))]) (fun i => [.seed n, .ltok n 1 ((xs.take i).map atomRow)] :: S)
    (fun i => i ≤ xs.length ∧ ∀ j, ∀ hj : j < xs.length, j < i → xs[j].fAtom ≠ []) (fun i => xs.length - i) 0 rfl rfl ⟨Nat.zero_le _, fun j _ h => by omega⟩ ?_
  rintro i ⟨p1, p2⟩
  have hl := atomRow_len (l := xs) (i := i)
  simp -implicitDefEqProofs (disch := omega) only [go_sem, MSExpr.enc_eq]
  with_reducible refine split2 (fun hb => ?_) (fun hb => ?_) <;> have h := hb <;> (try simp only [wf_preprocess] at h) <;> simp -implicitDefEqProofs (disch := omega) only [go_sem, hb] <;> (repeat (with_reducible refine And.intro ?_ ?_; focus first | omega | rfl | assumption | exact ⟨_, rfl, rfl⟩ | (simp; omega) | (simp; done)))
  · have hi' : i < xs.length := by omega
    have hs := atomRow_snoc hi'
    (repeat (with_reducible refine And.intro ?_ ?_; focus first | omega | rfl | assumption | exact ⟨_, rfl, rfl⟩ | (simp; omega) | (simp; done)))
    with_reducible refine split2 (fun hb => ?_) (fun hb => ?_) <;> have h := hb <;> (try simp only [wf_preprocess] at h) <;> simp -implicitDefEqProofs (disch := omega) only [go_sem, hb] <;> (repeat (with_reducible refine And.intro ?_ ?_; focus first | omega | rfl | assumption | exact ⟨_, rfl, rfl⟩ | (simp; omega) | (simp; done)))
    · obtain ⟨e1, e2⟩ := allA_no hi' h
      rw [e1, e2]
      exact (CompsLe.cons (.cons (cell_nil_ol n) .nil) (.refl _)).less
    · (repeat (with_reducible refine And.intro ?_ ?_; focus first | omega | rfl | assumption | exact ⟨_, rfl, rfl⟩ | (simp; omega) | (simp; done)))
      rw [hs]
      refine inv_drop 2 (by decide) (i + 1) (by omega) rfl rfl rfl rfl ⟨by omega, fun j hj hji => ?_⟩
      by_cases e' : j = i
      · subst e'; exact h
      · exact p2 j hj (by omega)
  · have hi' : i = xs.length := by omega
    subst hi'
    obtain ⟨e1, e2⟩ := allA_yes fun j hj => p2 j hj hj
    rw [e1, e2, List.take_length]
    exact less_refl _
theorem implNames_lab (x : MSExpr) (hx : x.sz ≤ 4194304) (n : Nat) : PCall Tryz.prog 30 [x.v] (.c (.d (.ol n ((namesX x.fList).map encS)))) := fun S => by
  have := sz_fList x
  refine acall_cw (rs := [.tmp 2]) Tryz.checked.mixed Tryz.func30 Tryz.ntmps30 rfl rfl rfl rfl rfl ?_
  simp -implicitDefEqProofs (disch := omega) only [go_sem]
  refine call_w (implNamesOf_lab x.fList (by omega) n) ?_
  simp -implicitDefEqProofs (disch := omega) only [go_sem]
theorem implVar_lab (s : List UInt8) (n : Nat) : PCall Tryz.prog 95 [.c (.d (.s s))] (.agg [.d (.i .i64 1), .d (.s s), .d (.ol n [])]) := PCall.of_le fun S => by
  refine acall_cw (rs := [.cell 2 62]) Tryz.checked.mixed Tryz.func95 Tryz.ntmps95 rfl rfl rfl rfl rfl ?_
  simp -implicitDefEqProofs (disch := omega) only [go_sem]
  (repeat (with_reducible refine And.intro ?_ ?_; focus first | omega | rfl | assumption | exact ⟨_, rfl, rfl⟩ | (simp; omega) | (simp; done)))
  exact typ_nil _ _ _
theorem implDyn_lab (s : List UInt8) (n : Nat) : PCall Tryz.prog 96 [.c (.d (.s s))] (.agg [.d (.i .i64 4), .d (.s s), .d (.ol n [])]) := PCall.of_le fun S => by
  refine acall_cw (rs := [.cell 2 62]) Tryz.checked.mixed Tryz.func96 Tryz.ntmps96 rfl rfl rfl rfl rfl ?_
  simp -implicitDefEqProofs (disch := omega) only [go_sem]
  (repeat (with_reducible refine And.intro ?_ ?_; focus first | omega | rfl | assumption | exact ⟨_, rfl, rfl⟩ | (simp; omega) | (simp; done)))
  exact typ_nil _ _ _
theorem implDecTy_all : ∀ N : Nat, (∀ x : MSExpr, SizeOf.sizeOf x < N → ∀ n : Nat, x.sz ≤ 4194304 → PCall Tryz.prog 66 [x.v] ((decT true x).vl n)) ∧
    (∀ xs : List MSExpr, SizeOf.sizeOf xs < N → ∀ n q : Nat, xs.length ≤ 4194304 → (∀ t ∈ xs, t.sz ≤ 4194304) → PCall Tryz.prog 31 [.c (.d (.sl (xs.map MSExpr.enc)))] (.c (.d (.ol n (lt (xs.map (decT true)) q)))))
  | 0 => ⟨fun x h => by omega, fun x h => by omega⟩
  | N + 1 => by
    obtain ⟨ih, ihS⟩ := implDecTy_all N
    refine ⟨fun x hn n hsz => PCall.of_le fun S => ?_, fun xs hn n q hlen hsz S => ?_⟩
    · have lArgs := MSExpr.lt_List x
      have h1 := sz_fList x
      have h2 := sz_fAtom x
      have hx := decT_eq true x
      have hall : ∀ t ∈ x.fList, t.sz ≤ 4194304 := fun t ht => by have := szX_mem ht; omega
      refine acall_cw (rs := [.cell 2 62]) Tryz.checked.mixed Tryz.func66 Tryz.ntmps66 rfl rfl rfl rfl rfl ?_
      simp -implicitDefEqProofs (disch := omega) only [go_sem]
      with_reducible refine split2 (fun hb => ?_) (fun hb => ?_) <;> have h := hb <;> (try simp only [wf_preprocess] at h) <;> simp -implicitDefEqProofs (disch := omega) only [go_sem, hb] <;> (repeat (with_reducible refine And.intro ?_ ?_; focus first | omega | rfl | assumption | exact ⟨_, rfl, rfl⟩ | (simp; omega) | (simp; done)))
      · rw [if_neg h] at hx
        refine call_w (cutPrefix_ok x.fAtom (by omega)) ?_
        simp -implicitDefEqProofs (disch := omega) only [go_sem]
        with_reducible refine split2 (fun hb => ?_) (fun hb => ?_) <;> have h := hb <;> (try simp only [wf_preprocess] at h) <;> simp -implicitDefEqProofs (disch := omega) only [go_sem, hb] <;> (repeat (with_reducible refine And.intro ?_ ?_; focus first | omega | rfl | assumption | exact ⟨_, rfl, rfl⟩ | (simp; omega) | (simp; done)))
        · rw [if_pos h] at hx ⊢
          refine call_w (implVar_lab _ n) ?_
          simp -implicitDefEqProofs (disch := omega) only [go_sem]
          exact le_lT1 hx
        · rw [if_neg h] at hx
          (repeat (with_reducible refine And.intro ?_ ?_; focus first | omega | rfl | assumption | exact ⟨_, rfl, rfl⟩ | (simp; omega) | (simp; done)))
          exact le_lT0 hx
      rw [if_pos h] at hx
      with_reducible refine split2 (fun hb => ?_) (fun hb => ?_) <;> have h := hb <;> (try simp only [wf_preprocess] at h) <;> simp -implicitDefEqProofs (disch := omega) only [go_sem, hb] <;> (repeat (with_reducible refine And.intro ?_ ?_; focus first | omega | rfl | assumption | exact ⟨_, rfl, rfl⟩ | (simp; omega) | (simp; done)))
      · rw [if_pos (by omega)] at hx
        exact le_lT0 hx
      rw [if_neg (by omega)] at hx
      have hl2 : 2 ≤ x.fList.length := by omega
      have a0 := atA_get (l := x.fList) (i := 0) (by omega)
      have a1 := atA_get (l := x.fList) (i := 1) (by omega)
      rw [a0, a1] at hx
      have hr := enc_rows (l := x.fList)
      have hd := fun i => encX_drop x.fList x.fList.length i (Nat.le_refl _)
      have hso := fun i => sizeOf_drop i x.fList
      have hdl : ∀ i, (x.fList.drop i).length ≤ 4194304 := fun i => by rw [List.length_drop]; omega
      have hda : ∀ i, ∀ t ∈ x.fList.drop i, t.sz ≤ 4194304 := fun i t ht => hall t (List.mem_of_mem_drop ht)
      (repeat (with_reducible refine And.intro ?_ ?_; focus first | omega | rfl | assumption | exact ⟨_, rfl, rfl⟩ | (simp; omega) | (simp; done)))
      with_reducible refine split2 (fun hb => ?_) (fun hb => ?_) <;> have h := hb <;> (try simp only [wf_preprocess] at h) <;> simp -implicitDefEqProofs (disch := omega) only [go_sem, hb] <;> (repeat (with_reducible refine And.intro ?_ ?_; focus first | omega | rfl | assumption | exact ⟨_, rfl, rfl⟩ | (simp; omega) | (simp; done)))
      · have hx := hx.trans (if_pos ⟨h, .inl rfl⟩)
        (repeat (with_reducible refine And.intro ?_ ?_; focus first | omega | rfl | assumption | exact ⟨_, rfl, rfl⟩ | (simp; omega) | (simp; done)))
        refine call_w (implDyn_lab _ n) ?_
        simp -implicitDefEqProofs (disch := omega) only [go_sem]
        exact le_lT1 hx
      have hx := hx.trans (if_neg fun e => h e.1)
      with_reducible refine split2 (fun hb => ?_) (fun hb => ?_) <;> have h := hb <;> (try simp only [wf_preprocess] at h) <;> simp -implicitDefEqProofs (disch := omega) only [go_sem, hb] <;> (repeat (with_reducible refine And.intro ?_ ?_; focus first | omega | rfl | assumption | exact ⟨_, rfl, rfl⟩ | (simp; omega) | (simp; done)))
      · have hx := hx.trans (if_pos ⟨h, .inl rfl⟩)
        refine ⟨⟨by omega, by omega, hr⟩, ?_⟩
        rw [hd]
        refine call_w (ihS (x.fList.drop 2) (by have := hso 2; omega) n (n + 1) (hdl 2) (hda 2)) ?_
        simp -implicitDefEqProofs (disch := omega) only [go_sem]
        refine le_lT hx ?_
        rw [List.map_drop]
        exact less_refl _
      · have hx := hx.trans (if_neg fun e => h e.1)
        refine ⟨⟨by omega, by omega, hr⟩, ?_⟩
        rw [hd]
        refine call_w (ihS (x.fList.drop 1) (by have := hso 1; omega) n (n + 1) (hdl 1) (hda 1)) ?_
        simp -implicitDefEqProofs (disch := omega) only [go_sem]
        refine le_lT hx ?_
        rw [List.map_drop]
        exact less_refl _
    · have hsnoc := fun (i : Nat) (hi : i < xs.length) => lt_snoc (l := xs.map (decT true)) (i := i) (by rw [List.length_map]; exact hi) q
      refine acall_cwL (n) (rs := [.tmp 2]) Tryz.checked.mixed Tryz.func31 Tryz.ntmps31 rfl rfl rfl rfl rfl ?_
      simp -implicitDefEqProofs (disch := omega) only [go_sem]
      (repeat (with_reducible refine And.intro ?_ ?_; focus first | omega | rfl | assumption | exact ⟨_, rfl, rfl⟩ | (simp; omega) | (simp; done)))
      refine aw_ltok n 3 3 [] (.inl rfl) (by simp) ?_
      refine loop_at (ι := Nat) Tryz.checked.mixed rfl [3, 7, 8, 9] (fun i => [.c (.tsl (0, 1) (lt ((xs.map (decT true)).take i) q)), .c (.d (.sl (xs.map MSExpr.enc))), .c (.d (.i .i64 xs.length)), .c (.d (.i .i64 i))]) (fun i => [.seed n, .ltok n 3 (lt ((xs.map (decT true)).take i) q)] :: S)
        (fun i => i ≤ xs.length) (fun i => xs.length - i) 0 rfl rfl (Nat.zero_le _) ?_
      intro i hi
      simp -implicitDefEqProofs (disch := omega) only [go_sem, MSExpr.enc_eq]
      with_reducible refine split2 (fun hb => ?_) (fun hb => ?_) <;> have h := hb <;> (try simp only [wf_preprocess] at h) <;> simp -implicitDefEqProofs (disch := omega) only [go_sem, hb] <;> (repeat (with_reducible refine And.intro ?_ ?_; focus first | omega | rfl | assumption | exact ⟨_, rfl, rfl⟩ | (simp; omega) | (simp; done)))
      · have hi' : i < xs.length := by omega
        have hs := hsnoc i hi'
        rw [List.getElem_map] at hs
        have hl : (lt ((xs.map (decT true)).take i) q).length ≤ i := by rw [lt_length]; exact List.length_take_le _ _
        (repeat (with_reducible refine And.intro ?_ ?_; focus first | omega | rfl | assumption | exact ⟨_, rfl, rfl⟩ | (simp; omega) | (simp; done)))
        refine call_w (ih xs[i] (by have := List.sizeOf_lt_of_mem (List.getElem_mem hi'); omega) (q + cntTs ((xs.map (decT true)).take i)) (hsz _ (List.getElem_mem hi'))) ?_
        simp -implicitDefEqProofs (disch := omega) only [go_sem]
        (repeat (with_reducible refine And.intro ?_ ?_; focus first | omega | rfl | assumption | exact ⟨_, rfl, rfl⟩ | (simp; omega) | (simp; done)))
        rw [hs]
        exact inv_drop 2 (by decide) (i + 1) (by omega) rfl rfl rfl rfl (by omega)
      · have hi' : i = (xs.map (decT true)).length := by rw [List.length_map]; omega
        rw [hi', List.take_length]
theorem implDecTys_lab (xs : List MSExpr) (n q : Nat) (hlen : xs.length ≤ 4194304) (hsz : ∀ t ∈ xs, t.sz ≤ 4194304) : PCall Tryz.prog 31 [.c (.d (.sl (xs.map MSExpr.enc)))] (.c (.d (.ol n (lt (xs.map (decT true)) q)))) := (implDecTy_all _).2 xs (Nat.lt_succ_self _) n q hlen hsz
theorem hasForm_ok (x : MSExpr) (s : List UInt8) (k : Nat) (hk : 1 ≤ k) (hk2 : k ≤ 100) (hsz : x.sz ≤ 4194304) : PCall Tryz.prog 29 [x.v, .c (.d (.s s)), .c (.d (.i .i64 k))] (.c (.d (.b (dec (validX x = true ∧ k ≤ x.fList.length ∧ atA x.fList 0 = s))))) := fun S => by
  have h1 := sz_fList x
  obtain ⟨t, ht⟩ : ∃ t, t = dec (validX x = true ∧ k ≤ x.fList.length ∧ atA x.fList 0 = s) := ⟨_, rfl⟩
  rw [← ht]
  refine acall_cw (rs := [.tmp 6]) Tryz.checked.mixed Tryz.func29 Tryz.ntmps29 rfl rfl rfl rfl rfl ?_
  simp -implicitDefEqProofs (disch := omega) only [go_sem]
  refine call_w (implValidX_ok x (by omega)) ?_
  simp -implicitDefEqProofs (disch := omega) only [go_sem]
  with_reducible refine split2 (fun hb => ?_) (fun hb => ?_) <;> have h := hb <;> (try simp only [wf_preprocess] at h) <;> simp -implicitDefEqProofs (disch := omega) only [go_sem, hb] <;> (repeat (with_reducible refine And.intro ?_ ?_; focus first | omega | rfl | assumption | exact ⟨_, rfl, rfl⟩ | (simp; omega) | (simp; done)))
  · have hv := h
    with_reducible refine split2 (fun hb => ?_) (fun hb => ?_) <;> have h := hb <;> (try simp only [wf_preprocess] at h) <;> simp -implicitDefEqProofs (disch := omega) only [go_sem, hb] <;> (repeat (with_reducible refine And.intro ?_ ?_; focus first | omega | rfl | assumption | exact ⟨_, rfl, rfl⟩ | (simp; omega) | (simp; done)))
    · have hl : 0 < x.fList.length := by omega
      have hl2 : k ≤ x.fList.length := by omega
      have a0 := atA_get hl
      (repeat (with_reducible refine And.intro ?_ ?_; focus first | omega | rfl | assumption | exact ⟨_, rfl, rfl⟩ | (simp; omega) | (simp; done)))
      refine bool_eq ?_
      rw [decide_dec, ht]
      exact dec_congr ⟨fun e => ⟨hv, hl2, by rw [a0]; exact e⟩, fun e => by rw [← a0]; exact e.2.2⟩
    · exact bool_eq (ht.trans (dec_false fun e => by omega)).symm
  · exact bool_eq (ht.trans (dec_false fun e => by rw [e.1] at h; cases h)).symm
end Go.Proofs.YtnceiannponbjaaGreat

namespace Go.Ab
theorem getD_sz (x : MSExpr) (i : Nat) {m : Nat} (h : x.sz ≤ m) : (x.fList.getD i zeroX).sz ≤ m := by
  have := szX_getD x.fList i
  have := sz_fList x
  omega
theorem encC_snoc {b : Bool} {l : List MSExpr} {i : Nat} (hi : i < l.length) : ((l.take i).map (decC b)).map MConstructor.enc ++ [[.s (l[i].fList.getD 0 zeroX).fAtom, .sl (((l[i].fList.drop 1).map (decT b)).map MType.enc)]] = ((l.take (i + 1)).map (decC b)).map MConstructor.enc := by
  rw [List.take_succ_eq_append_getElem hi, List.map_append, List.map_append]
  simp only [List.map_cons, List.map_nil, MConstructor.enc_eq]
  rfl
theorem rdD_enc {x : MSExpr} (h : okD x = true) : (rdD x).fName = (decD false x).fName ∧ (rdD x).fVars = (decD false x).fVars ∧ (rdD x).fConstructors = (decD false x).fConstructors := by
  unfold rdD
  rw [if_pos h, ← okD_same h]; exact ⟨rfl, rfl, rfl⟩
theorem rdD_no {x : MSExpr} (h : okD x = false) : rdD x = ⟨[], [], []⟩ := by
  unfold rdD
  rw [if_neg (by rw [h]; decide)]
theorem rdD_yes {x : MSExpr} (h : okD x = true) : rdD x = decD true x := if_pos h
theorem okD_ne {x : MSExpr} (h : x.fList.length = 0) : okD x = false := dec_false fun h1 => by omega
theorem tup_nilD (ok : Bool) : Less (.tup [(true, [.d (.s []), .fsl [], .fsl []]), (false, [.d (.b ok)])]) (.tup [(true, [.d (.s []), .d (.sl []), .d (.sl [])]), (false, [.d (.b ok)])]) :=
  (CompsLe.cons (.cons (.refl _) (.cons (cell_fsl _) (.cons (cell_fsl _) .nil))) (.refl _)).less
theorem tup_nilD_l (n : Nat) (ok : Bool) : Less (.tup [(true, [.d (.s []), .fsl [], .fsl []]), (false, [.d (.b ok)])]) (.tup [(true, [.d (.s []), .d (.ol n []), .d (.ol (n + 1) [])]), (false, [.d (.b ok)])]) :=
  (CompsLe.cons (.cons (.refl _) (.cons (cell_nil_ol _) (.cons (cell_nil_ol _) .nil))) (.refl _)).less
def lc (l : List MConstructor) (n : Nat) : List (List D) := labRs (l.map MConstructor.enc) n
def cntCs (l : List MConstructor) : Nat := cntRs (l.map MConstructor.enc)
theorem labC_eq (x : MConstructor) (n : Nat) : labR x.enc n = [.s x.fName, .ol n (lt x.fFields (n + 1))] := by
  rw [MConstructor.enc_eq]; simp only [labR, labD, cntD, Nat.add_zero, lt]
theorem labD_eq (x : MDataType) (n : Nat) : labR x.enc n = [.s x.fName, .ol n (x.fVars.map encS), .ol (n + 1) (lc x.fConstructors (n + 1 + 1))] := by
  rw [MDataType.enc_eq]; simp only [labR, labD, cntD, Nat.add_zero, lab_encS, labW_cnt, Nat.zero_add, lc]
theorem dle_lt (l : List MType) (n : Nat) : DLe (.ol n (lt l (n + 1))) (.sl (l.map MType.enc)) := dle_lab (.sl (l.map MType.enc)) n
theorem lc_snoc {l : List MConstructor} {i : Nat} (hi : i < l.length) (n : Nat) : lc (l.take i) n ++ [[.s l[i].fName, .ol (n + cntCs (l.take i)) (lt l[i].fFields (n + cntCs (l.take i) + 1))]] = lc (l.take (i + 1)) n := by
  rw [List.take_succ_eq_append_getElem hi]
  unfold lc cntCs
  rw [List.map_append, labRs_append]
  simp only [List.map_cons, List.map_nil, labRs, labC_eq]
end Go.Ab
namespace Go.Proofs.YtnceiannponbjaaGreat
open Go Go.Ab
theorem specDecData_ok (x : MSExpr) (hsz : x.sz ≤ 1048576) : PCall Tryz.prog 13 [x.v] (.tup [(true, [.d (.s (rdD x).fName), .d (.sl ((rdD x).fVars.map encS)), .d (.sl ((rdD x).fConstructors.map MConstructor.enc))]), (false, [.d (.b (okD x))])]) := PCall.of_le fun S => by
  have h1 := sz_fList x
  have hds := decD_sz false x
  have hos := outD_sz (d := decD false x) (by omega)
  obtain ⟨l, hl⟩ : ∃ l, l = x.fList.drop 3 := ⟨_, rfl⟩
  have hll : l.length ≤ 1048576 := by rw [hl, List.length_drop]; omega
  have hlm : ∀ y ∈ l, y.sz ≤ 1048576 := fun y hy => by
    have := szX_mem (List.mem_of_mem_drop (hl ▸ hy)); omega
  obtain ⟨T, hT⟩ : ∃ T : Nat → List (List D), T = fun i => ((l.take i).map (decC false)).map MConstructor.enc := ⟨_, rfl⟩
  have hT0 : T 0 = [] := by rw [hT]; rfl
  have hTl : ∀ i, (T i).length ≤ i := fun i => by rw [hT]; simp only [List.length_map]; exact List.length_take_le _ _
  have hTs : ∀ i (hi : i < l.length), T i ++ [[.s (l[i].fList.getD 0 zeroX).fAtom, .sl (((l[i].fList.drop 1).map (decT false)).map MType.enc)]] = T (i + 1) := fun i hi => by rw [hT]; exact encC_snoc hi
  have hTe : T l.length = ((decD false x).fConstructors).map MConstructor.enc := by
    rw [hT]; simp only
    rw [List.take_length, hl]; rfl
  clear hT
  refine acall_cw (rs := [.cell 2 27, .tmp 3]) Tryz.checked.mixed Tryz.func13 Tryz.ntmps13 rfl rfl rfl rfl rfl ?_
  simp -implicitDefEqProofs (disch := omega) only [go_sem]
  refine call_w (specAt_ok x 1 (by omega) (by omega)) ?_
  simp -implicitDefEqProofs (disch := omega) only [go_sem]
  refine call_w (specAt_ok x 2 (by omega) (by omega)) ?_
  simp -implicitDefEqProofs (disch := omega) only [go_sem]
  refine call_w (specNames_ok _ (getD_sz x 2 (by omega))) ?_
  simp -implicitDefEqProofs (disch := omega) only [go_sem]
  (repeat (with_reducible refine And.intro ?_ ?_; focus first | omega | rfl | assumption | exact ⟨_, rfl, rfl⟩ | (simp; omega) | (simp; done)))
  refine call_w (specFrom_ok x 3 (by omega)) ?_
  simp -implicitDefEqProofs (disch := omega) only [go_sem]
  rw [← hl]
  refine aw_boxtok 2 2 2 _ rfl rfl ?_
  refine loop_at (ι := Nat) Tryz.checked.mixed rfl [1, 2, 4, 5, 6] (fun i => [.c (.ptr (0, 0) 0), .c (.ptr (0, 1) 0), .c (.ptr (0, 2) 0), .c (.d (.sl (l.map MSExpr.enc))), .c (.d (.i .i64 i))])
    (fun i => [.box [.d (.s x.fAtom), .d (.sl (x.fList.map MSExpr.enc))], .box [.d (.s []), .fsl [], .fsl []], .box [.d (.s (decD false x).fName), .d (.sl ((decD false x).fVars.map encS)), .tsl (0, 3) (T i)], .tok 2 (T i)] :: S)
    (fun i => i ≤ l.length) (fun i => l.length - i) 0 rfl (by rw [hT0]; rfl) (Nat.zero_le _) ?_
  intro i hi
  have hl' := hTl i
  simp -implicitDefEqProofs (disch := omega) only [go_sem]
  with_reducible refine split2 (fun hb => ?_) (fun hb => ?_) <;> have h := hb <;> (try simp only [wf_preprocess] at h) <;> simp -implicitDefEqProofs (disch := omega) only [go_sem, hb] <;> (repeat (with_reducible refine And.intro ?_ ?_; focus first | omega | rfl | assumption | exact ⟨_, rfl, rfl⟩ | (simp; omega) | (simp; done)))
  · have hi' : i < l.length := by omega
    have hm := List.getElem_mem hi'
    have hs := hTs i hi'
    have hz := hlm _ hm
    have hz1 := sz_fList l[i]
    (repeat (with_reducible refine And.intro ?_ ?_; focus first | omega | rfl | assumption | exact ⟨_, rfl, rfl⟩ | (simp; omega) | (simp; done)))
    refine call_w (specAt_ok l[i] 0 (by omega) (by omega)) ?_
    simp -implicitDefEqProofs (disch := omega) only [go_sem]
    (repeat (with_reducible refine And.intro ?_ ?_; focus first | omega | rfl | assumption | exact ⟨_, rfl, rfl⟩ | (simp; omega) | (simp; done)))
    refine call_w (specFrom_ok l[i] 1 (by omega)) ?_
    simp -implicitDefEqProofs (disch := omega) only [go_sem]
    refine call_w (specDecTys_ok (l[i].fList.drop 1) (by rw [List.length_drop]; omega) (fun t ht => by have := szX_mem (List.mem_of_mem_drop ht); omega)) ?_
    simp -implicitDefEqProofs (disch := omega) only [go_sem]
    (repeat (with_reducible refine And.intro ?_ ?_; focus first | omega | rfl | assumption | exact ⟨_, rfl, rfl⟩ | (simp; omega) | (simp; done)))
    rw [hs]
    exact inv_drop 4 (by decide) (i + 1) (by omega) rfl rfl rfl rfl (by omega)
  · have hi' : i = l.length := by omega
    subst hi'
    rw [hTe]
    clear hTs
    refine call_w (specValidX_ok x (by omega)) ?_
    simp -implicitDefEqProofs (disch := omega) only [go_sem]
    have leafN : okD x = false → Less (.tup [(true, [.d (.s []), .fsl [], .fsl []]), (false, [.d (.b false)])]) (.tup [(true, [.d (.s (rdD x).fName), .d (.sl ((rdD x).fVars.map encS)), .d (.sl ((rdD x).fConstructors.map MConstructor.enc))]), (false, [.d (.b (okD x))])]) := fun e => by
      rw [rdD_no e, e]; exact tup_nilD false
    with_reducible refine split2 (fun hb => ?_) (fun hb => ?_) <;> have h := hb <;> (try simp only [wf_preprocess] at h) <;> simp -implicitDefEqProofs (disch := omega) only [go_sem, hb] <;> (repeat (with_reducible refine And.intro ?_ ?_; focus first | omega | rfl | assumption | exact ⟨_, rfl, rfl⟩ | (simp; omega) | (simp; done)))
    · exact leafN (dec_false fun e => by rw [e.1] at h; cases h)
    have hv := h
    with_reducible refine split2 (fun hb => ?_) (fun hb => ?_) <;> have h := hb <;> (try simp only [wf_preprocess] at h) <;> simp -implicitDefEqProofs (disch := omega) only [go_sem, hb] <;> (repeat (with_reducible refine And.intro ?_ ?_; focus first | omega | rfl | assumption | exact ⟨_, rfl, rfl⟩ | (simp; omega) | (simp; done)))
    · exact leafN (okD_ne (by omega))
    have hne : x.fList ≠ [] := fun e => by rw [e] at h; exact h rfl
    have hok := okD_spec hne
    rw [hv, Bool.true_and] at hok
    (repeat (with_reducible refine And.intro ?_ ?_; focus first | omega | rfl | assumption | exact ⟨_, rfl, rfl⟩ | (simp; omega) | (simp; done)))
    refine call_w (specData_ok (decD false x) (by omega)) ?_
    simp -implicitDefEqProofs (disch := omega) only [go_sem]
    refine call_w (specEqualSExpr_ok (outD (decD false x)) x (by omega)) ?_
    simp -implicitDefEqProofs (disch := omega) only [go_sem]
    with_reducible refine split2 (fun hb => ?_) (fun hb => ?_) <;> have h := hb <;> (try simp only [wf_preprocess] at h) <;> simp -implicitDefEqProofs (disch := omega) only [go_sem, hb] <;> (repeat (with_reducible refine And.intro ?_ ?_; focus first | omega | rfl | assumption | exact ⟨_, rfl, rfl⟩ | (simp; omega) | (simp; done)))
    · exact leafN (by rw [hok]; exact dec_false h)
    · have hy : okD x = true := by rw [hok]; exact dec_true h
      obtain ⟨e1, e2, e3⟩ := rdD_enc hy
      rw [e1, e2, e3, hy]
      exact less_refl _
theorem implDecData_lab (x : MSExpr) (n : Nat) (hsz : x.sz ≤ 1048576) : PCall Tryz.prog 11 [x.v] (.tup [(true, [.d (.s (rdD x).fName), .d (.ol n ((rdD x).fVars.map encS)), .d (.ol (n + 1) (lc (rdD x).fConstructors (n + 1 + 1)))]), (false, [.d (.b (okD x))])]) := PCall.of_le fun S => by
  have h1 := sz_fList x
  have hds := decD_sz true x
  obtain ⟨l, hl⟩ : ∃ l, l = x.fList.drop 3 := ⟨_, rfl⟩
  have hll : l.length ≤ 1048576 := by rw [hl, List.length_drop]; omega
  have hlm : ∀ y ∈ l, y.sz ≤ 1048576 := fun y hy => by
    have := szX_mem (List.mem_of_mem_drop (hl ▸ hy)); omega
  have leafN : okD x = false → Less (.tup [(true, [.d (.s []), .fsl [], .fsl []]), (false, [.d (.b false)])]) (.tup [(true, [.d (.s (rdD x).fName), .d (.ol n ((rdD x).fVars.map encS)), .d (.ol (n + 1) (lc (rdD x).fConstructors (n + 1 + 1)))]), (false, [.d (.b (okD x))])]) := fun e => by
    rw [rdD_no e, e]; exact tup_nilD_l n false
  refine acall_cwL (n) (rs := [.cell 2 27, .tmp 3]) Tryz.checked.mixed Tryz.func11 Tryz.ntmps11 rfl rfl rfl rfl rfl ?_
  simp -implicitDefEqProofs (disch := omega) only [go_sem]
  refine call_w (hasForm_ok x wData 3 (by omega) (by omega) (by omega)) ?_
  simp -implicitDefEqProofs (disch := omega) only [go_sem]
  with_reducible refine split2 (fun hb => ?_) (fun hb => ?_) <;> have h := hb <;> (try simp only [wf_preprocess] at h) <;> simp -implicitDefEqProofs (disch := omega) only [go_sem, hb] <;> (repeat (with_reducible refine And.intro ?_ ?_; focus first | omega | rfl | assumption | exact ⟨_, rfl, rfl⟩ | (simp; omega) | (simp; done)))
  · exact leafN (dec_false fun e => h ⟨e.1, e.2.1, e.2.2.1⟩)
  have hf := h
  have hlen : 3 ≤ x.fList.length := hf.2.1
  have hr := enc_rows (l := x.fList)
  have a1 := atA_get (l := x.fList) (i := 1) (by omega)
  have g2 : (x.fList.getD 2 zeroX) = x.fList[2] := by rw [List.getD_eq_getElem?_getD, List.getElem?_eq_getElem (by omega)]; rfl
  have z2 := getD_sz x 2 hsz
  rw [g2] at z2
  have hvars : (decD true x).fVars = namesX x.fList[2].fList := by rw [← g2]; rfl
  have hname : (decD true x).fName = x.fList[1].fAtom := a1
  have hvx := validX_sz hf.1
  have hsl := sxD_le (decD true x)
  obtain ⟨L, hL⟩ : ∃ L : Nat → Nat, L = fun i => n + 1 + 1 + cntCs ((l.map (decC true)).take i) := ⟨_, rfl⟩
  obtain ⟨T, hT⟩ : ∃ T : Nat → List (List D), T = fun i => lc ((l.map (decC true)).take i) (n + 1 + 1) := ⟨_, rfl⟩
  obtain ⟨P, hP⟩ : ∃ P : Nat → List (List D), P = fun i => ((l.take i).map (decC true)).map MConstructor.enc := ⟨_, rfl⟩
  have hT0 : T 0 = [] := by rw [hT]; rfl
  have hP0 : P 0 = [] := by rw [hP]; rfl
  have hPl : ∀ i, (P i).length ≤ i := fun i => by rw [hP]; simp only [List.length_map]; exact List.length_take_le _ _
  have hPr : ∀ i, ∀ r ∈ P i, r.length = 2 := fun i => by
    rw [hP]; intro r hr
    obtain ⟨z, _, rfl⟩ := List.mem_map.1 hr
    exact z.enc_length
  have hTs : ∀ i (hi : i < l.length), T i ++ [[.s (decC true l[i]).fName, .ol (L i) (lt (decC true l[i]).fFields (L i + 1))]] = T (i + 1) := fun i hi => by
    have := lc_snoc (l := l.map (decC true)) (i := i) (by rw [List.length_map]; exact hi) (n + 1 + 1)
    rw [List.getElem_map] at this
    rw [hT, hL]; exact this
  have hPs : ∀ i (hi : i < l.length), P i ++ [[.s (l[i].fList.getD 0 zeroX).fAtom, .sl (((l[i].fList.drop 1).map (decT true)).map MType.enc)]] = P (i + 1) := fun i hi => by rw [hP]; exact encC_snoc hi
  have hTe : T l.length = lc (decD true x).fConstructors (n + 1 + 1) := by
    rw [hT]; simp only
    rw [List.take_of_length_le (by simp), hl]; rfl
  have hPe : P l.length = (decD true x).fConstructors.map MConstructor.enc := by
    rw [hP]; simp only
    rw [List.take_length, hl]; rfl
  clear hT hP hL
  refine call_w (implNames_lab x.fList[2] (by omega) n) ?_
  simp -implicitDefEqProofs (disch := omega) only [go_sem]
  refine ⟨⟨by omega, by omega, hr⟩, ?_⟩
  rw [encX_drop _ _ _ (Nat.le_refl _), ← hl, ← hvars, ← hname]
  simp -implicitDefEqProofs (disch := omega) only [go_sem]
  refine aw_boxltok (n + 1) 3 2 2 _ rfl rfl ?_
  refine loop_at (ι := Nat × List (List D)) Tryz.checked.mixed rfl [1, 2, 4, 25, 26, 27] (fun y => [.c (.ptr (0, 1) 0), .c (.ptr (0, 2) 0), .c (.ptr (0, 3) 0), .c (.d (.sl (l.map MSExpr.enc))), .c (.d (.i .i64 l.length)), .c (.d (.i .i64 y.1))])
    (fun y => [.seed n, .box [.d (.s x.fAtom), .d (.sl (x.fList.map MSExpr.enc))], .box [.d (.s []), .fsl [], .fsl []], .box [.d (.s (decD true x).fName), .d (.ol n ((decD true x).fVars.map encS)), .tsl (0, 4) y.2], .ltok (n + 1) 2 y.2] :: S)
    (fun y => y.1 ≤ l.length ∧ RowsLe y.2 (P y.1) ∧ ((∀ j, ∀ hj : j < l.length, j < y.1 → l[j].fList ≠ []) → y.2 = T y.1)) (fun y => l.length - y.1) (0, []) rfl rfl ⟨Nat.zero_le _, by rw [hP0]; exact .nil, fun _ => hT0.symm⟩ ?_
  rintro ⟨i, U⟩ ⟨p1, p2, p3⟩
  simp only at p1 p2 p3
  have hU1 := p2.length
  have hU2 := hPl i
  have hU3 := p2.rows (hPr i)
  simp -implicitDefEqProofs (disch := omega) only [go_sem]
  with_reducible refine split2 (fun hb => ?_) (fun hb => ?_) <;> have h := hb <;> (try simp only [wf_preprocess] at h) <;> simp -implicitDefEqProofs (disch := omega) only [go_sem, hb] <;> (repeat (with_reducible refine And.intro ?_ ?_; focus first | omega | rfl | assumption | exact ⟨_, rfl, rfl⟩ | (simp; omega) | (simp; done)))
  · have hi' : i < l.length := by omega
    have hm := List.getElem_mem hi'
    have hs := hTs i hi'
    have hps := hPs i hi'
    have hz := hlm _ hm
    have hz1 := sz_fList l[i]
    have hry := enc_rows (l := l[i].fList)
    (repeat (with_reducible refine And.intro ?_ ?_; focus first | omega | rfl | assumption | exact ⟨_, rfl, rfl⟩ | (simp; omega) | (simp; done)))
    with_reducible refine split2 (fun hb => ?_) (fun hb => ?_) <;> have h := hb <;> (try simp only [wf_preprocess] at h) <;> simp -implicitDefEqProofs (disch := omega) only [go_sem, hb] <;> (repeat (with_reducible refine And.intro ?_ ?_; focus first | omega | rfl | assumption | exact ⟨_, rfl, rfl⟩ | (simp; omega) | (simp; done)))
    · have hpos : 0 < l[i].fList.length := by omega
      (repeat (with_reducible refine And.intro ?_ ?_; focus first | omega | rfl | assumption | exact ⟨_, rfl, rfl⟩ | (simp; omega) | (simp; done)))
      refine ⟨⟨by omega, by omega, hry⟩, ?_⟩
      rw [encX_drop _ _ _ (Nat.le_refl _)]
      refine call_w (implDecTys_lab (l[i].fList.drop 1) (L i) (L i + 1) (by rw [List.length_drop]; omega) (fun t ht => by have := szX_mem (List.mem_of_mem_drop ht); omega)) ?_
      simp -implicitDefEqProofs (disch := omega) only [go_sem]
      (repeat (with_reducible refine And.intro ?_ ?_; focus first | omega | rfl | assumption | exact ⟨_, rfl, rfl⟩ | (simp; omega) | (simp; done)))
      have g0 : l[i].fList.getD 0 zeroX = l[i].fList[0] := by rw [List.getD_eq_getElem?_getD, List.getElem?_eq_getElem hpos]; rfl
      rw [g0] at hps
      have hcn : (decC true l[i]).fName = l[i].fList[0].fAtom := atA_get hpos
      rw [hcn] at hs
      refine inv_drop 5 (by decide) (i + 1, _) (by simp only; omega) rfl rfl rfl rfl ⟨by simp only; omega, ?_, fun hg => ?_⟩
      · simp only
        rw [← hps]
        exact p2.snoc (.cons (.refl _) (.cons (dle_lt _ _) .nil))
      · simp only
        rw [p3 fun j hj hji => hg j hj (by simp only; omega), ← hs]
        rfl
    · have hnil : l[i].fList = [] := List.eq_nil_of_length_eq_zero (by omega)
      have g0 : l[i].fList.getD 0 zeroX = zeroX := by rw [hnil]; rfl
      rw [g0, hnil] at hps
      refine inv_drop 5 (by decide) (i + 1, _) (by simp only; omega) rfl rfl rfl rfl ⟨by simp only; omega, ?_, fun hg => ?_⟩
      · simp only
        rw [← hps]
        exact p2.snoc (.refl _)
      · exact absurd hnil (hg i hi' (by simp only; omega))
  · have hi' : i = l.length := by omega
    subst hi'
    clear hTs hPs
    rw [hPe] at p2
    refine call_l (implValidData_ok (decD true x) (by omega)) (.cons (CellsLe.less (.cons (.refl _) (.cons (cell_ol _ _) (.cons (cell_sl_le p2) .nil)))) .nil) ?_
    simp -implicitDefEqProofs (disch := omega) only [go_sem]
    with_reducible refine split2 (fun hb => ?_) (fun hb => ?_) <;> have h := hb <;> (try simp only [wf_preprocess] at h) <;> simp -implicitDefEqProofs (disch := omega) only [go_sem, hb] <;> (repeat (with_reducible refine And.intro ?_ ?_; focus first | omega | rfl | assumption | exact ⟨_, rfl, rfl⟩ | (simp; omega) | (simp; done)))
    · exact leafN (dec_false fun e => by rw [e.2.2.2.1] at h; cases h)
    have hv := h
    (repeat (with_reducible refine And.intro ?_ ?_; focus first | omega | rfl | assumption | exact ⟨_, rfl, rfl⟩ | (simp; omega) | (simp; done)))
    refine call_l (PCall.less (implEncData_lab (decD true x) 0 hv (by omega)) (less_lx (sxD (decD true x)) 0)) (.cons (CellsLe.less (.cons (.refl _) (.cons (cell_ol _ _) (.cons (cell_sl_le p2) .nil)))) .nil) ?_
    simp -implicitDefEqProofs (disch := omega) only [go_sem]
    refine call_w (implEqualSExpr_ok (sxD (decD true x)) x (by omega)) ?_
    simp -implicitDefEqProofs (disch := omega) only [go_sem]
    with_reducible refine split2 (fun hb => ?_) (fun hb => ?_) <;> have h := hb <;> (try simp only [wf_preprocess] at h) <;> simp -implicitDefEqProofs (disch := omega) only [go_sem, hb] <;> (repeat (with_reducible refine And.intro ?_ ?_; focus first | omega | rfl | assumption | exact ⟨_, rfl, rfl⟩ | (simp; omega) | (simp; done)))
    · exact leafN (dec_false fun e => h e.2.2.2.2)
    · have hy : okD x = true := dec_true ⟨hf.1, hf.2.1, hf.2.2, hv, h⟩
      have hgood : U = T l.length := p3 fun j hj _ e => by
        have h3 := congrArg (fun z => z.fList.drop 3) h
        simp only [← hl] at h3
        have h4 : (sxD (decD true x)).fList.drop 3 = (decD true x).fConstructors.map sxC := rfl
        rw [h4] at h3
        have h5 : l[j] = sxC ((decD true x).fConstructors[j]'(by have := congrArg List.length h3; rw [List.length_map] at this; omega)) := by
          simp only [← h3, List.getElem_map]
        rw [h5] at e
        simp [sxC, fList_list] at e
      rw [hgood, hTe, rdD_yes hy, hy]
      exact less_refl _
theorem implDecData_labR (x : MSExpr) (n : Nat) (hsz : x.sz ≤ 1048576) : PCall Tryz.prog 11 [x.v] (.tup [(true, (labR (rdD x).enc n).map .d), (false, [.d (.b (okD x))])]) := by
  rw [labD_eq]; exact implDecData_lab x n hsz
end Go.Proofs.YtnceiannponbjaaGreat

namespace Go.Ab
theorem outX_cases (b : Bool) (x : MSExpr) : (b = true ∧ validX x = true ∧ outX b x = x) ∨ outX b x = zeroX := by
  cases b with
  | false => exact .inr rfl
  | true =>
    cases h : validX x with
    | true => exact .inl ⟨rfl, rfl, if_pos h⟩
    | false => exact .inr (if_neg (by rw [h]; decide))
theorem outX_yes {x : MSExpr} (h : validX x = true) : outX true x = x := if_pos h
theorem listX_len (l : List MSExpr) : (listX l).fList.length = l.length := rfl
theorem zero_len : zeroX.fList.length = 0 := rfl
theorem rtD (d : MDataType) : okD (outD d) = dec (0 < (outD d).fList.length) := by
  rcases outX_cases (validData d) (sxD d) with ⟨h1, h2, h3⟩ | h
  · have e : outD d = sxD d := h3
    have hl : 3 ≤ (sxD d).fList.length := by rw [sxD, listX_len]; simp [baseD]
    rw [e, dec_true (by omega)]
    exact dec_true ⟨h2, hl, rfl, by rw [decD_sx true h1]; exact h1, by rw [decD_sx true h1]⟩
  · have e : outD d = zeroX := h
    rw [e, dec_false (by rw [zero_len]; omega)]
    exact dec_false fun q => by have := q.2.1; rw [zero_len] at this; omega
theorem rtD_back {x : MSExpr} (h : okD x = true) : outD (rdD x) = x := by
  obtain ⟨h1, h2, h3, h4, h5⟩ := of_dec h
  unfold rdD
  rw [if_pos h]
  unfold outD
  rw [h4, h5]; exact outX_yes h1
end Go.Ab

namespace Go.Proofs.YtnceiannponbjaaGreat.fnDataText
open Go Go.Ab
theorem draw1_ok {bs : List Int} (hB : Bytes bs) : PCall Tryz.prog 5 [.c (.d (.sl (bs.map encB)))] (dataX (newD bs)).1.v := fun S => by
  refine acall_cw (rs := [.cell 2 27]) Tryz.checked.mixed Tryz.func5 Tryz.ntmps5 rfl rfl rfl rfl rfl ?_
  simp -implicitDefEqProofs (disch := omega) only [go_sem]
  refine call_d rfl (l1New_ok hB _ _) ?_
  simp -implicitDefEqProofs (disch := omega) only [go_sem]
  refine call_d rfl (l13Data_ok hB (newD bs) 0 1 _ rfl) ?_
  simp -implicitDefEqProofs (disch := omega) only [go_sem]
  first | done | rfl
noncomputable def sxX (bs : List Int) : MSExpr := (turnX (outD (dataX (newD bs)).1) (dataX (newD bs)).2).1
theorem sxX_sz (bs : List Int) : (sxX bs).sz ≤ 100000 := by
  have h1 := turnX_sz (outD (dataX (newD bs)).1) (dataX (newD bs)).2
  have h2 : (outD (dataX (newD bs)).1).sz ≤ 11700 := outX_sz _ _
  unfold sxX
  omega
theorem draw2_ok {bs : List Int} (hB : Bytes bs) : PCall Tryz.prog 12 [.c (.d (.sl (bs.map encB)))] (sxX bs).v := fun S => by
  have hs := dataX_sz (newD bs)
  have ho : (outD (dataX (newD bs)).1).sz ≤ 11700 := outX_sz _ _
  obtain ⟨R, hR⟩ : ∃ R, R = sxX bs := ⟨_, rfl⟩
  rw [← hR]
  unfold sxX at hR
  obtain ⟨d, hd⟩ : ∃ d, d = (dataX (newD bs)).1 := ⟨_, rfl⟩
  obtain ⟨c1, hc1⟩ : ∃ c1, c1 = (dataX (newD bs)).2 := ⟨_, rfl⟩
  have q1 := fun (l j : Nat) (S : Store) (hk : getO S (l, j) = some (.box (cur (newD bs)))) => l13Data_ok hB (newD bs) l j S hk
  rw [← hd] at hs ho
  rw [← hd, ← hc1] at hR q1
  have q2 := specData_ok d (by omega)
  have q3 := fun (l j : Nat) (S : Store) (hk : getO S (l, j) = some (.box (cur c1))) => l14Turned_ok hB c1 l j S (outD d) hk (by omega)
  rw [← hR] at q3
  refine acall_cw (rs := [.cell 2 31]) Tryz.checked.mixed Tryz.func12 Tryz.ntmps12 rfl rfl rfl rfl rfl ?_
  simp -implicitDefEqProofs (disch := omega) only [go_sem]
  refine call_d rfl (l1New_ok hB _ _) ?_
  simp -implicitDefEqProofs (disch := omega) only [go_sem]
  refine call_d rfl (q1 0 1 _ rfl) ?_
  simp -implicitDefEqProofs (disch := omega) only [go_sem]
  refine call_w q2 ?_
  simp -implicitDefEqProofs (disch := omega) only [go_sem]
  refine call_d rfl (q3 0 1 _ rfl) ?_
  simp -implicitDefEqProofs (disch := omega) only [go_sem]
  first | done | rfl
set_option maxHeartbeats 4000000 in
theorem law (x0 : List Int) (b0 : ∀ x ∈ x0, 0 ≤ x ∧ x ≤ 255) : ACall Tryz.prog 3 [.c (.d (.sl (x0.map encB)))] [] (fun r _ => r = .c (.d (.b true))) := by
  refine acall_cw (rs := [.tmp 2]) Tryz.checked.mixed Tryz.func3 Tryz.ntmps3 rfl rfl rfl rfl rfl ?_
  simp -implicitDefEqProofs (disch := omega) only [go_sem]
  refine call_w (big_ok x0) ?_
  simp -implicitDefEqProofs (disch := omega) only [go_sem]
  with_reducible refine split2 (fun hb => ?_) (fun hb => ?_) <;> have h := hb <;> (try simp only [wf_preprocess] at h) <;> simp -implicitDefEqProofs (disch := omega) only [go_sem, hb] <;> (repeat (with_reducible refine And.intro ?_ ?_; focus first | omega | rfl | assumption | exact ⟨_, rfl, rfl⟩ | (simp; omega) | (simp; done)))
  have hBs : Bytes x0 := ⟨by omega, b0⟩
  have p1 := draw1_ok hBs
  have p2 := draw2_ok hBs
  have hds := dataX_sz (newD x0)
  have hys := sxX_sz x0
  obtain ⟨d, hd⟩ : ∃ d, d = (dataX (newD x0)).1 := ⟨_, rfl⟩
  obtain ⟨y, hy⟩ : ∃ y, y = sxX x0 := ⟨_, rfl⟩
  rw [← hd] at p1 hds
  rw [← hy] at p2 hys
  have ho : (outD d).sz ≤ 11700 := outX_sz _ _
  have hrt := rtD d
  have e1 := specData_ok d (by omega)
  have e2 : PCall Tryz.prog 6 [d.v] (outD d).v := by
    have h : PCall Tryz.prog 6 [d.v] (.agg ((labR (outD d).enc 0).map .d)) := by rw [labX_eq]; exact implData_lab d 0 (by omega)
    have := PCall.less h less_lab
    rw [MSExpr.v_eq] at this
    exact this
  obtain ⟨X, hX⟩ : ∃ X, X = outD d := ⟨_, rfl⟩
  rw [← hX] at e1 e2 ho hrt
  have d1 : PCall Tryz.prog 11 [X.v] (.tup [(true, (rdD X).enc.map .d), (false, [.d (.b (okD X))])]) :=
    PCall.less (implDecData_labR X 0 (by omega)) (tup1_less fun w σ S β vs h => repcs_lab h)
  have d2 : PCall Tryz.prog 11 [y.v] (.tup [(true, (rdD y).enc.map .d), (false, [.d (.b (okD y))])]) :=
    PCall.less (implDecData_labR y 0 (by omega)) (tup1_less fun w σ S β vs h => repcs_lab h)
  have d3 := specDecData_ok y (by omega)
  have hu : (rdD X).sz ≤ 1048576 := rdD_sz (by omega)
  have hv : (rdD y).sz ≤ 1048576 := rdD_sz (by omega)
  have f1 := specData_ok (rdD X) hu
  have f2 : PCall Tryz.prog 6 [(rdD y).v] (outD (rdD y)).v := by
    have h : PCall Tryz.prog 6 [(rdD y).v] (.agg ((labR (outD (rdD y)).enc 0).map .d)) := by rw [labX_eq]; exact implData_lab (rdD y) 0 (by omega)
    have := PCall.less h less_lab
    rw [MSExpr.v_eq] at this
    exact this
  have g1 : (outD (rdD X)).sz ≤ 11700 := outX_sz _ _
  have g2 : (outD (rdD y)).sz ≤ 11700 := outX_sz _ _
  have bX : okD X = true → outD (rdD X) = X := fun h => rtD_back h
  have bY : okD y = true → outD (rdD y) = y := fun h => rtD_back h
  obtain ⟨u, hu0⟩ : ∃ u, u = rdD X := ⟨_, rfl⟩
  obtain ⟨v, hv0⟩ : ∃ v, v = rdD y := ⟨_, rfl⟩
  obtain ⟨B, hB0⟩ : ∃ B, B = okD X := ⟨_, rfl⟩
  obtain ⟨C, hC0⟩ : ∃ C, C = okD y := ⟨_, rfl⟩
  obtain ⟨U, hU0⟩ : ∃ U, U = outD u := ⟨_, rfl⟩
  obtain ⟨V0, hV0⟩ : ∃ V0, V0 = outD v := ⟨_, rfl⟩
  rw [← hu0, ← hB0] at d1
  rw [← hv0, ← hC0] at d2 d3
  rw [← hu0] at f1 g1 hu
  rw [← hv0] at f2 g2 hv
  rw [← hB0, ← hu0, ← hU0] at bX
  rw [← hC0, ← hv0, ← hV0] at bY
  rw [← hU0] at f1 g1
  rw [← hV0] at f2 g2
  rw [← hB0] at hrt
  simp only [MDataType.enc_eq, MType.enc_eq, MExpr.enc_eq, List.cons_append, List.nil_append, List.map_cons, List.map_nil] at d1 d2 d3
  clear hu0 hv0 hB0 hC0 hU0 hV0 hX hd hy
  refine call_w p1 ?_
  simp -implicitDefEqProofs (disch := omega) only [go_sem]
  refine call_w e2 ?_
  simp -implicitDefEqProofs (disch := omega) only [go_sem]
  refine call_w e1 ?_
  simp -implicitDefEqProofs (disch := omega) only [go_sem]
  refine call_w (specEqualSExpr_ok X X (by omega)) ?_
  simp -implicitDefEqProofs (disch := omega) only [go_sem, dec_true rfl, Bool.not_true]
  refine call_w (implValidData_ok d (by omega)) ?_
  simp -implicitDefEqProofs (disch := omega) only [go_sem, dec_true rfl, Bool.not_true]
  refine call_w (specValidData_ok d (by omega)) ?_
  simp -implicitDefEqProofs (disch := omega) only [go_sem, dec_true rfl, Bool.not_true]
  refine call_w d1 ?_
  simp -implicitDefEqProofs (disch := omega) only [go_sem]
  refine call_w p2 ?_
  simp -implicitDefEqProofs (disch := omega) only [go_sem]
  refine call_w d2 ?_
  simp -implicitDefEqProofs (disch := omega) only [go_sem]
  refine call_w d3 ?_
  have hdl : (decide (0 < (X.fList.length : Int))) = B := by
    rw [hrt]
    by_cases hl : 0 < X.fList.length
    · rw [dec_true hl]; exact decide_eq_true (by omega)
    · rw [dec_false hl]; exact decide_eq_false (by omega)
  cases B with
  | true =>
    have hUX := bX rfl
    subst hUX
    simp -implicitDefEqProofs (disch := omega) only [go_sem, hdl]
    refine call_w f1 ?_
    simp -implicitDefEqProofs (disch := omega) only [go_sem, hdl]
    refine call_w (specEqualSExpr_ok U U (by omega)) ?_
    cases C with
    | true =>
      have hVy := bY rfl
      subst hVy
      simp -implicitDefEqProofs (disch := omega) only [go_sem, dec_true rfl, hdl]
      refine call_w f2 ?_
      simp -implicitDefEqProofs (disch := omega) only [go_sem, dec_true rfl, hdl]
      refine call_w (specEqualSExpr_ok V0 V0 (by omega)) ?_
      simp -implicitDefEqProofs (disch := omega) only [go_sem, dec_true rfl, hdl]
      first | done | rfl
    | false =>
      simp -implicitDefEqProofs (disch := omega) only [go_sem, dec_true rfl, hdl]
      first | done | rfl
  | false =>
    cases C with
    | true =>
      have hVy := bY rfl
      subst hVy
      simp -implicitDefEqProofs (disch := omega) only [go_sem, hdl]
      refine call_w f2 ?_
      simp -implicitDefEqProofs (disch := omega) only [go_sem, hdl]
      refine call_w (specEqualSExpr_ok V0 V0 (by omega)) ?_
      simp -implicitDefEqProofs (disch := omega) only [go_sem, dec_true rfl, hdl]
      first | done | rfl
    | false =>
      simp -implicitDefEqProofs (disch := omega) only [go_sem, hdl]
      first | done | rfl
end Go.Proofs.YtnceiannponbjaaGreat.fnDataText

namespace Go.Ab
theorem wt_pos {P : Program} {n : Nat} {t : TypeId} {ds : List D} (h : WT P n t ds) : ∃ m, n = m + 1 := by
  cases n with
  | zero => exact h.elim
  | succ m => exact ⟨m, rfl⟩
theorem wt_int {P : Program} {n : Nat} {t : TypeId} {k : IntKind} {ds : List D} (ht : P.underlying t = some (.int k)) (h : WT P n t ds) : ∃ x, ds = [.i k x] ∧ (Lit.int k x).wf = true := by
  obtain ⟨m, rfl⟩ := wt_pos h
  simp only [WT, ht] at h; exact h
theorem wt_slice {P : Program} {n : Nat} {t e : TypeId} {ds : List D} (ht : P.underlying t = some (.slice e)) (h : WT P n t ds) : ∃ es m, m < n ∧ ds = [.sl es] ∧ ∀ x ∈ es, WT P m e x := by
  obtain ⟨m, rfl⟩ := wt_pos h
  simp only [WT, ht] at h
  obtain ⟨es, h1, _, h2⟩ := h
  exact ⟨es, m, by omega, h1, fun x hx => (h2 x hx).2⟩
theorem wtf_fit {P : Program} {W : TypeId → List D → Prop} (hW : ∀ t ds, W t ds → FitL ds) : ∀ (fs : List Field) (ds : List D), WTF P W fs ds → FitL ds
  | [], ds, h => by
    have h : ds = [] := h
    rw [h]; exact fitL_nil
  | f :: fs, ds, h => by
    obtain ⟨a, b, rfl, _, h1, h2⟩ := h
    exact fitL_append.2 ⟨hW _ _ h1, wtf_fit hW fs b h2⟩
theorem wt_fit {P : Program} : ∀ (n : Nat) (t : TypeId) (ds : List D), WT P n t ds → FitL ds
  | 0, t, ds, h => h.elim
  | n + 1, t, ds, h => by
    simp only [WT] at h
    split at h
    · obtain ⟨b, rfl⟩ := h; exact fitL_cons.2 ⟨.b _, fitL_nil⟩
    · obtain ⟨b, rfl, _⟩ := h; exact fitL_cons.2 ⟨.i _ _, fitL_nil⟩
    · obtain ⟨l, rfl, hl⟩ := h; exact fitL_cons.2 ⟨.s _ hl, fitL_nil⟩
    · obtain ⟨es, rfl, hl, hh⟩ := h
      exact fitL_cons.2 ⟨.sl _ hl fun e he d hd => wt_fit n _ e (hh e he).2 d hd, fitL_nil⟩
    · exact wtf_fit (wt_fit n) _ _ h
    · exact h.elim
end Go.Ab
namespace Go.Proofs.YtnceiannponbjaaGreat
open Go Go.Ab
end Go.Proofs.YtnceiannponbjaaGreat

