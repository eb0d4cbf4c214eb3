/-
  ABSTRACT VALUES FOR A WALK, PART 17: the drawn region, whole.
-/
import Derived.Test.YtjfhgcnoielpfaaAbP
set_option linter.unusedSimpArgs false
set_option linter.unusedVariables false
namespace Go.Ab

def edgeMask (acc : List Nat) : List Edge → Nat
  | [] => 0
  | e :: es => (if Region.binds .any e then 2 ^ e.on ||| acc.getD e.on 0 else 0) ||| edgeMask acc es

def masks : List Oper → List Nat → List Nat
  | [], acc => acc
  | o :: os, acc => masks os (acc ++ [edgeMask acc o.after.toList])

def clash (E : Bool) (R : Array Oper) (x y : Oper) : Bool := !(x.apart R y) || (isDx E x.op && isDx E y.op) || isSx E x.op || isSx E y.op

/-- The order that is drawn makes no difference. -/
def drawOk (E : Bool) (R : Array Oper) (N : Nat) : Bool :=
  (List.range R.size).all fun j =>
    (match R[j]? with
     | some o => o.after.toList.all (fun e => !Region.binds .any e || decide (e.on < j)) && (match o.dst with | some d => decide (d < N) | none => true)
     | none => true) &&
    (List.range j).all fun i =>
      match R[i]?, R[j]? with
      | some x, some y => ((masks R.toList []).getD j 0).testBit i || !(clash E R x y)
      | _, _ => true

section
variable {P : Program} {E : Bool} {w w' : World} {σ σ' : Nat → Nat} {S S' : Store} {β β' : Hs} {N : Nat} {s : St} {a : Act} {R : Array Oper}

theorem masks_len : ∀ (l : List Oper) (acc : List Nat), (masks l acc).length = acc.length + l.length
  | [], acc => by simp [masks]
  | o :: os, acc => by rw [masks, masks_len os]; simp; omega

theorem masks_old : ∀ (l : List Oper) (acc : List Nat) (i : Nat), i < acc.length → (masks l acc)[i]? = acc[i]?
  | [], acc, i, h => rfl
  | o :: os, acc, i, h => by rw [masks, masks_old os _ i (by simp; omega), List.getElem?_append_left h]

theorem masks_at : ∀ (l : List Oper) (acc : List Nat) (i : Nat) (o : Oper), l[i]? = some o →
    ∃ acc', (∀ j, j < acc.length + i → acc'[j]? = (masks l acc)[j]?) ∧ acc'.length = acc.length + i ∧ (masks l acc)[acc.length + i]? = some (edgeMask acc' o.after.toList)
  | [], acc, i, o, h => by simp at h
  | x :: os, acc, 0, o, h => by
    simp at h; subst h
    refine ⟨acc, fun j hj => ?_, by simp, ?_⟩
    · rw [masks, masks_old os _ j (by simp; omega), List.getElem?_append_left (by omega)]
    · rw [masks, Nat.add_zero, masks_old os _ _ (by simp), List.getElem?_append_right (Nat.le_refl _)]; simp
  | x :: os, acc, i + 1, o, h => by
    obtain ⟨acc', h1, h2, h3⟩ := masks_at os (acc ++ [edgeMask acc x.after.toList]) i o (by simpa using h)
    refine ⟨acc', fun j hj => ?_, by rw [h2]; simp; omega, ?_⟩
    · rw [masks]; exact h1 j (by simp; omega)
    · rw [masks, ← h3]; congr 1; simp; omega

theorem edgeMask_bit {acc : List Nat} {k : Nat} : ∀ (es : List Edge), (edgeMask acc es).testBit k = true → ∃ e ∈ es, Region.binds .any e = true ∧ (e.on = k ∨ (acc.getD e.on 0).testBit k = true)
  | [], h => by simp [edgeMask] at h
  | e :: es, h => by
    rw [edgeMask, Nat.testBit_or, Bool.or_eq_true] at h
    rcases h with h | h
    · by_cases hb : Region.binds .any e = true
      · rw [if_pos hb, Nat.testBit_or, Bool.or_eq_true] at h
        refine ⟨e, by simp, hb, ?_⟩
        rcases h with h | h
        · left
          rw [Nat.testBit_two_pow] at h
          simpa using h
        · exact .inr h
      · rw [if_neg hb] at h; simp at h
    · obtain ⟨e', he', h'⟩ := edgeMask_bit es h
      exact ⟨e', by simp [he'], h'⟩

/-- What stands before an operation by the edges has been done, when its own edges' ends have. -/
theorem mask_done (E : Nat → Prop) (hE : ∀ i o e, R[i]? = some o → E i → e ∈ o.after → Region.binds .any e = true → E e.on) (hlt : ∀ i o e, R[i]? = some o → e ∈ o.after → Region.binds .any e = true → e.on < i) :
    ∀ (i : Nat) (o : Oper), R[i]? = some o → (∀ e ∈ o.after, Region.binds .any e = true → E e.on) → ∀ k, ((masks R.toList []).getD i 0).testBit k = true → E k := by
  intro i
  induction i using Nat.strongRecOn with
  | _ i ih =>
    intro o ho hed k hk
    obtain ⟨acc', h1, h2, h3⟩ := masks_at R.toList [] i o (by simpa using ho)
    simp only [List.length_nil, Nat.zero_add] at h1 h2 h3
    rw [List.getD_eq_getElem?_getD, h3] at hk
    obtain ⟨e, he, hb, hek⟩ := edgeMask_bit _ hk
    have he' : e ∈ o.after := by simpa using he
    rcases hek with rfl | hek
    · exact hed e he' hb
    · have hon := hlt i o e ho he' hb
      have hEon := hed e he' hb
      have hilt : i < R.size := (Array.getElem?_eq_some_iff.1 ho).1
      have hsome : R[e.on]? = some R[e.on] := Array.getElem?_eq_getElem (by omega)
      refine ih e.on hon _ hsome (fun e2 he2 hb2 => hE e.on _ e2 hsome hEon he2 hb2) k ?_
      rw [List.getD_eq_getElem?_getD, h1 e.on (by omega)] at hek
      rw [List.getD_eq_getElem?_getD]; exact hek

def lookE (R : Array Oper) (vs : Nat → V) (E : Nat → Bool) (base : List (Nat × V)) : Nat → Nat → V
  | 0, t => look base t
  | k + 1, t => if E k = true ∧ dstOf R k = some t then vs k else lookE R vs E base k t

theorem lookE_agree {vs : Nat → V} {E : Nat → Bool} {base : List (Nat × V)} {t i : Nat} : ∀ (n : Nat), (∀ j, j < n → dstOf R j = some t → (E j = true ↔ j < i)) →
    lookE R vs E base n t = lookE R vs (fun _ => true) base (min n i) t
  | 0, _ => by simp [lookE]
  | n + 1, h => by
    have ih := lookE_agree (vs := vs) (base := base) n (fun j hj hd => h j (by omega) hd)
    rw [lookE]
    by_cases hd : dstOf R n = some t
    · by_cases hE : E n = true
      · have hni := (h n (by omega) hd).1 hE
        rw [if_pos ⟨hE, hd⟩, show min (n + 1) i = n + 1 from by omega, lookE, if_pos ⟨rfl, hd⟩]
      · have hni : ¬ n < i := fun hn => hE ((h n (by omega) hd).2 hn)
        rw [if_neg (fun x => hE x.1), ih, show min (n + 1) i = min n i from by omega]
    · rw [if_neg (fun x => hd x.2), ih]
      by_cases hni : n < i
      · rw [show min (n + 1) i = n + 1 from by omega, show min n i = n from by omega, lookE, if_neg (fun x => hd x.2)]
      · rw [show min (n + 1) i = min n i from by omega]

theorem lookE_congr {vs : Nat → V} {E E' : Nat → Bool} {base : List (Nat × V)} {t : Nat} : ∀ (n : Nat), (∀ j, j < n → dstOf R j = some t → E j = E' j) → lookE R vs E base n t = lookE R vs E' base n t
  | 0, _ => rfl
  | n + 1, h => by
    rw [lookE, lookE, lookE_congr n (fun j hj hd => h j (by omega) hd)]
    by_cases hd : dstOf R n = some t
    · rw [h n (by omega) hd]
    · rw [if_neg (fun x => hd x.2), if_neg (fun x => hd x.2)]

theorem lookE_last {vs : Nat → V} {E : Nat → Bool} {base : List (Nat × V)} {t i : Nat} (hi : E i = true) (hd : dstOf R i = some t) : ∀ (n : Nat), i < n → (∀ j, j < n → i < j → dstOf R j = some t → E j = false) → lookE R vs E base n t = vs i
  | 0, h, _ => by omega
  | n + 1, h, hj => by
    rw [lookE]
    by_cases hin : i = n
    · subst hin; rw [if_pos ⟨hi, hd⟩]
    · have : ¬ (E n = true ∧ dstOf R n = some t) := fun x => by
        have := hj n (by omega) (by omega) x.2
        rw [this] at x; simp at x
      rw [if_neg this]
      exact lookE_last hi hd n (by omega) (fun j hjn hij hdj => hj j (by omega) hij hdj)

/-- From the text's order: the states and the values. -/
theorem dops_run {K : St → Prop} : ∀ (n k : Nat), k + n = R.size → ∀ s, dops P E R (R.toList.drop k) s K →
    ∃ (st : Nat → St) (vs : Nat → V), st k = s ∧ K (st R.size) ∧ ∀ i, k ≤ i → i < R.size → ∃ o, R[i]? = some o ∧ TStep P E R o (st i) (vs i) (st (i + 1))
  | 0, k, hk, s, h => by
    have : R.toList.drop k = [] := by apply List.drop_eq_nil_of_le; simp; omega
    rw [this] at h
    exact ⟨fun _ => s, fun _ => .any, rfl, h, fun i h1 h2 => by omega⟩
  | n + 1, k, hk, s, h => by
    have hlt : k < R.toList.length := by simp; omega
    rw [List.drop_eq_getElem_cons hlt] at h
    have hRk : R[k]? = some R.toList[k] := by
      rw [Array.getElem?_eq_getElem (by omega)]; simp
    have key : ∃ v s', TStep P E R R.toList[k] s v s' ∧ dops P E R (R.toList.drop (k + 1)) s' K := by
      have hN : ∀ (hg : gd R R.toList[k] s.tm = some true), dexecW P E R.toList[k] s (fun s' => dops P E R (R.toList.drop (k + 1)) s' K) → ∃ v s', TStep P E R R.toList[k] s v s' ∧ dops P E R (R.toList.drop (k + 1)) s' K := by
        intro hg hx
        unfold dexecW at hx
        by_cases hD : isD R.toList[k].op = true
        · rw [if_pos hD] at hx
          obtain ⟨S', v, h1, h2⟩ := execD_ex hD hx
          exact ⟨v, _, .inr (.inr ⟨hg, isD_isDx hD, h1, by rw [put_st]⟩), h2⟩
        · rw [if_neg hD] at hx
          have hD' : isD R.toList[k].op = false := by simpa using hD
          split at hx
          · rename_i x args aty hop
            cases hE : E with
            | true =>
              rw [hE] at hx
              obtain ⟨S', v, h1, h2⟩ := hx
              exact ⟨v, _, .inr (.inr ⟨hg, by unfold isDx; rw [hop]; rfl, h1, by rw [put_st]⟩), h2⟩
            | false =>
              rw [hE] at hx
              obtain ⟨r, h1, h2⟩ := hx
              exact ⟨r, _, .inr (.inl ⟨hg, by unfold isDx; rw [hD']; rfl, .inl ⟨_, hop, h1⟩, rfl⟩), h2⟩
          · rename_i hne
            refine ⟨_, _, .inr (.inl ⟨hg, ?_, .inr ⟨hx.1, rfl⟩, rfl⟩), hx.2⟩
            have : isCallV R.toList[k].op = false := by
              cases hc : isCallV R.toList[k].op with
              | false => rfl
              | true =>
                exfalso
                unfold isCallV at hc
                split at hc
                · rename_i x a b ho; exact hne _ _ _ ho
                · cases hc
            unfold isDx; rw [hD', this]; simp
      change dguardW P E R R.toList[k] s (fun s' => dops P E R (R.toList.drop (k + 1)) s' K) at h
      unfold dguardW at h
      split at h
      · rename_i hg; exact hN (by simp only [gd, hg]) h
      · rename_i j want hg
        split at h
        · rename_i x hx
          by_cases e : x = want
          · exact hN (by simp only [gd, hg, hx, e, beq_self_eq_true]) (h.1 e)
          · exact ⟨.tup [], _, .inl ⟨by simp only [gd, hg, hx]; simp [e], rfl, rfl⟩, h.2 (by cases x <;> cases want <;> simp_all)⟩
        · rename_i hx
          exact ⟨.tup [], _, .inl ⟨by simp only [gd, hg, hx], rfl, rfl⟩, h⟩
        · exact h.elim
    obtain ⟨v, s', ht, hd⟩ := key
    obtain ⟨st, vs, h1, h2, h3⟩ := dops_run n (k + 1) (by omega) s' hd
    refine ⟨fun i => if i = k then s else st i, fun i => if i = k then v else vs i, by simp, ?_, fun i hi1 hi2 => ?_⟩
    · have : R.size ≠ k := by omega
      simp only [if_neg this]; exact h2
    · by_cases e : i = k
      · subst e
        refine ⟨_, hRk, ?_⟩
        simp only [if_true]
        have : i + 1 ≠ i := by omega
        simp only [if_neg this, h1]
        exact ht
      · obtain ⟨o, ho, ht'⟩ := h3 i (by omega) hi2
        refine ⟨o, ho, ?_⟩
        have : i + 1 ≠ k := by omega
        simp only [if_neg e, if_neg this]
        exact ht'

theorem tstep_tm {o : Oper} {s s' : St} {v : V} (h : TStep P E R o s v s') : s' = St.put ⟨s.tm, s'.st⟩ o.dst v := by
  rcases h with ⟨_, _, h⟩ | ⟨_, _, _, h⟩ | ⟨_, _, _, h⟩
  · rw [h]; cases o.dst <;> rfl
  · rw [h]; cases o.dst <;> rfl
  · exact h

theorem tstep_st {o : Oper} {s s' : St} {v : V} (h : TStep P E R o s v s') (hD : isDx E o.op = false) : s'.st = s.st := by
  rcases h with ⟨_, _, h⟩ | ⟨_, _, _, h⟩ | ⟨_, h, _, _⟩
  · rw [h]; cases o.dst <;> rfl
  · rw [h]; cases o.dst <;> rfl
  · rw [hD] at h; cases h

theorem text_look {st : Nat → St} {vs : Nat → V} (h : ∀ i, i < R.size → ∃ o, R[i]? = some o ∧ TStep P E R o (st i) (vs i) (st (i + 1))) (t : Nat) : ∀ i, i ≤ R.size → look (st i).tm t = lookE R vs (fun _ => true) (st 0).tm i t
  | 0, _ => rfl
  | i + 1, hi => by
    obtain ⟨o, ho, ht⟩ := h i (by omega)
    have e := tstep_tm ht
    have ih := text_look h t i (by omega)
    rw [lookE, ← ih]
    have hdst : dstOf R i = o.dst := by simp [dstOf, ho]
    rw [hdst, e]
    cases hd : o.dst with
    | none => simp [St.put]
    | some d =>
      simp only [St.put, look, true_and, Option.some.injEq]

/-- Old objects stay, but for tokens. -/
def DS (S S' : Store) : Prop := ∀ k o, getO S k = some o → getO S' k = some o ∨ ((∃ z es, o = .tok z es) ∧ ∃ z es, getO S' k = some (.tok z es))

theorem DS.refl (S : Store) : DS S S := fun _ _ h => .inl h

theorem DS.trans {S1 S2 S3 : Store} (h : DS S1 S2) (k : DS S2 S3) : DS S1 S3 := by
  intro x o hx
  rcases h x o hx with h1 | ⟨h1, z, es, h2⟩
  · exact k x o h1
  · rcases k x _ h2 with h3 | ⟨_, h3⟩
    · exact .inr ⟨h1, z, es, h3⟩
    · exact .inr ⟨h1, h3⟩

theorem DS.push {own : List Obj} {Ω : Store} {o : Obj} : DS (own :: Ω) ((own ++ [o]) :: Ω) := fun k o' h => .inl (getO_push _ _ _ _ _ h)

theorem newObj_ds {dst : Option Nat} {o : Obj} {mk : Key → V} {s' : St} (h : newObj s dst o mk (fun t => t = s')) : DS s.st s'.st := by
  unfold newObj at h
  split at h
  · rename_i own Ω hst
    rw [← h, put_st, hst]
    exact DS.push
  · exact h.elim

theorem exec_ds0 {o : Oper} {s s' : St} (hD : isD o.op = true) (hs : isStore o.op = false) (h : execW P o s (fun t => t = s')) : DS s.st s'.st := by
  obtain ⟨dst, op, ty, pos, after, guard⟩ := o
  cases op with
  | alloc t =>
    simp only [execW, allocW] at h
    split at h
    · exact newObj_ds h
    · exact h.elim
  | box t x =>
    simp only [execW, boxW] at h
    split at h
    · exact newObj_ds h
    · exact h.elim
  | makeSlice t l c =>
    simp only [execW, makeW] at h
    split at h
    · split at h
      · exact newObj_ds h.2.2.2.2.2
      · exact h.elim
    · exact h.elim
  | store t x y => simp [isStore] at hs
  | mapUpdate t x y z => simp [isStore] at hs
  | makeMap t r =>
    cases r with
    | none =>
      simp only [execW, mapNewW] at h
      exact newObj_ds h
    | some r => simp [isD] at hD
  | call c =>
    obtain ⟨cal, args, aty⟩ := c
    cases cal with
    | builtin b =>
      cases b with
      | append =>
        simp only [execW, callW] at h
        split at h
        · simp only [appendW] at h
          split at h
          · obtain ⟨h1, h2, h3, h4⟩ := h
            split at h4
            · rename_i k es hex
              split at h4
              · rename_i z es' hk
                obtain ⟨k1, k2, k3, k4⟩ := h4
                rw [← k4, put_st]
                intro k' o' ho'
                by_cases e : k' = k
                · subst e
                  rw [hk] at ho'; cases ho'
                  exact .inr ⟨⟨_, _, rfl⟩, _, _, getO_setO_eq _ _ _ _ hk⟩
                · exact .inl ((getO_setO_ne _ _ _ _ (Ne.symm e)).trans ho')
              · exact h4.elim
            · exact newObj_ds h4.2.2
            · exact h4.elim
          · exact h.elim
        · exact h.elim
      | _ => simp [isD] at hD
    | _ => simp [isD] at hD
  | _ => simp [isD] at hD

theorem exec_ds {o : Oper} {s s' : St} (hD : isDx E o.op = true) (hs : isSx E o.op = false) (h : execW P o s (fun t => t = s')) : DS s.st s'.st :=
  exec_ds0 (isDx_not hD hs) (by unfold isSx at hs; rw [Bool.or_eq_false_iff] at hs; exact hs.1) h

theorem tstep_ds {o : Oper} {s s' : St} {v : V} (h : TStep P E R o s v s') (hs : isSx E o.op = false) : DS s.st s'.st := by
  rcases h with ⟨_, _, h⟩ | ⟨_, _, _, h⟩ | ⟨_, hD, h, _⟩
  · rw [h]; cases o.dst <;> exact DS.refl _
  · rw [h]; cases o.dst <;> exact DS.refl _
  · exact exec_ds hD hs h

theorem st_same {st : Nat → St} {vs : Nat → V} (h : ∀ i, i < R.size → ∃ o, R[i]? = some o ∧ TStep P E R o (st i) (vs i) (st (i + 1))) {i : Nat} : ∀ (m : Nat), i + m ≤ R.size → (∀ j o, i ≤ j → j < i + m → R[j]? = some o → isDx E o.op = false) → (st (i + m)).st = (st i).st
  | 0, _, _ => rfl
  | m + 1, hm, hj => by
    obtain ⟨o, ho, ht⟩ := h (i + m) (by omega)
    rw [show i + (m + 1) = i + m + 1 from rfl, tstep_st ht (hj _ o (by omega) (by omega) ho)]
    exact st_same h m (by omega) (fun j o h1 h2 h3 => hj j o h1 (by omega) h3)

theorem st_ds {st : Nat → St} {vs : Nat → V} (h : ∀ i, i < R.size → ∃ o, R[i]? = some o ∧ TStep P E R o (st i) (vs i) (st (i + 1))) {i : Nat} : ∀ (m : Nat), i + m ≤ R.size → (∀ j o, i ≤ j → j < i + m → R[j]? = some o → isSx E o.op = false) → DS (st i).st (st (i + m)).st
  | 0, _, _ => DS.refl _
  | m + 1, hm, hj => by
    obtain ⟨o, ho, ht⟩ := h (i + m) (by omega)
    exact (st_ds h m (by omega) (fun j o h1 h2 h3 => hj j o h1 (by omega) h3)).trans (tstep_ds ht (hj _ o (by omega) (by omega) ho))

theorem cnt_lt (p q : Nat → Bool) : ∀ (l : List Nat) (i : Nat), (∀ x, q x = true → p x = true) → i ∈ l → p i = true → q i = false → l.countP q < l.countP p
  | [], _, _, h, _, _ => by simp at h
  | x :: l, i, h, hi, hp, hq => by
    rw [List.countP_cons, List.countP_cons]
    have hle : l.countP q ≤ l.countP p := List.countP_mono_left (fun y _ hy => h y hy)
    rcases List.mem_cons.1 hi with rfl | hi
    · rw [hp, hq]; simp; omega
    · have ih := cnt_lt p q l i h hi hp hq
      by_cases hx : q x = true
      · rw [hx, h x hx]; simp; exact ih
      · have : q x = false := by simpa using hx
        rw [this]; simp
        split <;> omega

end
end Go.Ab
