/-
  SEVERAL TEXTS IN ONE (merged by program): contracts and models, each with its own heading.
-/
import Derived.Test.YtnmjbebcebbmfaaGreatDoorPartDnbB
set_option linter.unusedSimpArgs false
set_option linter.unusedVariables false
namespace Go.Ab
def sJ(P:Program)(o:Oper)(ρ:Operand->Value)(w:World)(v:Value)(w':World):Prop:=(execOp ρ o).run P w=.ok (.value v) w'\/((execOp ρ o).run P w=.ok .skip w'/\v=undef)
theorem sJ.wp{P:Program}{o:Oper}{a:Act}{w w':World}{v:Value}{K:Act->World->Prop}{Q:Exit->Act->World->Prop}(h:sJ P o a.eval w v w')(hK:K (a.put o.dst v) w'):o.wp P a w K Q:=by
 unfold Oper.wp;rcases h with h|⟨h,rfl⟩
 ·rw[h];exact hK
 ·rw[h];exact hK
def xY(fQ:List Nat)(i m:Nat):Nat:=if fQ.contains i then m ||| 2^fQ.idxOf i else m
def dB(P:Program)(fQ:List Nat)(W:Nat->World)(K:Act->Prop):List Oper->List (List Nat)->Nat->Act->Prop
 |[],_,_,a=>K a
 |o::l,rs,i,a=>∃v,(∀m∈rs.headD [],sJ P o a.eval (W m) v (W (xY fQ i m)))/\dB P fQ W K l rs.tail (i+1) (a.put o.dst v)
theorem acZ{P:Program}{fQ:List Nat}{W:Nat->World}{K:Act->Prop}:∀(l:List Oper)(rs:List (List Nat))(i:Nat)(a:Act),dB P fQ W K l rs i a->
 ∃(vs:Nat->Value) (A:Nat->Act),A 0=a/\(∀j o,l[j]? =some o->A (j+1)=(A j).put o.dst (vs j)/\∀m∈rs.getD j [],sJ P o (A j).eval (W m) (vs j) (W (xY fQ (i+j) m)))/\K (A l.length)
 |[],rs,i,a,h=>⟨fun _=>undef,fun _=>a,rfl,fun j o hj=>by simp at hj,h⟩
 |o::l,rs,i,a,h=>by
  obtain⟨v,h1,h2⟩:=h;obtain⟨vs,A,k0,k1,k2⟩:=acZ l rs.tail (i+1) _ h2;refine⟨fun j=>match j with|0=>v|j+1=>vs j,fun j=>match j with|0=>a|j+1=>A j,rfl,fun j o' hj=> ?_,k2⟩
  cases j with
  |zero=>
   simp only[fo,cC] at hj;subst hj;refine⟨k0,fun m hm=>h1 m ?_⟩
   cases rs with
   |nil=>simp at hm
   |cons r rs=>simpa using hm
  |succ j=>
   simp only[fa] at hj;obtain⟨q1,q2⟩:=k1 j o' hj;refine⟨q1,fun m hm=> ?_⟩
   have:=q2 m (by cases rs with
    |nil=>simp at hm
    |cons r rs=>simpa using hm)
   rw[show i+(j+1)=i+1+j by omega];exact this
def afx(R:Array Oper)(fQ:List Nat)(i m:Nat):Bool:=
 (List.range fQ.length).all fun k=>if m.testBit k then !((masks R.toList []).getD (fQ.getD k 0) 0).testBit i&&fQ.getD k 0 !=i&&(List.range fQ.length).all (fun k'=> !((masks R.toList []).getD (fQ.getD k 0) 0).testBit (fQ.getD k' 0)||m.testBit k')
   else !((masks R.toList []).getD i 0).testBit (fQ.getD k 0)
def alY(R:Array Oper)(N:Nat)(fQ:List Nat)(rng:List (List Nat)):Bool:=
 ((List.range R.size).all fun j=>
   (match R[j]? with
    |some o=>o.guard.isNone&&(match o.op with| .select .. =>false|_=>true)&&o.after.toList.all (fun e=> !Region.binds .any e||decide (e.on<j))&&(match o.dst with|some d=>decide (d<N)|none=>true)
    |none=>true)&&
   ((List.range j).all fun i=>
     match R[i]?,R[j]? with
     |some x,some y=>(((masks R.toList []).getD j 0).testBit i||x.apart R y)&&(x.dst.isNone||x.dst !=y.dst)
     |_,_=>true)&&
   ((List.range (2^fQ.length)).all fun m=> !(afx R fQ j m)||(rng.getD j []).contains m))&&
 (List.range fQ.length).all fun k'=>decide (fQ.getD k' 0<R.size)&&(List.range k').all fun k=>fQ.getD k 0 !=fQ.getD k' 0
section
variable {P:Program} {R:Array Oper} {N:Nat} {fQ:List Nat} {rng:List (List Nat)} {W:Nat->World} {vs:Nat->Value} {A:Nat->Act}
structure XA(R:Array Oper)(N:Nat)(fQ:List Nat)(rng:List (List Nat)):Prop where
 guard:∀(j:Nat)(o:Oper),R[j]? =some o->o.guard=none
 atE:∀(j:Nat)(o:Oper),R[j]? =some o->∀cs b,o.op≠ .select cs b
 edge:∀(i:Nat)(o:Oper)(e:Edge),R[i]? =some o->e∈o.after->Region.binds .any e=true->e.on<i
 dst:∀(i:Nat)(o:Oper),R[i]? =some o->∀d,o.dst=some d->d<N
 pair:∀(i j:Nat)(x y:Oper),i<j->R[i]? =some x->R[j]? =some y->((masks R.toList []).getD j 0).testBit i=true\/x.apart R y=true
 one:∀(i j:Nat)(x y:Oper)(d:Nat),R[i]? =some x->R[j]? =some y->x.dst=some d->y.dst=some d->i=j
 rng:∀(j m:Nat),j<R.size->m<2^fQ.length->afx R fQ j m=true->m∈rng.getD j []
 alZ:∀k,k<fQ.length->fQ.getD k 0<R.size
 apart:∀k k',k<k'->k'<fQ.length->fQ.getD k 0≠fQ.getD k' 0
theorem al0(h:alY R N fQ rng=true):XA R N fQ rng:=by
 unfold alY at h;rw[ai] at h;obtain⟨h1,h2⟩:=h;have H:∀(j:Nat)(o:Oper),R[j]? =some o->_:=fun j o ho=>az.1 h1 j (cw.2 (bj.1 ho).1)
 have H0:∀(j:Nat)(o:Oper),R[j]? =some o->o.guard.isNone=true/\(match o.op with| .select .. =>false|_=>true)=true/\o.after.toList.all (fun e=> !Region.binds .any e||decide (e.on<j))=true/\(match o.dst with|some d=>decide (d<N)|none=>true)=true:=by
  intro j o ho;have:=H j o ho;simp only[ho,ai] at this;exact⟨this.1.1.1.1.1,this.1.1.1.1.2,this.1.1.1.2,this.1.1.2⟩
 have H1:∀(i j:Nat)(x y:Oper),i<j->R[i]? =some x->R[j]? =some y->((((masks R.toList []).getD j 0).testBit i||x.apart R y)&&(x.dst.isNone||x.dst !=y.dst))=true:=by
  intro i j x y hij hx hy;have:=H j y hy;simp only[ai] at this;have:=az.1 this.1.2 i (cw.2 hij);simp only[hx,hy] at this;exact this
 have H2:∀(i j:Nat)(x y:Oper)(d:Nat),i<j->R[i]? =some x->R[j]? =some y->x.dst=some d->y.dst=some d->False:=by
  intro i j x y d hij hx hy h1 h2;have:=H1 i j x y hij hx hy;simp[h1,h2] at this
 refine⟨fun j o ho=>by simpa using (H0 j o ho).1,fun j o ho cs b e=> ?_,fun i o e ho he hb=> ?_,fun i o ho d hd=> ?_,fun i j x y hij hx hy=> ?_,fun i j x y d hx hy h1 h2=> ?_,fun j m hj hm hp=> ?_,fun k hk=> ?_,fun k k' hkk hk=> ?_⟩
 ·have:=(H0 j o ho).2.1;rw[e] at this;cases this
 ·have:=az.1 (H0 i o ho).2.2.1 e (by simpa using he);simpa [hb] using this
 ·have:=(H0 i o ho).2.2.2;rw[hd] at this;simpa using this
 ·have:=H1 i j x y hij hx hy;rw[ai,dk] at this;exact this.1
 ·rcases eW i j with h|h|h
  ·exact(H2 i j x y d h hx hy h1 h2).elim
  ·exact h
  ·exact(H2 j i y x d h hy hx h2 h1).elim
 ·have:=az.1 h1 j (cw.2 hj);rw[ai] at this;have:=az.1 this.2 m (cw.2 hm);simpa [hp] using this
 ·have:=az.1 h2 k (cw.2 hk);rw[ai] at this;simpa using this.1
 ·have:=az.1 h2 k' (cw.2 hk);rw[ai] at this;have:=az.1 this.2 k (cw.2 hkk);simpa using this
structure afy(R:Array Oper)(fQ:List Nat)(W:Nat->World)(vs:Nat->Value)(a0:Act)(listed:Array Bool)(a:Act)(w:World):Prop where
 size:listed.size=R.size
 closed:∀i o e,R[i]? =some o->listed.getD i false=true->e∈o.after->Region.binds .any e=true->listed.getD e.on false=true
 wld:∃m,m<2^fQ.length/\(∀k,k<fQ.length->(listed.getD (fQ.getD k 0) false=true<->m.testBit k=true))/\w=W m
 defs:a.defers=a0.defers
 afz:a.tmps.size=a0.tmps.size
 got:∀j o t,R[j]? =some o->o.dst=some t->listed.getD j false=true->a.tmps.getD t undef=vs j
 old:∀t,(∀j o,R[j]? =some o->o.dst=some t->listed.getD j false=false)->a.tmps.getD t undef=a0.tmps.getD t undef
theorem mQ(a:Act)(d:Option Nat)(v:Value):(a.put d v).tmps.size=a.tmps.size:=by cases d<;>simp[Act.put]
theorem put_defers(a:Act)(d:Option Nat)(v:Value):(a.put d v).defers=a.defers:=by cases d<;>rfl
theorem Ql{a:Act}{d:Nat}{v:Value}(h:d<a.tmps.size):(a.put (some d) v).tmps.getD d undef=v:=by simp[Act.put,h]
theorem ZE(hok:XA R N fQ rng){a0:Act}(hN:a0.tmps.size=N)(VR:A 0=a0)(hA:∀j o,R[j]? =some o->A (j+1)=(A j).put o.dst (vs j)):
 ∀n,n<=R.size->(A n).tmps.size=N/\(A n).defers=a0.defers/\(∀t,(∀j o,j<n->R[j]? =some o->o.dst≠some t)->(A n).tmps.getD t undef=a0.tmps.getD t undef)/\(∀j o t,j<n->R[j]? =some o->o.dst=some t->(A n).tmps.getD t undef=vs j):=by
 intro n
 induction n with
 |zero=>intro _;rw[VR];exact⟨hN,rfl,fun _ _=>rfl,fun j o t hj=>gA⟩
 |succ n ih=>
  intro hn;obtain⟨i1,i2,i3,i4⟩:=ih gA;have ho:R[n]? =some R[n]:=cq gA;have hAn:=hA n _ ho;refine⟨by rw[hAn,mQ];exact i1,by rw[hAn,put_defers];exact i2,fun t ht=> ?_,fun j o t hj hjo hd=> ?_⟩
  ·rw[hAn,vZ (ht n _ gA ho)];exact i3 t fun j o hj hjo=>ht j o gA hjo
  ·by_cases e:j=n
   ·subst e;rw[ho] at hjo;cases hjo;rw[hAn,hd,Ql (by rw[i1];exact hok.dst _ _ ho _ hd)]
   ·rw[hAn,vZ fun q=>e (hok.one j n _ _ t hjo ho hd q)];exact i4 j o t gA hjo hd
theorem aiy{Q:Exit->Act->World->Prop}(hok:XA R N fQ rng){a0:Act}(hN:a0.tmps.size=N)(VR:A 0=a0)
 (hA:∀j o,R[j]? =some o->A (j+1)=(A j).put o.dst (vs j)/\∀m∈rng.getD j [],sJ P o (A j).eval (W m) (vs j) (W (xY fQ j m)))
 {listed:Array Bool}{a:Act}{w:World}(hM:afy R fQ W vs a0 listed a w){i:Nat}(hi:i∈Region.ready .any R listed):
 wpOp P R Q i (fun a' w'=>afy R fQ W vs a0 (listed.setIfInBounds i true) a' w') a w:=by
 obtain⟨hun,o,ho,Mf⟩:=mem_ready.1 hi;have hlt:i<R.size:=(bj.1 ho).1
 have hls:i<listed.size:=by rw[hM.size];exact hlt
 have Bz:listed.getD i false=false:=by simp[hls] at hun ⊢;exact hun
 have hset:(listed.setIfInBounds i true).getD i false=true:=by simp[hls]
 have Kn:∀j x k,R[j]? =some x->listed.getD j false=true->((masks R.toList []).getD j 0).testBit k=true->listed.getD k false=true:=fun j x k hx hE hb=>
  Ig (fun k=>listed.getD k false=true) hM.closed hok.edge j x hx (fun e he hb=>hM.closed j x e hx hE he hb) k hb
 have DV:∀k,((masks R.toList []).getD i 0).testBit k=true->listed.getD k false=true:=fun k hb=>
  Ig (fun k=>listed.getD k false=true) hM.closed hok.edge i o ho (fun e he hb=>Mf e he hb) k hb
 obtain⟨m,hm,hmk,rfl⟩:=hM.wld;obtain⟨c1,c2,c3,c4⟩:=ZE hok hN VR (fun j o h=>(hA j o h).1) i gA
 have hev:∀x∈o.op.operands,a.eval x=(A i).eval x:=by
  intro x hx
  cases x with
  |tmp t=>
   have Rb:t∈o.looksAt R:=Lg hx rfl;show a.tmps.getD t undef=(A i).tmps.getD t undef;by_cases hw:∃(j:Nat) (y:Oper),j<i/\R[j]? =some y/\y.dst=some t
   ·obtain⟨j,y,hj,hy,hd⟩:=hw;rw[c4 j y t hj hy hd];refine hM.got j y t hy hd (DV j ?_);rcases hok.pair j i y o hj hy ho with h|h
    ·exact h
    ·exact absurd Rb ((Oper.apart_spec h).1 t hd)
   ·rw[c3 t fun j y hj hy hd=>hw ⟨j,y,hj,hy,hd⟩];refine hM.old t fun j y hy hd=> ?_
    cases hl:listed.getD j false with
    |false=>rfl
    |true=>
     exfalso;rcases eW j i with h|h|h
     ·exact hw ⟨j,y,h,hy,hd⟩
     ·subst h;rw[Bz] at hl;cases hl
     ·rcases hok.pair i j o y h ho hy with k|k
      ·rw[Kn j y i hy hl k] at Bz;cases Bz
      ·exact(Oper.apart_spec k).2.2 t hd Rb
  |_=>rfl
 have avL:m∈rng.getD i []:=by
  refine hok.rng i m hlt hm ?_;unfold afx;refine az.2 fun k hk=> ?_;have hk:=cw.1 hk
  cases q:m.testBit k with
  |false=>
   rw[if_neg gE]
   cases hb:((masks R.toList []).getD i 0).testBit (fQ.getD k 0) with
   |false=>rfl
   |true=>
    have:=(hmk k hk).1 (DV _ hb);rw[q] at this;cases this
  |true=>
   rw[if_pos rfl];have hl:=(hmk k hk).2 q;have he:R[fQ.getD k 0]? =some (R[fQ.getD k 0]'(hok.alZ k hk)):=cq (hok.alZ k hk);rw[ai,ai];refine⟨⟨?_,?_⟩,az.2 fun k' hk'=> ?_⟩
   ·cases hb:((masks R.toList []).getD (fQ.getD k 0) 0).testBit i with
    |false=>rfl
    |true=>rw[Kn _ _ i he hl hb] at Bz;cases Bz
   ·rw[bne_iff_ne];intro e;rw[e,Bz] at hl;cases hl
   ·cases hb:((masks R.toList []).getD (fQ.getD k 0) 0).testBit (fQ.getD k' 0) with
    |false=>rfl
    |true=>exact(hmk k' (cw.1 hk')).1 (Kn _ _ _ he hl hb)
 have hdo:=(hA i o ho).2 m avL;unfold sJ at hdo;rw[<-execOp_congr o (hok.atE i o ho) hev] at hdo;unfold wpOp;simp only[ho];rw[if_pos (by simp[Region.wanted,hok.guard i o ho])];refine .inl (sJ.wp hdo ?_);refine⟨by simpa using hM.size,fun j x e hx hE he hb=> ?_,?_,by rw[put_defers];exact hM.defs,by rw[mQ];exact hM.afz,fun j y t hy hd hl=> ?_,fun t ht=> ?_⟩
 ·by_cases hji:j=i
  ·subst hji;rw[ho] at hx;cases hx;exact getD_set_true (Mf e he hb)
  ·rw[getD_set_ne false (Ne.symm hji)] at hE;exact getD_set_true (hM.closed j x e hx hE he hb)
 ·by_cases hie:i∈fQ
  ·obtain⟨k,hk,rfl⟩:∃k,k<fQ.length/\fQ.getD k 0=i:=by
    obtain⟨k,hk,e⟩:=ci hie;exact⟨k,hk,by simp[hk,e]⟩
   have hix:fQ.idxOf (fQ.getD k 0)=k:=by
    have h1:fQ.idxOf (fQ.getD k 0)<fQ.length:=List.idxOf_lt_length_iff.2 hie
    have h2:fQ.getD (fQ.idxOf (fQ.getD k 0)) 0=fQ.getD k 0:=by
     rw[cz,am h1,dq];exact List.getElem_idxOf h1
    rcases eW (fQ.idxOf (fQ.getD k 0)) k with h|h|h
    ·exact absurd h2 (hok.apart _ k h hk)
    ·exact h
    ·exact absurd h2.symm (hok.apart k _ h h1)
   refine⟨m ||| 2^k,Nat.or_lt_two_pow hm (Nat.pow_lt_pow_right gE hk),fun k' hk'=> ?_,?_⟩
   ·rw[Nat.testBit_or,Nat.testBit_two_pow];by_cases e:k'=k
    ·subst e;rw[hset,decide_eq_true rfl,Bool.or_true]
    ·have hne:fQ.getD k 0≠fQ.getD k' 0:=by
      rcases eW k k' with h|h|h
      ·exact hok.apart k k' h hk'
      ·exact absurd h.symm e
      ·exact(hok.apart k' k h hk).symm
     rw[getD_set_ne false hne,hmk k' hk'];simp[Ne.symm e]
   ·unfold xY;rw[if_pos (by simpa using hie),hix]
  ·refine⟨m,hm,fun k hk=> ?_,by unfold xY;rw[if_neg (by simpa using hie)]⟩;have hne:i≠fQ.getD k 0:=fun e=>hie (by rw[e];simp[hk]);rw[getD_set_ne false hne];exact hmk k hk
 ·by_cases hji:j=i
  ·subst hji;rw[ho] at hy;cases hy;rw[hd,Ql (by rw[hM.afz,hN];exact hok.dst _ _ ho _ hd)]
  ·rw[getD_set_ne false (Ne.symm hji)] at hl;rw[vZ fun q=>hji (hok.one j i _ _ t hy ho hd q)];exact hM.got j y t hy hd hl
 ·have hne:o.dst≠some t:=fun q=>by
   have:=ht i o ho q;rw[hset] at this;cases this
  rw[vZ hne];refine hM.old t fun j y hy hd=> ?_;have:=ht j y hy hd;by_cases hji:j=i
  ·subst hji;exact Bz
  ·rw[getD_set_ne false (Ne.symm hji)] at this;exact this
theorem al1{Q:Exit->Act->World->Prop}(hok:XA R N fQ rng){a0:Act}(hN:a0.tmps.size=N)(VR:A 0=a0)
 (hA:∀j o,R[j]? =some o->A (j+1)=(A j).put o.dst (vs j)/\∀m∈rng.getD j [],sJ P o (A j).eval (W m) (vs j) (W (xY fQ j m)))
 (hQ:Q .normal (A R.size) (W (2^fQ.length-1))):
 ∀(fuel:Nat)(listed:Array Bool)(a:Act)(w:World),(List.range R.size).countP (fun i=> !listed.getD i false)<=fuel->afy R fQ W vs a0 listed a w->wpAny P .any R Q fuel listed a w:=by
 have hend:∀listed a w,afy R fQ W vs a0 listed a w->Region.ready .any R listed=[]->Q .normal a w:=by
  intro listed a w hM hr
  have hall:∀i,i<R.size->listed.getD i false=true:=by
   intro i
   induction i using Nat.strongRecOn with
   |_ i ih=>
    intro hi
    cases hE:listed.getD i false with
    |true=>rfl
    |false=>
     exfalso;have ho:R[i]? =some R[i]:=cq hi
     have:i∈Region.ready .any R listed:=by
      rw[mem_ready]
      have hs:i<listed.size:=by rw[hM.size];exact hi
      refine⟨by simp[hs] at hE ⊢;exact hE,_,ho,fun e he hb=> ?_⟩;have hon:=hok.edge i _ e ho he hb;exact ih e.on hon gA
     rw[hr] at this;simp at this
  obtain⟨m,hm,hmk,rfl⟩:=hM.wld;obtain⟨c1,c2,c3,c4⟩:=ZE hok hN VR (fun j o h=>(hA j o h).1) R.size (ax _)
  have hme:m=2^fQ.length-1:=by
   refine Nat.eq_of_testBit_eq fun k=> ?_;rw[Nat.testBit_two_pow_sub_one];by_cases q:k<fQ.length
   ·rw[(hmk k q).1 (hall _ (hok.alZ k q)),decide_eq_true q]
   ·rw[decide_eq_false q];exact Nat.testBit_lt_two_pow (df hm (gc gE gA))
  subst hme
  have hae:a=A R.size:=by
   have hg:∀t,a.tmps.getD t undef=(A R.size).tmps.getD t undef:=by
    intro t;by_cases hw:∃(j:Nat) (y:Oper),R[j]? =some y/\y.dst=some t
    ·obtain⟨j,y,hy,hd⟩:=hw;have hj:=(bj.1 hy).1;rw[c4 j y t hj hy hd];exact hM.got j y t hy hd (hall j hj)
    ·rw[c3 t fun j y _ hy hd=>hw ⟨j,y,hy,hd⟩];exact hM.old t fun j y hy hd=>absurd ⟨j,y,hy,hd⟩ hw
   have hs:a.tmps.size=(A R.size).tmps.size:=by rw[hM.afz,hN,c1]
   have ht:a.tmps=(A R.size).tmps:=by
    refine Array.ext hs fun t h1 h2=> ?_;have:=hg t;simpa [h1,h2] using this
   have hd:a.defers=(A R.size).defers:=hM.defs.trans c2.symm;obtain⟨BN,ad1⟩:=a
   generalize A R.size=b at *
   obtain⟨bt,bd⟩:=b;simp only at ht hd;rw[ht,hd]
  rw[hae];exact hQ
 intro fuel
 induction fuel with
 |zero=>
  intro listed a w hc hM
  have hnone:Region.ready .any R listed=[]:=by
   cases hr:Region.ready .any R listed with
   |nil=>rfl
   |cons i l=>
    exfalso
    have hi:i∈Region.ready .any R listed:=by rw[hr];simp
    obtain⟨hun,o,ho,_⟩:=mem_ready.1 hi;have hlt:=(bj.1 ho).1
    have hs:i<listed.size:=by rw[hM.size];exact hlt
    have hz:(List.range R.size).countP (fun i=> !listed.getD i false)=0:=gA
    rw[List.countP_eq_zero] at hz;have:=hz i (cw.2 hlt);simp[hs] at hun this;rw[hun] at this;cases this
  exact⟨hnone,hend listed a w hM hnone⟩
 |succ fuel ih=>
  intro listed a w hc hM;refine⟨hend listed a w hM,fun i hi=> ?_⟩;refine wpOp_mono (fun a' w' hM'=>ih _ a' w' ?_ hM') (aiy hok hN VR hA hM hi);obtain⟨hun,o,ho,_⟩:=mem_ready.1 hi;have hlt:=(bj.1 ho).1
  have hs:i<listed.size:=by rw[hM.size];exact hlt
  have:=cnt_lt (fun j=> !listed.getD j false) (fun j=> !(listed.setIfInBounds i true).getD j false) (List.range R.size) i (fun x hx=>by
   by_cases e:x=i
   ·subst e;simp[hs] at hx
   ·rw[getD_set_ne false (Ne.symm e)] at hx;exact hx) (cw.2 hlt) (by simp[hs] at hun ⊢;exact hun) (by simp[hs])
  omega
end
theorem FD{P:Program}{id:Nat}{Q:Exit->Act->World->Prop}{a:Act}{w:World}{l:List Oper}(N:Nat)(fQ:List Nat)(rng:List (List Nat))(W:Nat->World)(hm:P.follows .mixedOrders=true)(hB:alY l.toArray N fQ rng=true)
 (hN:a.tmps.size=N)(h0:W 0=w.drew)(h:dB P fQ W (fun a'=>Q .normal a' (W (2^fQ.length-1))) l rng 0 a):(Code.region id l.toArray true).wp P Q a w:=by
 refine wp_region_any hm ?_;have hok:=al0 hB;obtain⟨vs,A,k0,k1,k2⟩:=acZ l rng 0 a h;refine al1 (W:=W) (vs:=vs) (A:=A) hok hN k0 (fun j o hj=> ?_) (by simpa using k2) _ _ _ _ ?_ ⟨gL,fun i o e _ hl=> ?_,⟨0,Nat.two_pow_pos _,fun k hk=> ?_,h0.symm⟩,rfl,rfl,fun j o t _ _ hl=> ?_,fun t _=>rfl⟩
 ·have:=k1 j o (by simpa using hj);rw[cG] at this;exact this
 ·exact co List.countP_le_length gL
 ·rw[getD_replicate_false] at hl;cases hl
 ·rw[getD_replicate_false];simp
 ·rw[getD_replicate_false] at hl;cases hl
theorem Qm{P:Program}{Q:Exit->Act->World->Prop}{a:Act}{w:World}{c:Code}(h:∀W,W=w->c.wp P Q a W):c.wp P Q a w:=h w rfl
section
variable {P:Program} {fQ:List Nat} {W:Nat->World} {K:Act->Prop} {o:Oper} {l:List Oper} {rs:List (List Nat)} {i:Nat} {a:Act}
theorem al2{m:Nat}(he:fQ.contains i=false):xY fQ i m=m:=by unfold xY;rw[he];rfl
theorem dB.done(h:K a):dB P fQ W K [] rs i a:=h
theorem dB.any(v:Value){r:List Nat}(he:fQ.contains i=false)(h:∀w,sJ P o a.eval w v w)(hk:dB P fQ W K l rs (i+1) (a.put o.dst v)):dB P fQ W K (o::l) (r::rs) i a:=
 ⟨v,fun m _=>by rw[al2 he];exact h _,hk⟩
theorem dB.BN(v:Value){m:Nat}{w w':World}(hw:W m=w)(hw':W (xY fQ i m)=w')(h:sJ P o a.eval w v w')(hk:dB P fQ W K l rs (i+1) (a.put o.dst v)):dB P fQ W K (o::l) ([m]::rs) i a:=
 ⟨v,fun k hk=>by
   have:k=m:=by simpa using hk
   subst this;rw[hw,hw'];exact h,hk⟩
theorem dB.at2(v:Value){m n:Nat}{w w' u u':World}(hw:W m=w)(hw':W (xY fQ i m)=w')(hu:W n=u)(hu':W (xY fQ i n)=u')(h:sJ P o a.eval w v w')(h2:sJ P o a.eval u v u')(hk:dB P fQ W K l rs (i+1) (a.put o.dst v)):
 dB P fQ W K (o::l) ([m,n]::rs) i a:=
 ⟨v,fun k hk=>by
   have:k=m\/k=n:=by simpa using hk
   rcases this with rfl|rfl
   ·rw[hw,hw'];exact h
   ·rw[hu,hu'];exact h2,hk⟩
theorem nQ{ρ:Operand->Value}{w w':World}{v:Value}(h:(execOp ρ o).run P w=.ok (.value v) w'):sJ P o ρ w v w':=.inl h
theorem yQ{ρ:Operand->Value}{w w':World}(h:(execOp ρ o).run P w=.ok .skip w'):sJ P o ρ w undef w':=.inr ⟨h,rfl⟩
theorem Dt{ρ:Operand->Value}{w w':World}{s x:Operand}{t:TypeId}{v u r:Value}(ho:o.op=.call {callee:=.builtin .append,args:= #[s,x],argTypes:= #[t,t]})(hs:ρ s=v)(hx:ρ x=u)
 (hr:(Builtin.append_ #[t,t] o.type #[v,u]).run P w=.ok r w'):sJ P o ρ w r w':=by
 left;unfold execOp;simp only[ho,resolve,invoke,builtin,Sem.run_bind,Sem.run_pure,Result.andThen_ok,List.map_toArray,af,aw,hs,hx,hr]
theorem dB.anyS(v:Value){r:List Nat}(hk:dB P fQ W K l rs (i+1) (a.put o.dst v))(he:fQ.contains i=false:=by rfl)(h:∀w,sJ P o a.eval w v w:=by intro w;exact nQ (by go_simp)):dB P fQ W K (o::l) (r::rs) i a:=dB.any v he h hk
theorem dB.afA(v:Value){m:Nat}{w w':World}(hw:W m=w)(hw':W (xY fQ i m)=w')(hk:dB P fQ W K l rs (i+1) (a.put o.dst v))(h:sJ P o a.eval w v w':=by exact nQ (by go_simp)):dB P fQ W K (o::l) ([m]::rs) i a:=dB.BN v hw hw' h hk
theorem dB.afB(v:Value){m n:Nat}{w w' u u':World}(hw:W m=w)(hw':W (xY fQ i m)=w')(hu:W n=u)(hu':W (xY fQ i n)=u')(hk:dB P fQ W K l rs (i+1) (a.put o.dst v))(h:sJ P o a.eval w v w':=by exact nQ (by go_simp))(h2:sJ P o a.eval u v u':=by exact nQ (by go_simp)):
 dB P fQ W K (o::l) ([m,n]::rs) i a:=dB.at2 v hw hw' hu hu' h h2 hk
end
end Go.Ab