/-
  SEVERAL TEXTS IN ONE (merged by program): contracts and models, each with its own heading.
-/
import Derived.Test.YtnceiannponbjaaGreatDoorPartDkbD
import Derived.Test.YtnceiannponbjaaGreatDoorPartDkbE
open Go.Proofs Go.Proofs.Tryz
set_option linter.unusedSimpArgs false
set_option linter.unusedVariables false
set_option maxRecDepth 4000
namespace Go.Ab
def ahf(T:List TypeId):Op->Bool
 | .call {callee:=.value _,args:=_,argTypes:=ts}=> !(ts.toList.all fun t=>T.all fun u=> !(t==u))
 |_=>false
def qh(T:List TypeId)(R:Array Oper):Md:=fun op=>match vX R 0 op with
 |0=>if ahf T op then 3 else 0
 |m=>m
def Bb:V->Option Key
 | .c (.ptr k _)=>some k
 | .c (.jV k _ _)=>some k
 | .c (.gK k)=>some k
 | .c (.mp k)=>some k
 | .c (.xp k _ _)=>some k
 | .c (.xq k _ _ _ _ _)=>some k
 |_=>none
theorem Lj{v:V}{k:Key}(h:ES v k):Bb v=some k:=by
 rcases h with⟨_,rfl⟩|⟨_,_,rfl⟩|rfl|rfl|⟨_,_,rfl⟩|⟨_,_,_,_,_,rfl⟩<;>rfl
def UW:Key->Key->Bool
 |(0,a),(0,b)=>a !=b
 |(0,_),(_+1,_)=>true
 |(_+1,_),(0,_)=>true
 |_,_=>false
theorem aa9{k k':Key}(h:UW k k'=true):k≠k':=by
 rintro rfl;obtain⟨l,j⟩:=k;cases l<;>simp[UW] at h
def UY(v w:V):Bool:=match Bb v,Bb w with
 |some k,some k'=>UW k k'
 |_,_=>true
def M7:Op->List Operand
 | .store _ a _=>[a]
 | .call {callee:=.value _,args:=uL,argTypes:=_}=>uL.toList
 |_=>[]
def E9(R:Array Oper)(i:Nat)(x:Oper)(j:Nat)(y:Oper):Bool:=iO y.op||(match x.op with
 | .store _ _ _=>true
 | .call {callee:=.value _,args:=_,argTypes:=_}=>true
 |_=>false)&&(M7 x.op).all (settled R i)&&y.op.operands.toList.all (settled R j)
def DT(T:List TypeId)(R:Array Oper)(p i j:Nat)(x y:Oper):Bool:= !(x.apart R y)||(!(decide (j=p))&&((eF (qh T R) x.op&&eF (qh T R) y.op)||(jW (qh T R) x.op&& !(E9 R i x j y))||(jW (qh T R) y.op&& !(E9 R j y i x))))
def za(T:List TypeId)(R:Array Oper)(N p:Nat):Bool:=Dt (qh T R) R p&&
 (List.range R.size).all fun j=>
   (match R[j]? with
    |some o=>o.after.toList.all (fun e=> !Region.binds .any e||decide (e.on<j))&&(match o.dst with|some d=>decide (d<N)|none=>true)
    |none=>true)&&
   (List.range j).all fun i=>
     match R[i]?,R[j]? with
     |some x,some y=>((masks R.toList []).getD j 0).testBit i|| !(DT T R p i j x y)
     |_,_=>true
def aiM(T:List TypeId)(R:Array Oper)(N:Nat):Nat:=if za T R N R.size then R.size else((List.range R.size).find? fun p=>Gm R p&&za T R N p).getD R.size
def Sn(T:List TypeId)(R:Array Oper)(N:Nat):Bool:=za T R N (aiM T R N)
def M8(E:Md)(R:Array Oper)(tm:List (Nat×V)):Bool:=
 (List.range R.size).all fun i=>match R[i]? with
   |some x=> !(jW E x.op)||(M7 x.op).all fun a=>(List.range R.size).all fun j=>match R[j]? with
     |some y=>pX R i j||eF E y.op||iO y.op||TR y.op||y.op.operands.toList.all (fun z=>UY (ev tm a) (ev tm z))
     |none=>true
   |none=>true
def KC(vs:List V)(S S':Store):Prop:=∀k,(∃v∈vs,ES v k)\/aR S' k=aR S k
def Ca(T:List TypeId)(R:Array Oper)(op:Op)(tm:List (Nat×V))(S S':Store):Prop:=match op with
 | .call {callee:=.value x,args:=uL,argTypes:=ts}=>qh T R (.call {callee:=.value x,args:=uL,argTypes:=ts})=3->KC (A9 tm uL.toList) S S'
 |_=>True
section
variable {P:Program} {N:Nat} {S:Store} {s:St} {tm:List (Nat×V)} {T:List TypeId} {R:Array Oper}
def wm(P:Program)(T:List TypeId)(R:Array Oper):List Oper->St->(St->Prop)->Prop
 |[],s,K=>K s
 |o::os,s,K=>nk P (qh T R) R o s fun s'=>Ca T R o.op s.tm s.st s'.st/\wm P T R os s' K
theorem X4{op:Op}(h:2<=qh T R op):qh T R op=3\/(List.range R.size).all (fun i=>match R[i]? with
 |some o=>(wI op !=wI o.op)||Kj R i
 |none=>true)=true:=by
 unfold qh at h ⊢;split at h
 ·rename_i e;split at h
  ·rename_i hc;left;rw[if_pos hc]
  ·omega
 ·rename_i m hm;right;unfold vX at h;split at h
  ·rename_i hq;exact hq
  ·omega
theorem abb{o:Oper}{i j:Nat}(ho:R[i]? =some o)(hj:j<R.size)(hij:i≠j)(h:(List.range R.size).all (fun i=>match R[i]? with
 |some o'=>(wI o.op !=wI o'.op)||Kj R i
 |none=>true)=true):pX R i j=true:=by
 have hi:i<R.size:=(Array.getElem?_eq_some_iff.1 ho).1;have h1:=List.all_eq_true.1 h i (List.mem_range.2 hi);rw[ho] at h1;simp only[bne_self_eq_false,Bool.false_or] at h1;have h2:=List.all_eq_true.1 h1 j (List.mem_range.2 hj);unfold pX;have hne:¬j=i:=fun e=>hij e.symm;simp only[hne,decide_false,Bool.false_or] at h2;by_cases e:i<j
 ·rw[if_pos e];rwa [if_neg (by omega)] at h2
 ·rw[if_neg e];rwa [if_pos (by omega)] at h2
theorem X5{o:Oper}{s s':St}{v:V}(ht:lq P (qh T R) R o s v s')(hf:Ca T R o.op s.tm s.st s'.st)(hc:iO o.op=true)(hm:qh T R o.op=3){k:Key}
 (hk:∀a∈M7 o.op,∀k',Bb (ev s.tm a)=some k'->k'≠k):aR s'.st k=aR s.st k:=by
 obtain⟨dst,op,ty,pos,after,guard⟩:=o
 cases op with
 |call c=>
  obtain⟨wF,args,ts⟩:=c
  cases wF with
  |value f=>
   rcases hf hm k with⟨v,hv,hr⟩|h
   ·obtain⟨a,ha,rfl⟩:=List.mem_map.1 hv;exact absurd rfl (hk a ha k (Lj hr))
   ·exact h
  |_=>cases hc
 |_=>cases hc
theorem UZ{v w:V}(h:UY v w=true){k k':Key}(hv:Bb v=some k')(hw:ES w k):k'≠k:=by
 unfold UY at h;rw[hv,Lj hw] at h;exact aa9 h
theorem adV{st:Nat->St}{vs:Nat->V}{p:Nat}(hok:za T R N p=true)
 (hF:∀i,i<R.size->∃o,R[i]? =some o/\lq P (qh T R) R o (st i) (vs i) (st (i+1))/\Ca T R o.op (st i).tm (st i).st (st (i+1)).st)(hl:M8 (qh T R) R (st R.size).tm=true):Lc (qh T R) R N st p:=by
 unfold za at hok;rw[Bool.and_eq_true] at hok;have vo:=Sc hok.1;obtain⟨hed,h2⟩:=Ir (f:=fun i j x y=>DT T R p i j x y) hok.2
 have hT:∀i,i<R.size->∃o,R[i]? =some o/\lq P (qh T R) R o (st i) (vs i) (st (i+1)):=fun i hi=>by
  obtain⟨o,a,b,_⟩:=hF i hi;exact⟨o,a,b⟩
 refine⟨?_,?_,?_,?_,vo⟩
 ·intro i o e ho he hb;have h2:=hed i o ho;simp only[Bool.and_eq_true] at h2;have h3:=List.all_eq_true.1 h2.1 e (by simpa using he);simpa [hb] using h3
 ·intro i o ho d hd;have h2:=hed i o ho;simp only[Bool.and_eq_true,hd] at h2;simpa using h2.2
 ·intro i j x y hij hx hy hc;rcases h2 i j x y hij hx hy with h|h
  ·exact .inl h
  ·unfold DT at h;unfold lC at hc;rw[Bool.or_eq_false_iff,Bool.not_eq_false'] at h;rw[h.1] at hc;simp only[Bool.not_true,Bool.false_or] at hc;by_cases e:j=p
   ·exact .inr ⟨e,(Bool.and_eq_true _ _▸hc).1,h.1⟩
   ·have h3:=h.2;simp only[e,decide_false,Bool.not_false,Bool.true_and,Bool.or_eq_false_iff] at h3;rw[hc] at h3;cases h3.1.1
 ·intro i j x o hij hx ho hs hD hc
  have hjp:j≠p:=fun e=>by
   subst e;have:=(qZ (E:=qh T R) (vo o ho).1).1;rw[hD] at this;cases this
  have Ld:i≠p:=fun e=>by
   subst e;have:=(qZ (E:=qh T R) (vo x hx).1).2.1;rw[hs] at this;cases this
  cases hb:pX R i j with
  |true=>exact .inl rfl
  |false=>
   refine .inr ?_;rintro k ⟨hmv,z,hz,hk⟩;have hi:i<R.size:=(Array.getElem?_eq_some_iff.1 hx).1;have hj:j<R.size:=(Array.getElem?_eq_some_iff.1 ho).1
   have hlo:E9 R i x j o=true:=by
    unfold pX at hb;by_cases e:i<j
    ·rw[if_pos e] at hb;rcases h2 i j x o e hx ho with h|h
     ·rw[hb] at h;cases h
     ·simp only[DT,hjp,decide_false,Bool.not_false,hs,Bool.true_and,Bool.or_eq_false_iff,Bool.not_eq_false'] at h;exact h.2.1.2
    ·rw[if_neg e] at hb;rcases h2 j i o x (by omega) ho hx with h|h
     ·rw[hb] at h;cases h
     ·simp only[DT,Ld,decide_false,Bool.not_false,hs,Bool.true_and,Bool.or_eq_false_iff,Bool.not_eq_false'] at h;exact h.2.2
   unfold E9 at hlo;rw[hc,Bool.false_or,Bool.and_eq_true,Bool.and_eq_true] at hlo;obtain⟨⟨hop,hsa⟩,hsy⟩:=hlo
   have hz':z∈o.op.operands.toList:=by simpa using hz
   have hsz:=List.all_eq_true.1 hsy z hz';have h1:=List.all_eq_true.1 hl i (List.mem_range.2 hi);rw[hx] at h1;simp only[hs,Bool.not_true,Bool.false_or] at h1
   have key:∀a∈M7 x.op,∀k',Bb (ev (st i).tm a)=some k'->k'≠k:=fun a ha k' hk'=>by
    have h3:=List.all_eq_true.1 h1 a ha;have h4:=List.all_eq_true.1 h3 j (List.mem_range.2 hj);rw[ho] at h4;simp only[hb,hD,hc,hmv,Bool.false_or] at h4;have h5:=List.all_eq_true.1 h4 z hz';rw[yg hT (by omega) (List.all_eq_true.1 hsa a ha),yg hT (by omega) hsz] at h5;exact UZ h5 hk' hk
   obtain⟨x',hx',ht,hf⟩:=hF i hi;rw[hx] at hx';cases hx';split at hop
   ·rename_i t a y e;refine FN e ht fun k' hk'=>key a (by rw[e];exact List.mem_singleton.2 rfl) k' ?_;rcases hk' with⟨_,h⟩|⟨_,_,h⟩|⟨_,_,_,_,_,h⟩<;>rw[h]<;>rfl
   ·rename_i f uL ts e
    have hcv:iO x.op=true:=by rw[e];rfl
    have h2m:2<=qh T R x.op:=by
     unfold jW at hs
     have hns:vG x.op=false:=by rw[e];rfl
     rw[hns,Bool.false_or,Bool.and_eq_true,decide_eq_true_eq] at hs;exact hs.1
    rcases X4 h2m with h3|h3
    ·exact X5 ht hf hcv h3 key
    ·rw[abb hx hj hij h3] at hb;cases hb
   ·cases hop
theorem Q6{id:Nat}{Q:Exit->St->Prop}{s:St}(fB:P.follows .mixedOrders=true)(hok:Sn T R N=true)(h:wm P T R R.toList s (fun s'=>M8 (qh T R) R s'.tm=true/\Q .normal s')):AW P N (.region id R true) Q s:=by
 obtain⟨st,vs,h0,hK,hT⟩:=Dw (F:=fun o s s'=>Ca T R o.op s.tm s.st s'.st) (D:=fun os s=>wm P T R os s (fun s'=>M8 (qh T R) R s'.tm=true/\Q .normal s')) (fun _ h=>h) (fun o os s h=>by
  obtain⟨v,s',a,b⟩:=FM h
  exact⟨v,s',a,b⟩) R.size 0 (by omega) s h
 have hT':=fun i hi=>hT i (Nat.zero_le i) hi;refine BP (vs:=vs) fB h0 hK.2 (fun i hi=> ?_) (adV hok hT' hK.1);obtain⟨o,a,b,_⟩:=hT' i hi;exact⟨o,a,b⟩
def IV(E:Md)(R:Array Oper)(K:St->Prop)(s:St):Prop:=M8 E R s.tm=true/\K s
@[congr] theorem afw {E:Md} {R:Array Oper} {K:St->Prop} {s s':St} (h2:s=s'):IV E R K s=IV E R K s':=by rw[h2]
def Bc(P:Program)(T:List TypeId)(R:Array Oper)(os:List Oper)(K:St->Prop)(s:St):Prop:=wm P T R os s K
def IW(P:Program)(T:List TypeId)(R:Array Oper)(op:Op)(tm:List (Nat×V))(S:Store)(os:List Oper)(K:St->Prop)(s':St):Prop:=Ca T R op tm S s'.st/\Bc P T R os K s'
@[congr] theorem agr {os:List Oper} {s s':St} {K:St->Prop} (h2:s=s'):wm P T R os s K=wm P T R os s' K:=by rw[h2]
@[congr] theorem afx {os:List Oper} {s s':St} {K:St->Prop} (h2:s=s'):Bc P T R os K s=Bc P T R os K s':=by rw[h2]
@[congr] theorem agt {op:Op} {os:List Oper} {s s':St} {K:St->Prop} (h2:s=s'):IW P T R op tm S os K s=IW P T R op tm S os K s':=by rw[h2]
theorem X6{K:St->Prop}:wm P T R [] ⟨tm,S⟩ K=K ⟨tm,S⟩:=rfl
theorem U0{o:Oper}{os:List Oper}{K:St->Prop}:wm P T R (o::os) ⟨tm,S⟩ K=nk P (qh T R) R o ⟨tm,S⟩ (IW P T R o.op tm S os K):=rfl
theorem U1{K:St->Prop}:Bc P T R [] K ⟨tm,S⟩=K ⟨tm,S⟩:=rfl
theorem Q7{o:Oper}{os:List Oper}{K:St->Prop}:Bc P T R (o::os) K ⟨tm,S⟩=nk P (qh T R) R o ⟨tm,S⟩ (IW P T R o.op tm S os K):=rfl
theorem abd{op:Op}{os:List Oper}{K:St->Prop}{tm':List (Nat×V)}{S':Store}:IW P T R op tm S os K ⟨tm',S'⟩=(Ca T R op tm S S'/\Bc P T R os K ⟨tm',S'⟩):=rfl
theorem X7{vs:List V}:KC vs S S=True:=by simp[KC]
theorem abe{vs:List V}{k:Key}{off:Nat}{x:Obj}:KC (.c (.ptr k off)::vs) S (aT S k x)=True:=by
 refine eq_true fun k'=> ?_;by_cases e:k=k'
 ·subst e;exact .inl ⟨_,List.mem_cons_self,.inl ⟨_,rfl⟩⟩
 ·exact .inr (dO _ _ _ _ e)
theorem Ll{vs:List V}{l j off:Nat}{fr:List Obj}{x:Obj}:KC (.c (.ptr (1+l,j) off)::vs) (fr::S) (fr::aT S (l,j) x)=True:=by
 have:=abe (S:=fr::S) (vs:=vs) (k:=(1+l,j)) (off:=off) (x:=x)
 rwa [aJ] at this
theorem X8{vs:List V}{l j off:Nat}{fr:List Obj}{x y:Obj}:KC (.c (.ptr (1+l,j) off)::vs) (fr::aT S (l,j) x) (fr::aT S (l,j) y)=True:=by
 have:=Ll (S:=aT S (l,j) x) (vs:=vs) (l:=l) (j:=j) (off:=off) (fr:=fr) (x:=y)
 rwa [aH] at this
theorem afy{p:Prop}:(p->True)=True:=by simp
def lD(P:Program)(N:Nat)(T:List TypeId):Code->(Exit->St->Prop)->St->Prop
 | .seq x y,Q,s=>lD P N T x (jq (lD P N T y Q) Q) s
 | .region _ R true,Q,s=>wm P T R R.toList s (IV (qh T R) R (Q .normal))
 | .region id R false,Q,s=>CW P N (.region id R false) Q s
 | .cond c x y,Q,s=>yh (ev s.tm c) (lD P N T x Q) (lD P N T y Q) s
 | .block id c,Q,s=>lD P N T c (uM id Q) s
 | .exit id,Q,s=>CW P N (.exit id) Q s
 | .ret,Q,s=>CW P N .ret Q s
 | .skip,Q,s=>CW P N .skip Q s
 | .loop c,Q,s=>CW P N (.loop c) Q s
 |_,_,_=>False
def mq(T:List TypeId)(N:Nat):Code->Bool
 | .seq x y=>mq T N x&&mq T N y
 | .region _ R true=>Sn T R N
 | .cond _ x y=>mq T N x&&mq T N y
 | .block _ c=>mq T N c
 | .loop _=>true
 |c=>codeOk N c
theorem l5(fB:P.follows .mixedOrders=true):∀(c:Code)(Q:Exit->St->Prop)(s:St),mq T N c=true->lD P N T c Q s->AW P N c Q s
 | .seq x y,Q,s,ok,h=>by
   simp only[mq,Bool.and_eq_true] at ok;refine Ii (AW.mono (l5 fB x _ s ok.1 h) fun e s' h'=> ?_)
   cases e with
   |normal=>exact l5 fB y Q s' ok.2 h'
   |_=>exact h'
 | .region _ R true,Q,s,ok,h=>Q6 fB ok h
 | .region id R false,Q,s,ok,h=>jB fB _ Q s ok h
 | .cond c x y,Q,s,ok,h=>by
   simp only[mq,Bool.and_eq_true] at ok;simp only[lD,yh] at h;split at h
   ·rename_i b hb;exact EO hb (fun e=>l5 fB x Q s ok.1 (h.1 e)) (fun e=>l5 fB y Q s ok.2 (h.2 e))
   ·exact h.elim
 | .block id c,Q,s,ok,h=>Gj (l5 fB c _ s ok h)
 | .exit id,Q,s,ok,h=>jB fB _ Q s ok h
 | .ret,Q,s,ok,h=>jB fB _ Q s ok h
 | .skip,Q,s,ok,h=>jB fB _ Q s ok h
 | .loop c,Q,s,ok,h=>by
   rw[lD,Sg] at h;exact h
 | .rangeFunc _ _ _ _,Q,s,ok,h=>h.elim
 | .scope _,Q,s,ok,h=>h.elim
 | .label _,Q,s,ok,h=>h.elim
 | .goto _,Q,s,ok,h=>h.elim
 | .refuse _,Q,s,ok,h=>h.elim
theorem adW{x y:Code}{Q:Exit->St->Prop}:lD P N T (.seq x y) Q s=lD P N T x (jq (lD P N T y Q) Q) s:=by rw[lD]
theorem abf{id:Nat}{l:List Oper}{Q:Exit->St->Prop}:lD P N T (.region id ⟨l⟩ true) Q s=wm P T ⟨l⟩ l s (IV (qh T ⟨l⟩) ⟨l⟩ (Q .normal)):=by rw[lD]
theorem U2{id:Nat}{l:List Oper}{Q:Exit->St->Prop}:lD P N T (.region id ⟨l⟩ false) Q s=CW P N (.region id ⟨l⟩ false) Q s:=by rw[lD]
theorem abg{c:Operand}{x y:Code}{Q:Exit->St->Prop}:lD P N T (.cond c x y) Q s=yh (ev s.tm c) (lD P N T x Q) (lD P N T y Q) s:=by rw[lD]
theorem X9{id:Nat}{c:Code}{Q:Exit->St->Prop}:lD P N T (.block id c) Q s=lD P N T c (uM id Q) s:=by rw[lD]
theorem abh{id:Nat}{Q:Exit->St->Prop}:lD P N T (.exit id) Q s=CW P N (.exit id) Q s:=by rw[lD]
theorem adX{Q:Exit->St->Prop}:lD P N T .ret Q s=CW P N .ret Q s:=by rw[lD]
theorem abj{Q:Exit->St->Prop}:lD P N T .skip Q s=CW P N .skip Q s:=by rw[lD]
theorem abk{c:Code}{Q:Exit->St->Prop}:lD P N T (.loop c) Q s=CW P N (.loop c) Q s:=by rw[lD]
theorem abl{ι:Type}{c:Code}{Q:Exit->St->Prop}(T:List TypeId)(fB:P.follows .mixedOrders=true)(hok:mq T N c=true)(ts:List Nat)(f:ι->List V)(g:ι->Store)(p:ι->Prop)(μ:ι->Nat)(i0:ι)
 (h1:ts.map (look s.tm)=f i0)(h2:s.st=g i0)(h3:p i0)
 (round:∀i,p i->lD P N T c (jq (Inv N ts f g p μ i) Q) ⟨iA ts (f i),g i⟩):AW P N (.loop c) Q s:=by
 refine R8 (ι:=ι) (fun i s=>∃s0,fV N s s0/\ts.map (look s0.tm)=f i/\s0.st=g i/\p i) μ i0 ⟨s,fV.refl _ _,h1,h2,h3⟩ fun i s hI=> ?_;obtain⟨s0,hg,h1,h2,h3⟩:=hI;refine jX ?_ hg
 have hr:=(l5 fB c _ _ hok (round i h3)).mono (Q':=jq (fun s'=>∃j,μ j<μ i/\∃s0,fV N s' s0/\ts.map (look s0.tm)=f j/\s0.st=g j/\p j) Q) fun e s' h=>by
  cases e with
  |normal=>
   obtain⟨j,s0,a1,a2,a3,a4,a5⟩:=h;exact⟨j,a1,s0,a2,a3,a4,a5⟩
  |_=>exact h
 obtain⟨tm,st⟩:=s0;simp only at h1 h2;subst h2;rw[<-h1] at hr;exact TV hr fun t=>vI _ ts t
theorem rA(T:List TypeId){f:FuncId}{fn:Func}{c:Code}{args:List V}{post:V->Store->Prop}{rs:List ResultVar}(fB:P.follows .mixedOrders=true)(hf:P.funcs[f]? =some fn)(hN:fn.ntmps=N)
 (hb:fn.body=some c) (hn:(fn.name== "runtime.NumGoroutine")=false) (hr:fn.results.toList=rs) (hl:Nat.ble args.length N=true) (hok:mq T N c=true)
 (h:lD P N T c (Gt P rs post) ⟨kG (args.map (V.up 1)) 0,[]::S⟩):bD P f args S post:=by
 subst hN;subst hr;exact oo hf hb hn (Nat.le_of_ble_eq_true hl) (yU ru (l5 fB c _ _ hok h))
end
attribute [go_sem ↓] adW abf U2 abg X9 abh adX abj abk X6 U0 U1 Q7
attribute [go_sem] abd Ca X7 Ll X8 afy
def xB(x:Int):List D:=[.i .u8 x]
theorem OP(a:Int):0<=Ag .i64 a 255/\Ag .i64 a 255<=255:=by
 have h:(BitVec.ofInt IntKind.i64.bits a &&& BitVec.ofInt IntKind.i64.bits 255).toNat<=255:=by
  rw[BitVec.toNat_and];refine Nat.le_trans Nat.and_le_right ?_;decide
 unfold Ag;rw[IntWalk.i64_in _ (by omega)];omega
structure Bytes(bs:List Int):Prop where
 len:bs.length<=1048576
 rng:∀x∈bs,0<=x/\x<=255
structure Cu(bs:List Int) where
 i:Int
 h:Int
 lo:0<=i
 hi:i<=bs.length
def cur{bs:List Int}(c:Cu bs):List C:=[.d (.sl (bs.map xB)),.d (.i .i64 c.i),.d (.i .i64 c.h)]
def hN(h:Int):Int:=IntKind.i64.wrap (IntKind.i64.wrap (h*6364136223846793005)+1442695040888963407)
def Fb(h:Int):Int:=Ag .i64 (Nk .i64 (Gg .i64 (hN h) 33) (Gg .i64 (hN h) 45)) 255
def fE{bs:List Int}(c:Cu bs):Int×Cu bs:=
 if h:c.i<bs.length then(Ag .i64 (Fb c.h+bs.getD c.i.toNat 0) 255,⟨c.i+1,hN c.h,by have:=c.lo;omega,by omega⟩) else(Fb c.h,⟨c.i,hN c.h,c.lo,c.hi⟩)
theorem mU{bs:List Int}(c:Cu bs):0<=(fE c).1/\(fE c).1<=255:=by
 unfold fE;split
 ·exact OP _
 ·exact OP _
def eU{bs:List Int}(n:Int)(c:Cu bs):Int×Cu bs:=((fE c).1.tmod n,(fE c).2)
theorem rP{bs:List Int}{n:Int}(c:Cu bs)(h:1<=n):0<=(eU n c).1/\(eU n c).1<n:=
 ⟨Int.tmod_nonneg _ (mU c).1,Int.tmod_lt_of_pos _ (by omega)⟩
def bT{bs:List Int}(n:Int)(c:Cu bs):Bool×Cu bs:=(decide ((eU n c).1=0),(eU n c).2)
def gq{bs:List Int}(xs:List (List UInt8))(c:Cu bs):List UInt8×Cu bs:=(xs.getD (eU xs.length c).1.toNat [],(eU xs.length c).2)
theorem Ya{bs:List Int}{xs:List (List UInt8)}(c:Cu bs)(h:1<=xs.length):(gq xs c).1∈xs:=by
 have:=rP (n:=xs.length) c (by omega);unfold gq
 have hi:(eU (xs.length:Int) c).1.toNat<xs.length:=by omega
 simp only[List.getD,List.getElem?_eq_getElem hi,Option.getD_some];exact List.getElem_mem hi
theorem wO{bs:List Int}(hB:Bytes bs)(c:Cu bs)(l j:Nat)(S:Store)(hk:aR S (l,j)=some (.box (cur c))):
 bD prog 161 [.c (.ptr (l,j) 0)] S (fun r S'=>r=.c (.d (.i .i64 (fE c).1))/\S'=aT S (l,j) (.box (cur (fE c).2))):=by
 have h0:0<=Fb c.h/\Fb c.h<=255:=OP _;have hl:=hB.len;have g:∀x:Ab.Obj,aR (aT S (l,j) x) (l,j)=some x:=fun x=>cB _ _ _ _ hk;obtain⟨i,h,lo,hi⟩:=c;simp only at h0;by_cases hlt:i<bs.length
 ·have hb:=hB.rng (bs[i.toNat]'(by omega)) (List.getElem_mem _);have h1:decide (i<(bs.length:Int))=true:=decide_eq_true hlt
  have e:bs.getD i.toNat 0=bs[i.toNat]'(by omega):=by simp[List.getD,(show i.toNat<bs.length by omega)]
  rw[fE,dif_pos hlt];simp only[e]
  unfold Fb hN at *
  refine zcx [.tmp 2] func161 ntmps161 ?_;simp -implicitDefEqProofs (disch:=omega) only[go_sem,hk,cur,g,aH,h1,xB]
  (repeat(with_reducible refine And.intro ?_ ?_;focus first|omega|rfl|assumption|exact⟨_,rfl,rfl⟩|(simp;omega)|(simp;done)))
  all_goals first|exact⟨rfl,rfl⟩|rfl|omega
 ·have h1:decide (i<(bs.length:Int))=false:=decide_eq_false hlt;rw[fE,dif_neg hlt]
  unfold Fb hN at *
  refine zcx [.tmp 2] func161 ntmps161 ?_;simp -implicitDefEqProofs (disch:=omega) only[go_sem,hk,cur,g,aH,h1,xB]
  first|done|exact⟨rfl,rfl⟩|rfl
theorem lV{bs:List Int}(hB:Bytes bs)(c:Cu bs)(l j:Nat)(S:Store)(n:Int)(hk:aR S (l,j)=some (.box (cur c)))(h1:1<=n)(h2:n<=256):
 bD prog 92 [.c (.ptr (l,j) 0),.c (.d (.i .i64 n))] S (fun r S'=>r=.c (.d (.i .i64 (eU n c).1))/\S'=aT S (l,j) (.box (cur (eU n c).2))):=by
 have hx:=mU c;have d1:decide (n<=0)=false:=decide_eq_false (by omega);have d2:decide (n<=256)=true:=decide_eq_true h2;refine zcx [.tmp 4] func92 ntmps92 ?_;simp -implicitDefEqProofs (disch:=omega) only[go_sem,d1,d2];refine bB rfl (wO hB c (1+l) j ([]::S) (by rw[cu];exact hk)) ?_;simp -implicitDefEqProofs (disch:=omega) only[go_sem,aJ]
 (repeat(with_reducible refine And.intro ?_ ?_;focus first|omega|rfl|assumption|exact⟨_,rfl,rfl⟩|(simp;omega)|(simp;done)))
 first|done|exact⟨rfl,rfl⟩|rfl
theorem jJ{bs:List Int}(hB:Bytes bs)(c:Cu bs)(l j:Nat)(S:Store)(n:Int)(hk:aR S (l,j)=some (.box (cur c)))(h1:1<=n)(h2:n<=256):
 bD prog 136 [.c (.ptr (l,j) 0),.c (.d (.i .i64 n))] S (fun r S'=>r=.c (.d (.b (bT n c).1))/\S'=aT S (l,j) (.box (cur (bT n c).2))):=by
 refine zcx [.tmp 4] func136 ntmps136 ?_;simp -implicitDefEqProofs (disch:=omega) only[go_sem];refine bB rfl (lV hB c (1+l) j ([]::S) n (by rw[cu];exact hk) h1 h2) ?_;simp -implicitDefEqProofs (disch:=omega) only[go_sem,aJ]
 first|done|exact⟨rfl,rfl⟩|rfl
theorem ku{bs:List Int}(hB:Bytes bs)(c:Cu bs)(l j:Nat)(S:Store)(xs:List (List UInt8))(hk:aR S (l,j)=some (.box (cur c)))(h1:1<=xs.length)(h2:xs.length<=256):
 bD prog 88 [.c (.ptr (l,j) 0),.c (.d (.sl (xs.map encS)))] S (fun r S'=>r=.c (.d (.s (gq xs c).1))/\S'=aT S (l,j) (.box (cur (gq xs c).2))):=by
 have hx:=rP (n:=xs.length) c (by omega);refine zcx [.tmp 4] func88 ntmps88 ?_;simp -implicitDefEqProofs (disch:=omega) only[go_sem,encS];refine bB rfl (lV hB c (1+l) j ([]::S) xs.length (by rw[cu];exact hk) (by omega) (by omega)) ?_
 have hi:(eU (xs.length:Int) c).1.toNat<xs.length:=by omega
 have e:(gq xs c).1=xs[(eU (xs.length:Int) c).1.toNat]:=by simp only[gq,List.getD,List.getElem?_eq_getElem hi,Option.getD_some]
 simp -implicitDefEqProofs (disch:=omega) only[go_sem,encS,aJ]
 (repeat(with_reducible refine And.intro ?_ ?_;focus first|omega|rfl|assumption|exact⟨_,rfl,rfl⟩|(simp;omega)|(simp;done)))
 rw[e]
 first|done|exact⟨rfl,rfl⟩|rfl
def acK(S:Store)(os:List Obj):Store:=match S with
 |fr::Ω=>(fr++os)::Ω
 |[]=>[]
def OQ(S:Store):Nat:=match S with
 |fr::_=>fr.length
 |[]=>0
def IX(S:Store):Bool:=match S with
 |_::_=>true
 |[]=>false
theorem IY{fr:List Obj}{Ω:Store}{os:List Obj}:acK (fr::Ω) os=(fr++os)::Ω:=rfl
theorem zO{fr:List Obj}{Ω:Store}:OQ (fr::Ω)=fr.length:=rfl
theorem Q8{fr:List Obj}{Ω:Store}:IX (fr::Ω)=true:=rfl
theorem U3{k:Key}{x:Obj}:∀{S:Store},IX (aT S k x)=IX S
 |[]=>rfl
 |fr::S=>by
  obtain⟨l,j⟩:=k;cases l<;>rfl
theorem abm{k:Key}{x:Obj}:∀{S:Store},OQ (aT S k x)=OQ S
 |[]=>rfl
 |fr::S=>by
  obtain⟨l,j⟩:=k;cases l
  ·show(fr.set j x).length=fr.length
   simp
  ·rfl
def uS(P:Program)(f:FuncId)(args:List V)(S:Store)(raw:V->List Obj->Store->Prop):Prop:=
 Known P f/\∀w σ β vs,dH w σ S β->nI w σ S β args vs->
  Calls P f vs.toArray w fun e w'=>∃v r own S1 bo β1 σ',e=.returned v/\dH w' σ' (own::S1) (bo::β1)/\Keep S β S1 β1/\Step S β σ w (own::S1) (bo::β1) σ' w'/\bV w' σ' (own::S1) (bo::β1) r v/\raw r own S1
def U4(P:Program)(rs:List ResultVar)(raw:V->List Obj->Store->Prop)(e:Exit)(s:St):Prop:=
 match e with
 | .normal| .ret=>(mO P rs s).1/\match s.st with
   |own::S1=>raw (mO P rs s).2 own S1
   |[]=>False
 |_=>False
section
variable {P:Program} {N:Nat} {s:St} {S:Store}
theorem Yb{f:FuncId}{fn:Func}{c:Code}{args:List V}{raw:V->List Obj->Store->Prop}(hf:P.funcs[f]? =some fn)(hb:fn.body=some c)(hn:(fn.name== "runtime.NumGoroutine")=false)
 (hl:args.length<=fn.ntmps)(h:AW P fn.ntmps c (U4 P fn.results.toList raw) ⟨kG (args.map (V.up 1)) 0,[]::S⟩):uS P f args S raw:=by
 refine⟨⟨fn,hf,hn,by simp[hb]⟩,fun w σ β vs hS hargs=> ?_⟩;refine calls_of_wp hf hb ?_;have hlen:vs.length=args.length:=hargs.1.symm
 have NZ:jc fn.ntmps ⟨kG (args.map (V.up 1)) 0,[]::S⟩ {tmps:=vs.toArray++Array.replicate (fn.ntmps-vs.toArray.size) undef,defers:=[]} w σ ([]::β):=by
  refine⟨by simp;omega,rfl,hS.up1,fun t=> ?_⟩;show bV w σ ([]::S) ([]::β) (look (kG (args.map (V.up 1)) 0) t) _;rw[yc,if_pos (Nat.zero_le _),Nat.sub_zero,List.getElem?_map]
  cases ha:args[t]? with
  |none=>exact trivial
  |some x=>
   obtain⟨v,hv,hr⟩:=hargs.2 t x ha;have ht:=(List.getElem?_eq_some_iff.1 hv).1
   have:(vs.toArray++Array.replicate (fn.ntmps-vs.toArray.size) undef).getD t undef=v:=by
    rw[Array.getD_eq_getD_getElem?,Array.getElem?_append_left (by simpa using ht)];simp[hv]
   rw[this];exact ER (S:=[]::S) (β:=[]::β) 1 hr
 refine wp_mono (h _ w σ ([]::β) NZ) ?_;rintro e a' w' ⟨s',σ',β',hR,hst,hkp,hq⟩
 have main:((mO P fn.results.toList s').1/\match s'.st with
  |own::S1=>raw (mO P fn.results.toList s').2 own S1
  |[]=>False)->
   a'.defers=[]/\∃v,(results fn a'.tmps).run P w'=.ok v w'/\∃v1 r own S1 bo β1 σ',Ending.returned v=Ending.returned v1/\dH w' σ' (own::S1) (bo::β1)/\Keep S β S1 β1/\Step S β σ w (own::S1) (bo::β1) σ' w'/\bV w' σ' (own::S1) (bo::β1) r v1/\raw r own S1:=by
  rintro⟨q1,q2⟩;obtain⟨v,hv,hrep⟩:=Dr (fn:=fn) hR q1;obtain⟨tm,st⟩:=s';simp only at q2;split at q2
  ·rename_i own S1;obtain⟨bo,β1,rfl,hlo⟩:=frames hR;have hst':Step ([]::S) ([]::β) σ w (own::S1) (bo::β1) σ' w':=hst;exact⟨hR.defers,v,hv,v,_,own,S1,bo,β1,σ',rfl,hR.S,hkp,⟨hst'.size,hst'.os,hst'.output,fun b hb ho=>hst'.far b hb (fun x=>ho (yE x)),hst'.near,fun b hb=>(hst'.own b hb).imp yE id⟩,hrep,q2⟩
  ·exact q2.elim
 cases e with
 |normal=>exact main hq
 |ret=>exact main hq
 |_=>exact hq.elim
def OT(P:Program)(rs:List ResultVar)(raw:V->List Obj->Store->Prop)(s:St)(r:R):Prop:=r.1/\match s.st with
 |own::S1=>raw r.2 own S1
 |[]=>False
@[congr] theorem ahg {rs:List ResultVar} {raw:V->List Obj->Store->Prop} {s s':St} {r r':R} (h1:s=s') (h2:r=r'):OT P rs raw s r=OT P rs raw s' r':=by rw[h1,h2]
theorem abn{rs:List ResultVar}{raw:V->List Obj->Store->Prop}{tm:List (Nat×V)}{S:Store}:U4 P rs raw .ret ⟨tm,S⟩=OT P rs raw ⟨tm,S⟩ (mO P rs ⟨tm,S⟩):=rfl
theorem Q9{rs:List ResultVar}{raw:V->List Obj->Store->Prop}{tm:List (Nat×V)}{S:Store}:U4 P rs raw .normal ⟨tm,S⟩=OT P rs raw ⟨tm,S⟩ (mO P rs ⟨tm,S⟩):=rfl
theorem adY{rs:List ResultVar}{raw:V->List Obj->Store->Prop}{tm:List (Nat×V)}{own:List Obj}{S1:Store}{p:Prop}{v:V}:OT P rs raw ⟨tm,own::S1⟩ (p,v)=(p/\raw v own S1):=rfl
theorem OU{f:FuncId}{fn:Func}{c:Code}{args:List V}{raw:V->List Obj->Store->Prop}{rs:List ResultVar}(fB:P.follows .mixedOrders=true)(hf:P.funcs[f]? =some fn)(hN:fn.ntmps=N)
 (hb:fn.body=some c) (hn:(fn.name== "runtime.NumGoroutine")=false) (hr:fn.results.toList=rs) (hl:Nat.ble args.length N=true) (hok:codeOk N c=true)
 (h:CW P N c (U4 P rs raw) ⟨kG (args.map (V.up 1)) 0,[]::S⟩):uS P f args S raw:=by
 subst hN;subst hr;exact Yb hf hb hn (Nat.le_of_ble_eq_true hl) (jB fB c _ _ hok h)
theorem uS.mono{f:FuncId}{args:List V}{raw raw':V->List Obj->Store->Prop}(h:uS P f args S raw)(hi:∀r own S1,raw r own S1->raw' r own S1):uS P f args S raw':=
 ⟨h.1,fun w σ β vs hS hv=>(h.2 w σ β vs hS hv).mono fun e w' ⟨v,r,own,S1,bo,β1,σ',q1,q2,q3,q4,q5,q6⟩=>⟨v,r,own,S1,bo,β1,σ',q1,q2,q3,q4,q5,hi _ _ _ q6⟩⟩
end
def DU(own:List Obj)(x:C)(z:Nat)(es:List (List D)):Prop:=(∃m,own[m]? =some (.tok z es)/\x=.bG (0,m) es)\/(x=.bA es/\∀e∈es,e.length=z)
section
variable {w:World} {σ:Nat->Nat} {own fr:List Obj} {Ω:Store} {bo bf:List Value} {bΩ:Hs}
theorem zP{S1:Store}{β1:Hs}{x:C}{z:Nat}{es:List (List D)}{v:Value}(h:DU own x z es)(hr:fK w σ (own::S1) (bo::β1) x v):bU w σ (.sl es) v:=by
 rcases h with⟨m,h1,rfl⟩|⟨rfl,_⟩
 ·exact hr.1
 ·exact hr.1
theorem abo{S1:Store}{β1:Hs}{x:C}{z:Nat}{es:List (List D)}{v:Value}(hS:dH w σ (own::S1) (bo::β1))(h:DU own x z es)(hr:fK w σ (own::S1) (bo::β1) x v):
 (∀S' β',fG w σ S' β' (.tok z es) v)/\∀b,owns (.tok z es) v b->∃m,own[m]? =some (.tok z es)/\x=.bG (0,m) es/\bo[m]? =some v:=by
 rcases h with⟨m,h1,rfl⟩|⟨rfl,h2⟩
 ·obtain⟨hd,o,ho,hl⟩:=hr;rw[aY,h1] at ho;cases ho;have hb:=(hl _ _ (.inl rfl)).2 rfl;obtain⟨hv,e1,e2⟩:=hS.obj (0,m) _ (by rw[aY];exact h1);rw[hb] at e1;cases e1;rw[aY] at hb;exact⟨fun _ _=>e2,fun b _=>⟨m,h1,rfl,hb⟩⟩
 ·obtain⟨hd,a,n,rfl⟩:=hr
  have hn:n=es.length:=by cases hd<;>rfl
  subst hn;refine⟨fun _ _=>⟨hd,h2,a,es.length,rfl,Nat.le_refl _,.inl rfl⟩,fun b hb=> ?_⟩
  cases a with
  |none=>cases hb
  |some a=>simp[owns,blk] at hb
end
def ze(cs:List C):Bool:=cs.all fun c=>match c with
 | .d _=>true
 |_=>false
theorem IZ{w:World}{σ:Nat->Nat}{S S':Store}{β β':Hs}{c:C}{v:Value}(h:(match c with
 | .d _=>true
 |_=>false)=true) (hr:fK w σ S β c v):fK w σ S' β' c v:=by
 cases c<;>first|exact hr|(cases h;done)
theorem FR{w:World}{σ:Nat->Nat}{S S':Store}{β β':Hs}{pre post:List C}{x x':C}{a:List Value}(h1:ze pre=true)(h2:ze post=true)(hr:d9 w σ S β (pre++x::post) a)
 (hx:∀v,a[pre.length]? =some v->fK w σ S β x v->fK w σ S' β' x' v):d9 w σ S' β' (pre++x'::post) a:=by
 refine⟨by simpa using hr.1,fun j y hy=> ?_⟩;rcases Nat.lt_trichotomy j pre.length with hj|hj|hj
 ·rw[List.getElem?_append_left hj] at hy;obtain⟨v,e1,e2,e3⟩:=hr.2 j y (by rw[List.getElem?_append_left hj];exact hy);exact⟨v,e1,IZ (List.all_eq_true.1 h1 y (List.mem_of_getElem? hy)) e2,e3⟩
 ·subst hj;rw[List.getElem?_append_right (Nat.le_refl _),Nat.sub_self,List.getElem?_cons_zero] at hy;cases hy;obtain⟨v,e1,e2,e3⟩:=hr.2 pre.length x (by rw[List.getElem?_append_right (Nat.le_refl _),Nat.sub_self];rfl);exact⟨v,e1,hx v e1 e2,e3⟩
 ·rw[List.getElem?_append_right (by omega),show j-pre.length=(j-pre.length-1)+1 by omega,List.getElem?_cons_succ] at hy;obtain⟨v,e1,e2,e3⟩:=hr.2 j y (by rw[List.getElem?_append_right (by omega),show j-pre.length=(j-pre.length-1)+1 by omega,List.getElem?_cons_succ];exact hy);exact⟨v,e1,IZ (List.all_eq_true.1 h2 y (List.mem_of_getElem? hy)) e2,e3⟩
section
variable {P:Program} {S S':Store} {f:FuncId} {args:List V}
theorem uS.plain{pre post:List C}{z:Nat}{es:List (List D)}(h1:ze pre=true)(h2:ze post=true)(h:uS P f args S fun r own S1=>S1=S'/\∃x,r=.agg (pre++x::post)/\DU own x z es):
 bD P f args S fun r S1=>r=.agg (pre++ .d (.sl es)::post)/\S1=S':=by
 refine⟨h.1,fun w σ β vs hS hv=>(h.2 w σ β vs hS hv).mono fun e w' ⟨v,r,own,S1,bo,β1,σ',q1,q2,q3,q4,q5,q6,x,q7,q8⟩=> ?_⟩;subst q6 q7;obtain⟨a,rfl,hc⟩:=q5;exact⟨_,.agg (pre++ .d (.sl es)::post),S1,σ',β1,q1,q2.Ik,q3,⟨q4.size,q4.os,q4.output,q4.far,q4.near,fun b hb=>q4.own b (wG hb)⟩,⟨a,rfl,FR h1 h2 hc fun v e1 e2=>zP q8 e2⟩,rfl,rfl⟩
theorem uS.push{pre post:List C}{z:Nat}{es:List (List D)}(h1:ze pre=true)(h2:ze post=true)(ht:IX S'=true)(h:uS P f args S fun r own S1=>S1=S'/\∃x,r=.agg (pre++x::post)/\DU own x z es):
 bD P f args S fun r S1=>r=.agg (pre++ .bG (0,OQ S') es::post)/\S1=acK S' [.tok z es]:=by
 refine⟨h.1,fun w σ β vs hS hv=>(h.2 w σ β vs hS hv).mono fun e w' ⟨v,r,own,S1,bo,β1,σ',q1,q2,q3,q4,q5,q6,x,q7,q8⟩=> ?_⟩;subst q6 q7;obtain⟨a,rfl,hc⟩:=q5;obtain⟨u,e1,e2,e3⟩:=hc.2 pre.length x (by rw[List.getElem?_append_right (Nat.le_refl _),Nat.sub_self];rfl);obtain⟨k1,k2⟩:=abo q2 q8 e2
 cases S1 with
 |nil=>cases ht
 |cons fr Ω=>
 have hd:=q2.Ik
 obtain⟨bf,bΩ,rfl,hlen⟩:∃bf bΩ,β1=bf::bΩ/\bf.length=fr.length:=by
  cases β1 with
  |nil=>have:=hd.shape.1;simp at this
  |cons bf bΩ=>
   refine⟨bf,bΩ,rfl,?_⟩;obtain⟨gr,q1,q2⟩:=hd.shape.2 0 fr rfl;simp at q1;rw[q1];exact q2
 obtain⟨l1,l2,l3⟩:=hd.lay (o:=.tok z es) (h:=u) hlen (k1 _ _) fun b hb ⟨k,o,hh,f1,f2,f3⟩=>by
  obtain⟨m,g1,g2,g3⟩:=k2 b hb;have:=q2.apart (0,m) (k.1+1,k.2) _ o u hh b (by rw[aY];exact g1) (by rw[aY];exact g3) hb (by rw[bF];exact f1) (by rw[bF];exact f2) f3;cases this
 refine⟨_,.agg (pre++ .bG (0,OQ (fr::Ω)) es::post),_,σ',_,q1,l1,q3.trans l2,⟨q4.size,q4.os,q4.output,q4.far,q4.near,fun b hb=> ?_⟩,⟨a,rfl,FR h1 h2 hc fun v f1 f2=> ?_⟩,rfl,rfl⟩
 ·rcases l3 b hb with q|q
  ·exact q4.own b (wG q)
  ·obtain⟨m,g1,g2,g3⟩:=k2 b q;exact q4.own b ⟨(0,m),_,u,by rw[aY];exact g1,by rw[aY];exact g3,q⟩
 ·rw[e1] at f1;cases f1;refine⟨zP q8 e2,_,by rw[zO];exact bq _ _ _,fun aN es' e=> ?_⟩;obtain⟨_,rfl⟩:=kL (lab:=none) e;exact⟨Nat.le_refl _,fun _=>by rw[zO,<-hlen,bq]⟩
end
attribute [go_sem ↓] abn Q9
attribute [go_sem] adY IY zO Q8 U3 abm
def U5(s:List UInt8):ak:=.mk 1 s []
def U6(s:List UInt8)(l:List ak):ak:=.mk 2 s l
def oU(l:List (List UInt8)):Prop:=∀s∈l,s.length<=8
theorem wP{bs:List Int}{xs:List (List UInt8)}(c:Cu bs)(h:oU xs):(gq xs c).1.length<=8:=by
 by_cases h1:1<=xs.length
 ·exact h _ (Ya c h1)
 ·have:xs=[]:=List.eq_nil_of_length_eq_zero (by omega);subst this;simp[gq]
theorem Yc(s:List UInt8):(U5 s).sz=s.length:=by simp[U5,ak.sz,ak.aB,bN,D.sz,bC,ak.fName,ak.fArgs]
theorem ad3(s:List UInt8):(U6 s []).sz=s.length:=by simp[U6,ak.sz,ak.aB,bN,D.sz,bC,ak.fName,ak.fArgs]
def tyP(t:ak):List C:=[.d (.i .i64 t.aL),.d (.s t.fName)]
theorem Yd(t:ak):ze (tyP t)=true:=rfl
def acL(t:ak)(S':Store)(r:V)(own:List Obj)(S1:Store):Prop:=S1=S'/\∃x,r=.agg (tyP t++x::[])/\DU own x 3 (t.fArgs.map ak.enc)
theorem abp(l:List ak):∀y∈l.map ak.enc,y.length=3:=by
 intro y hy;obtain⟨x,_,rfl⟩:=List.mem_map.1 hy;rw[ak.aB];rfl
theorem sQ(s:List UInt8):aG prog 89 [.c (.d (.s s))] (.agg [.d (.i .i64 1),.d (.s s),.bA []]):=fun S=>by
 refine zcx [.cell 2 29] func89 ntmps89 ?_;simp -implicitDefEqProofs (disch:=omega) only[go_sem]
 first|done|exact⟨rfl,rfl⟩|rfl
theorem Ye(s:List UInt8)(l:List ak){es:List (List D)}(he:es=l.map ak.enc)(hl:l.length<=1048576){a:C}(ha:a=.d (.sl es)\/a=.bA es)(S:Store):uS prog 140 [.c (.d (.s s)),.c a] S (acL (U6 s l) S):=by
 subst he;refine OU (rs:=[.cell 4 29]) zmx func140 ntmps140 rfl rfl rfl rfl rfl ?_;have hln:=abp l;rcases ha with rfl|rfl
 all_goals
  simp -implicitDefEqProofs (disch:=omega) only[go_sem];refine⟨hln,⟨_,rfl,rfl⟩,fun y hy=>absurd hy List.not_mem_nil,by omega,rfl,_,rfl,.inl ⟨1,rfl,rfl⟩⟩
theorem Ra{f:FuncId}{args:List V}{S S':Store}{t:ak}(h:uS prog f args S (acL t S')):bD prog f args S (fun r S1=>r=.agg [.d (.i .i64 t.aL),.d (.s t.fName),.d (.sl (t.fArgs.map ak.enc))]/\S1=S'):=
 uS.plain (Yd t) rfl h
theorem abq(s:List UInt8)(l:List ak){es:List (List D)}(he:es=l.map ak.enc)(hl:l.length<=1048576){a:C}(ha:a=.d (.sl es)\/a=.bA es):aG prog 140 [.c (.d (.s s)),.c a] (.agg [.d (.i .i64 2),.d (.s s),.d (.sl es)]):=fun S=>by
 have:=Ra (Ye s l he hl ha S);rw[he];exact this
def zf:ak:=U6 [105,110,116] []
theorem zh:aG prog 90 [] zf.v:=fun S=>by
 refine zcx [.cell 0 29] func90 ntmps90 ?_;simp -implicitDefEqProofs (disch:=omega) only[go_sem];refine au (abq [105,110,116] [] rfl (Nat.zero_le _) (.inl rfl)) ?_;simp -implicitDefEqProofs (disch:=omega) only[go_sem]
 first|done|exact⟨rfl,rfl⟩|rfl
section
variable {w:World} {σ:Nat->Nat}
def M9:C->Option D
 | .d d=>some d
 | .bA es=>some (.sl es)
 | .bG _ es=>some (.sl es)
 |_=>none
theorem Yf{S S':Store}{β β':Hs}{c:C}{d:D}{v:Value}(h:M9 c=some d)(hr:fK w σ S β c v):fK w σ S' β' (.d d) v:=by
 cases c<;>simp only[M9,Option.some.injEq] at h<;>first|(cases h;done)|(subst h;first|exact hr|exact hr.1)
theorem OV{S S':Store}{β β':Hs}{pre:List C}{ds:List D}{x x' y y':C}{a:List Value}(h1:pre.map M9=ds.map some)(hr:d9 w σ S β (pre++[x,y]) a)
 (hx:∀v,a[pre.length]? =some v->fK w σ S β x v->fK w σ S' β' x' v)(hy:∀v,a[pre.length+1]? =some v->fK w σ S β y v->fK w σ S' β' y' v):d9 w σ S' β' (ds.map .d++[x',y']) a:=by
 have hl:pre.length=ds.length:=by have:=congrArg List.length h1;simpa using this
 refine⟨by have:=hr.1;simp only[List.length_append,List.length_map,List.length_cons,List.length_nil,hl] at this ⊢;exact this,fun j c hc=> ?_⟩;rcases Nat.lt_or_ge j pre.length with hj|hj
 ·rw[List.getElem?_append_left (by simp;omega),List.getElem?_map] at hc;obtain⟨d,hd,rfl⟩:=Option.map_eq_some_iff.1 hc;have hp:=congrArg (fun l=>l[j]?) h1;simp only[List.getElem?_map,hd,Option.map_some,List.getElem?_eq_getElem hj] at hp;obtain⟨v,e1,e2,e3⟩:=hr.2 j pre[j] (by rw[List.getElem?_append_left hj,List.getElem?_eq_getElem hj]);exact⟨v,e1,Yf (Option.some.inj hp) e2,e3⟩
 obtain⟨k,rfl⟩:∃k,j=pre.length+k:=⟨j-pre.length,by omega⟩;rw[List.getElem?_append_right (by simp;omega),List.length_map,<-hl,Nat.add_sub_cancel_left] at hc
 match k,hc with
 |0,hc=>
  cases hc;obtain⟨v,e1,e2,e3⟩:=hr.2 pre.length x (by rw[List.getElem?_append_right (Nat.le_refl _),Nat.sub_self];rfl);exact⟨v,e1,hx v e1 e2,e3⟩
 |1,hc=>
  cases hc;obtain⟨v,e1,e2,e3⟩:=hr.2 (pre.length+1) y (by rw[List.getElem?_append_right (by omega),Nat.add_sub_cancel_left];rfl);exact⟨v,e1,hy v e1 e2,e3⟩
 |k+2,hc=>simp at hc
end
section
variable {P:Program} {S S':Store} {f:FuncId} {args:List V}
def Two(ds:List D)(z z':Nat)(es es':List (List D))(S':Store)(r:V)(own:List Obj)(S1:Store):Prop:=S1=S'/\∃pre x y,r=.agg (pre++[x,y])/\pre.map M9=ds.map some/\DU own x z es/\DU own y z' es'
theorem uS.afz{ds:List D}{z z':Nat}{es es':List (List D)}(h:uS P f args S (Two ds z z' es es' S')):
 bD P f args S fun r S1=>r=.agg (ds.map .d++[.d (.sl es),.d (.sl es')])/\S1=S':=by
 refine⟨h.1,fun w σ β vs hS hv=>(h.2 w σ β vs hS hv).mono fun e w' ⟨v,r,own,S1,bo,β1,σ',q1,q2,q3,q4,q5,q6,pre,x,y,q7,h1,q8,q9⟩=> ?_⟩;subst q6 q7;obtain⟨a,rfl,hc⟩:=q5;exact⟨_,.agg (ds.map .d++[.d (.sl es),.d (.sl es')]),S1,σ',β1,q1,q2.Ik,q3,⟨q4.size,q4.os,q4.output,q4.far,q4.near,fun b hb=>q4.own b (wG hb)⟩,⟨a,rfl,OV (x':=.d (.sl es)) (y':=.d (.sl es')) h1 hc (fun v e1 e2=>zP q8 e2) (fun v e1 e2=>zP q9 e2)⟩,rfl,rfl⟩
end
def zT:ak:=.mk 0 [] []
def xC(n:Int):ay:=.mk 1 [] [] n zT [] []
def abt(s:List UInt8):ay:=.mk 3 [] s 0 zT [] []
def Sq(k:Int)(s:List UInt8)(l:List ay):ay:=.mk k [] s 0 zT l []
theorem oU.append{a b:List (List UInt8)}(h:oU a)(k:oU b):oU (a++b):=fun s hs=>(List.mem_append.1 hs).elim (h s) (k s)
theorem DV(k:Int)(t s:List UInt8)(n:Int)(ty:ak)(a:List ay)(b:List aM):(ay.mk k t s n ty a b).sz=t.length+s.length+ty.sz+a.length+bC (a.map ay.enc)+b.length+bC (b.map aM.enc):=by
 have:=ak.dQ ty;simp only[ay.sz,ay.aB,bN,bR,D.sz,List.length_map,ay.aL,ay.bE,ay.fName,ay.fN,ay.fType,ay.fArgs,ay.aK,this];omega
theorem I4:zT.sz=0:=by simp[zT,ak.sz,ak.aB,bN,D.sz,bC,ak.fName,ak.fArgs]
def exP(t:ay):List D:=[.i .i64 t.aL,.s t.bE,.s t.fName,.i .i64 t.fN,.i .i64 t.fType.aL,.s t.fType.fName,.sl (t.fType.fArgs.map ak.enc)]
def acM(t:ay)(S':Store):V->List Obj->Store->Prop:=Two (exP t) 9 11 (t.fArgs.map ay.enc) (t.aK.map aM.enc) S'
theorem abu(l:List ay):∀y∈l.map ay.enc,y.length=9:=by
 intro y hy;obtain⟨x,_,rfl⟩:=List.mem_map.1 hy;exact ay.bI x
theorem Lm(n:Int):aG prog 142 [.c (.d (.i .i64 n))] (.agg [.d (.i .i64 1),.d (.s []),.d (.s []),.d (.i .i64 n),.d (.i .i64 0),.d (.s []),.bA [],.bA [],.bA []]):=fun S=>by
 refine zcx [.cell 2 33] func142 ntmps142 ?_;simp -implicitDefEqProofs (disch:=omega) only[go_sem]
 first|done|exact⟨rfl,rfl⟩|rfl
theorem Lp(s:List UInt8):aG prog 91 [.c (.d (.s s))] (.agg [.d (.i .i64 3),.d (.s []),.d (.s s),.d (.i .i64 0),.d (.i .i64 0),.d (.s []),.bA [],.bA [],.bA []]):=fun S=>by
 refine zcx [.cell 2 33] func91 ntmps91 ?_;simp -implicitDefEqProofs (disch:=omega) only[go_sem]
 first|done|exact⟨rfl,rfl⟩|rfl
theorem DW(k:Int)(s:List UInt8)(l:List ay){es:List (List D)}(he:es=l.map ay.enc)(hl:l.length<=1048576){a:C}(ha:a=.d (.sl es)\/a=.bA es)(S:Store):uS prog 149 [.c (.d (.i .i64 k)),.c (.d (.s s)),.c a] S (acM (Sq k s l) S):=by
 subst he;refine OU (rs:=[.cell 6 33]) zmx func149 ntmps149 rfl rfl rfl rfl rfl ?_;have hln:=abu l;rcases ha with rfl|rfl
 all_goals
  simp -implicitDefEqProofs (disch:=omega) only[go_sem];refine⟨hln,⟨_,rfl,rfl⟩,fun y hy=>absurd hy List.not_mem_nil,by omega,rfl,[_,_,_,_,_,_,_],_,_,rfl,rfl,.inl ⟨1,rfl,rfl⟩,.inr ⟨rfl,fun e he=>by cases he⟩⟩
theorem Ao{f:FuncId}{args:List V}{S S':Store}{t:ay}(h:uS prog f args S (acM t S')):bD prog f args S (fun r S1=>r=t.v/\S1=S'):=
 uS.afz h
end Go.Ab