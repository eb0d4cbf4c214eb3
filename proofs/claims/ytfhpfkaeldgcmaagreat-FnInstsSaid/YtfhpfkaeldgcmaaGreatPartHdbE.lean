/-
  SEVERAL TEXTS IN ONE (merged by program): contracts and models, each with its own heading.
-/
import Derived.Test.YtfhpfkaeldgcmaaGreatPartHdbD
set_option linter.unusedSimpArgs false
set_option linter.unusedVariables false
namespace Go.Ab
def ajH(T:List TypeId):Op->Bool
 | .call {callee:=.value _,args:=_,argTypes:=ts}=> !(ts.toList.all fun t=>T.all fun u=> !(t==u))
 |_=>false
def rP(T:List TypeId)(R:Array Oper):Md:=fun op=>match xW R 0 op with
 |0=>if ajH T op then 3 else 0
 |m=>m
def CU:V->Option Key
 | .c (.ptr k _)=>some k
 | .c (.kI k _ _)=>some k
 | .c (.iH k)=>some k
 | .c (.mp k)=>some k
 | .c (.xp k _ _)=>some k
 | .c (.xq k _ _ _ _ _)=>some k
 |_=>none
theorem Nc{v:V}{k:Key}(h:GI v k):CU v=some k:=by
 rcases h with⟨_,rfl⟩|⟨_,_,rfl⟩|rfl|rfl|⟨_,_,rfl⟩|⟨_,_,_,_,_,rfl⟩<;>rfl
def Wp:Key->Key->Bool
 |(0,a),(0,b)=>a !=b
 |(0,_),(_+1,_)=>true
 |(_+1,_),(0,_)=>true
 |_,_=>false
theorem acJ{k k':Key}(h:Wp k k'=true):k≠k':=by
 rintro rfl;obtain⟨l,j⟩:=k;cases l<;>simp[Wp] at h
def Wq(v w:V):Bool:=match CU v,CU w with
 |some k,some k'=>Wp k k'
 |_,_=>true
def OG:Op->List Operand
 | .store _ a _=>[a]
 | .call {callee:=.value _,args:=Bo,argTypes:=_}=>Bo.toList
 |_=>[]
def GV(R:Array Oper)(i:Nat)(x:Oper)(j:Nat)(y:Oper):Bool:=jk y.op||(match x.op with
 | .store _ _ _=>true
 | .call {callee:=.value _,args:=_,argTypes:=_}=>true
 |_=>false)&&(OG x.op).all (settled R i)&&y.op.operands.toList.all (settled R j)
def FI(T:List TypeId)(R:Array Oper)(p i j:Nat)(x y:Oper):Bool:= !(x.apart R y)||(!(decide (j=p))&&((fI (rP T R) x.op&&fI (rP T R) y.op)||(jU (rP T R) x.op&& !(GV R i x j y))||(jU (rP T R) y.op&& !(GV R j y i x))))
def Au(T:List TypeId)(R:Array Oper)(N p:Nat):Bool:=Fq (rP T R) R p&&
 (List.range R.size).all fun j=>
   (match R[j]? with
    |some o=>o.after.toList.all (fun e=> !Region.binds .any e||decide (e.on<j))&&(match o.dst with|some d=>decide (d<N)|none=>true)
    |none=>true)&&
   (List.range j).all fun i=>
     match R[i]?,R[j]? with
     |some x,some y=>((masks R.toList []).getD j 0).testBit i|| !(FI T R p i j x y)
     |_,_=>true
def alx(T:List TypeId)(R:Array Oper)(N:Nat):Nat:=if Au T R N R.size then R.size else((List.range R.size).find? fun p=>IK R p&&Au T R N p).getD R.size
def Ug(T:List TypeId)(R:Array Oper)(N:Nat):Bool:=Au T R N (alx T R N)
def OH(E:Md)(R:Array Oper)(tm:List (Nat×V)):Bool:=
 (List.range R.size).all fun i=>match R[i]? with
   |some x=> !(jU E x.op)||(OG x.op).all fun a=>(List.range R.size).all fun j=>match R[j]? with
     |some y=>qW R i j||fI E y.op||jk y.op||Vk y.op||y.op.operands.toList.all (fun z=>Wq (ev tm a) (ev tm z))
     |none=>true
   |none=>true
def Mc(vs:List V)(S S':Store):Prop:=∀k,(∃v∈vs,GI v k)\/bg S' k=bg S k
def DV(T:List TypeId)(R:Array Oper)(op:Op)(tm:List (Nat×V))(S S':Store):Prop:=match op with
 | .call {callee:=.value x,args:=Bo,argTypes:=ts}=>rP T R (.call {callee:=.value x,args:=Bo,argTypes:=ts})=3->Mc (CQ tm Bo.toList) S S'
 |_=>True
section
variable {P:Program} {N:Nat} {S:Store} {s:St} {tm:List (Nat×V)} {T:List TypeId} {R:Array Oper}
def x9(P:Program)(T:List TypeId)(R:Array Oper):List Oper->St->(St->Prop)->Prop
 |[],s,K=>K s
 |o::os,s,K=>nT P (rP T R) R o s fun s'=>DV T R o.op s.tm s.st s'.st/\x9 P T R os s' K
theorem Zu{op:Op}(h:2<=rP T R op):rP T R op=3\/(List.range R.size).all (fun i=>match R[i]? with
 |some o=>(yD op !=yD o.op)||LJ R i
 |none=>true)=true:=by
 unfold rP at h ⊢;split at h
 ·rename_i e;split at h
  ·rename_i hc;left;rw[if_pos hc]
  ·omega
 ·rename_i m hm;right;unfold xW at h;split at h
  ·rename_i hq;exact hq
  ·omega
theorem acK{o:Oper}{i j:Nat}(ho:R[i]? =some o)(hj:j<R.size)(hij:i≠j)(h:(List.range R.size).all (fun i=>match R[i]? with
 |some o'=>(yD o.op !=yD o'.op)||LJ R i
 |none=>true)=true):qW R i j=true:=by
 have hi:i<R.size:=(Array.getElem?_eq_some_iff.1 ho).1;have h1:=List.all_eq_true.1 h i (List.mem_range.2 hi);rw[ho] at h1;simp only[bne_self_eq_false,Bool.false_or] at h1;have h2:=List.all_eq_true.1 h1 j (List.mem_range.2 hj);unfold qW;have hne:¬j=i:=fun e=>hij e.symm;simp only[hne,decide_false,Bool.false_or] at h2;by_cases e:i<j
 ·rw[if_pos e];rwa [if_neg (by omega)] at h2
 ·rw[if_neg e];rwa [if_pos (by omega)] at h2
theorem Zv{o:Oper}{s s':St}{v:V}(ht:lg P (rP T R) R o s v s')(hf:DV T R o.op s.tm s.st s'.st)(hc:jk o.op=true)(hm:rP T R o.op=3){k:Key}
 (hk:∀a∈OG o.op,∀k',CU (ev s.tm a)=some k'->k'≠k):bg s'.st k=bg s.st k:=by
 obtain⟨dst,op,ty,pos,after,guard⟩:=o
 cases op with
 |call c=>
  obtain⟨yB,args,ts⟩:=c
  cases yB with
  |value f=>
   rcases hf hm k with⟨v,hv,hr⟩|h
   ·obtain⟨a,ha,rfl⟩:=List.mem_map.1 hv;exact absurd rfl (hk a ha k (Nc hr))
   ·exact h
  |_=>cases hc
 |_=>cases hc
theorem Ws{v w:V}(h:Wq v w=true){k k':Key}(hv:CU v=some k')(hw:GI w k):k'≠k:=by
 unfold Wq at h;rw[hv,Nc hw] at h;exact acJ h
theorem afK{st:Nat->St}{vs:Nat->V}{p:Nat}(hok:Au T R N p=true)
 (hF:∀i,i<R.size->∃o,R[i]? =some o/\lg P (rP T R) R o (st i) (vs i) (st (i+1))/\DV T R o.op (st i).tm (st i).st (st (i+1)).st)(hl:OH (rP T R) R (st R.size).tm=true):JZ (rP T R) R N st p:=by
 unfold Au at hok;rw[Bool.and_eq_true] at hok;have wV:=LM hok.1;obtain⟨hed,h2⟩:=DJ (f:=fun i j x y=>FI T R p i j x y) hok.2
 have hT:∀i,i<R.size->∃o,R[i]? =some o/\lg P (rP T R) R o (st i) (vs i) (st (i+1)):=fun i hi=>by
  obtain⟨o,a,b,_⟩:=hF i hi;exact⟨o,a,b⟩
 refine⟨?_,?_,?_,?_,wV⟩
 ·intro i o e ho he hb;have h2:=hed i o ho;simp only[Bool.and_eq_true] at h2;have h3:=List.all_eq_true.1 h2.1 e (by simpa using he);simpa [hb] using h3
 ·intro i o ho d hd;have h2:=hed i o ho;simp only[Bool.and_eq_true,hd] at h2;simpa using h2.2
 ·intro i j x y hij hx hy hc;rcases h2 i j x y hij hx hy with h|h
  ·exact .inl h
  ·unfold FI at h;unfold lQ at hc;rw[Bool.or_eq_false_iff,Bool.not_eq_false'] at h;rw[h.1] at hc;simp only[Bool.not_true,Bool.false_or] at hc;by_cases e:j=p
   ·exact .inr ⟨e,(Bool.and_eq_true _ _▸hc).1,h.1⟩
   ·have h3:=h.2;simp only[e,decide_false,Bool.not_false,Bool.true_and,Bool.or_eq_false_iff] at h3;rw[hc] at h3;cases h3.1.1
 ·intro i j x o hij hx ho hs hD hc
  have hjp:j≠p:=fun e=>by
   subst e;have:=(sW (E:=rP T R) (wV o ho).1).1;rw[hD] at this;cases this
  have M6:i≠p:=fun e=>by
   subst e;have:=(sW (E:=rP T R) (wV x hx).1).2.1;rw[hs] at this;cases this
  cases hb:qW R i j with
  |true=>exact .inl rfl
  |false=>
   refine .inr ?_;rintro k ⟨hmv,z,hz,hk⟩;have hi:i<R.size:=(Array.getElem?_eq_some_iff.1 hx).1;have hj:j<R.size:=(Array.getElem?_eq_some_iff.1 ho).1
   have hlo:GV R i x j o=true:=by
    unfold qW at hb;by_cases e:i<j
    ·rw[if_pos e] at hb;rcases h2 i j x o e hx ho with h|h
     ·rw[hb] at h;cases h
     ·simp only[FI,hjp,decide_false,Bool.not_false,hs,Bool.true_and,Bool.or_eq_false_iff,Bool.not_eq_false'] at h;exact h.2.1.2
    ·rw[if_neg e] at hb;rcases h2 j i o x (by omega) ho hx with h|h
     ·rw[hb] at h;cases h
     ·simp only[FI,M6,decide_false,Bool.not_false,hs,Bool.true_and,Bool.or_eq_false_iff,Bool.not_eq_false'] at h;exact h.2.2
   unfold GV at hlo;rw[hc,Bool.false_or,Bool.and_eq_true,Bool.and_eq_true] at hlo;obtain⟨⟨hop,hsa⟩,hsy⟩:=hlo
   have hz':z∈o.op.operands.toList:=by simpa using hz
   have hsz:=List.all_eq_true.1 hsy z hz';have h1:=List.all_eq_true.1 hl i (List.mem_range.2 hi);rw[hx] at h1;simp only[hs,Bool.not_true,Bool.false_or] at h1
   have key:∀a∈OG x.op,∀k',CU (ev (st i).tm a)=some k'->k'≠k:=fun a ha k' hk'=>by
    have h3:=List.all_eq_true.1 h1 a ha;have h4:=List.all_eq_true.1 h3 j (List.mem_range.2 hj);rw[ho] at h4;simp only[hb,hD,hc,hmv,Bool.false_or] at h4;have h5:=List.all_eq_true.1 h4 z hz';rw[zA hT (by omega) (List.all_eq_true.1 hsa a ha),zA hT (by omega) hsz] at h5;exact Ws h5 hk' hk
   obtain⟨x',hx',ht,hf⟩:=hF i hi;rw[hx] at hx';cases hx';split at hop
   ·rename_i t a y e;refine H7 e ht fun k' hk'=>key a (by rw[e];exact List.mem_singleton.2 rfl) k' ?_;rcases hk' with⟨_,h⟩|⟨_,_,h⟩|⟨_,_,_,_,_,h⟩<;>rw[h]<;>rfl
   ·rename_i f Bo ts e
    have hcv:jk x.op=true:=by rw[e];rfl
    have h2m:2<=rP T R x.op:=by
     unfold jU at hs
     have hns:xw x.op=false:=by rw[e];rfl
     rw[hns,Bool.false_or,Bool.and_eq_true,decide_eq_true_eq] at hs;exact hs.1
    rcases Zu h2m with h3|h3
    ·exact Zv ht hf hcv h3 key
    ·rw[acK hx hj hij h3] at hb;cases hb
   ·cases hop
theorem SQ{id:Nat}{Q:Exit->St->Prop}{s:St}(fq:P.follows .mixedOrders=true)(hok:Ug T R N=true)(h:x9 P T R R.toList s (fun s'=>OH (rP T R) R s'.tm=true/\Q .normal s')):AW P N (.region id R true) Q s:=by
 obtain⟨st,vs,h0,hK,hT⟩:=Fw (F:=fun o s s'=>DV T R o.op s.tm s.st s'.st) (D:=fun os s=>x9 P T R os s (fun s'=>OH (rP T R) R s'.tm=true/\Q .normal s')) (fun _ h=>h) (fun o os s h=>by
  obtain⟨v,s',a,b⟩:=H6 h
  exact⟨v,s',a,b⟩) R.size 0 (by omega) s h
 have hT':=fun i hi=>hT i (Nat.zero_le i) hi;refine Aj (vs:=vs) fq h0 hK.2 (fun i hi=> ?_) (afK hok hT' hK.1);obtain⟨o,a,b,_⟩:=hT' i hi;exact⟨o,a,b⟩
def Kk(E:Md)(R:Array Oper)(K:St->Prop)(s:St):Prop:=OH E R s.tm=true/\K s
@[congr] theorem ahp {E:Md} {R:Array Oper} {K:St->Prop} {s s':St} (h2:s=s'):Kk E R K s=Kk E R K s':=by rw[h2]
def CV(P:Program)(T:List TypeId)(R:Array Oper)(os:List Oper)(K:St->Prop)(s:St):Prop:=x9 P T R os s K
def Kl(P:Program)(T:List TypeId)(R:Array Oper)(op:Op)(tm:List (Nat×V))(S:Store)(os:List Oper)(K:St->Prop)(s':St):Prop:=DV T R op tm S s'.st/\CV P T R os K s'
@[congr] theorem aiJ {os:List Oper} {s s':St} {K:St->Prop} (h2:s=s'):x9 P T R os s K=x9 P T R os s' K:=by rw[h2]
@[congr] theorem ahq {os:List Oper} {s s':St} {K:St->Prop} (h2:s=s'):CV P T R os K s=CV P T R os K s':=by rw[h2]
@[congr] theorem aiK {op:Op} {os:List Oper} {s s':St} {K:St->Prop} (h2:s=s'):Kl P T R op tm S os K s=Kl P T R op tm S os K s':=by rw[h2]
theorem Zw{K:St->Prop}:x9 P T R [] ⟨tm,S⟩ K=K ⟨tm,S⟩:=rfl
theorem Wt{o:Oper}{os:List Oper}{K:St->Prop}:x9 P T R (o::os) ⟨tm,S⟩ K=nT P (rP T R) R o ⟨tm,S⟩ (Kl P T R o.op tm S os K):=rfl
theorem Wu{K:St->Prop}:CV P T R [] K ⟨tm,S⟩=K ⟨tm,S⟩:=rfl
theorem SS{o:Oper}{os:List Oper}{K:St->Prop}:CV P T R (o::os) K ⟨tm,S⟩=nT P (rP T R) R o ⟨tm,S⟩ (Kl P T R o.op tm S os K):=rfl
theorem acM{op:Op}{os:List Oper}{K:St->Prop}{tm':List (Nat×V)}{S':Store}:Kl P T R op tm S os K ⟨tm',S'⟩=(DV T R op tm S S'/\CV P T R os K ⟨tm',S'⟩):=rfl
theorem Zx{vs:List V}:Mc vs S S=True:=by simp[Mc]
theorem acN{vs:List V}{k:Key}{off:Nat}{x:Obj}:Mc (.c (.ptr k off)::vs) S (aX S k x)=True:=by
 refine eq_true fun k'=> ?_;by_cases e:k=k'
 ·subst e;exact .inl ⟨_,List.mem_cons_self,.inl ⟨_,rfl⟩⟩
 ·exact .inr (eY _ _ _ _ e)
theorem Nf{vs:List V}{l j off:Nat}{fr:List Obj}{x:Obj}:Mc (.c (.ptr (1+l,j) off)::vs) (fr::S) (fr::aX S (l,j) x)=True:=by
 have:=acN (S:=fr::S) (vs:=vs) (k:=(1+l,j)) (off:=off) (x:=x)
 rwa [ak] at this
theorem Zy{vs:List V}{l j off:Nat}{fr:List Obj}{x y:Obj}:Mc (.c (.ptr (1+l,j) off)::vs) (fr::aX S (l,j) x) (fr::aX S (l,j) y)=True:=by
 have:=Nf (S:=aX S (l,j) x) (vs:=vs) (l:=l) (j:=j) (off:=off) (fr:=fr) (x:=y)
 rwa [ah] at this
theorem ahr{p:Prop}:(p->True)=True:=by simp
def mh(P:Program)(N:Nat)(T:List TypeId):Code->(Exit->St->Prop)->St->Prop
 | .seq x y,Q,s=>mh P N T x (jJ (mh P N T y Q) Q) s
 | .region _ R true,Q,s=>x9 P T R R.toList s (Kk (rP T R) R (Q .normal))
 | .region id R false,Q,s=>CW P N (.region id R false) Q s
 | .cond c x y,Q,s=>xZ (ev s.tm c) (mh P N T x Q) (mh P N T y Q) s
 | .block id c,Q,s=>mh P N T c (wm id Q) s
 | .exit id,Q,s=>CW P N (.exit id) Q s
 | .ret,Q,s=>CW P N .ret Q s
 | .skip,Q,s=>CW P N .skip Q s
 | .loop c,Q,s=>CW P N (.loop c) Q s
 |_,_,_=>False
def nU(T:List TypeId)(N:Nat):Code->Bool
 | .seq x y=>nU T N x&&nU T N y
 | .region _ R true=>Ug T R N
 | .cond _ x y=>nU T N x&&nU T N y
 | .block _ c=>nU T N c
 | .loop _=>true
 |c=>codeOk N c
theorem nO(fq:P.follows .mixedOrders=true):∀(c:Code)(Q:Exit->St->Prop)(s:St),nU T N c=true->mh P N T c Q s->AW P N c Q s
 | .seq x y,Q,s,ok,h=>by
   simp only[nU,Bool.and_eq_true] at ok;refine PI (AW.mono (nO fq x _ s ok.1 h) fun e s' h'=> ?_)
   cases e with
   |normal=>exact nO fq y Q s' ok.2 h'
   |_=>exact h'
 | .region _ R true,Q,s,ok,h=>SQ fq ok h
 | .region id R false,Q,s,ok,h=>jy fq _ Q s ok h
 | .cond c x y,Q,s,ok,h=>by
   simp only[nU,Bool.and_eq_true] at ok;simp only[mh,xZ] at h;split at h
   ·rename_i b hb;exact LG hb (fun e=>nO fq x Q s ok.1 (h.1 e)) (fun e=>nO fq y Q s ok.2 (h.2 e))
   ·exact h.elim
 | .block id c,Q,s,ok,h=>II (nO fq c _ s ok h)
 | .exit id,Q,s,ok,h=>jy fq _ Q s ok h
 | .ret,Q,s,ok,h=>jy fq _ Q s ok h
 | .skip,Q,s,ok,h=>jy fq _ Q s ok h
 | .loop c,Q,s,ok,h=>by
   rw[mh,L6] at h;exact h
 | .rangeFunc _ _ _ _,Q,s,ok,h=>h.elim
 | .scope _,Q,s,ok,h=>h.elim
 | .label _,Q,s,ok,h=>h.elim
 | .goto _,Q,s,ok,h=>h.elim
 | .refuse _,Q,s,ok,h=>h.elim
theorem afL{x y:Code}{Q:Exit->St->Prop}:mh P N T (.seq x y) Q s=mh P N T x (jJ (mh P N T y Q) Q) s:=by rw[mh]
theorem acO{id:Nat}{l:List Oper}{Q:Exit->St->Prop}:mh P N T (.region id ⟨l⟩ true) Q s=x9 P T ⟨l⟩ l s (Kk (rP T ⟨l⟩) ⟨l⟩ (Q .normal)):=by rw[mh]
theorem Wv{id:Nat}{l:List Oper}{Q:Exit->St->Prop}:mh P N T (.region id ⟨l⟩ false) Q s=CW P N (.region id ⟨l⟩ false) Q s:=by rw[mh]
theorem acP{c:Operand}{x y:Code}{Q:Exit->St->Prop}:mh P N T (.cond c x y) Q s=xZ (ev s.tm c) (mh P N T x Q) (mh P N T y Q) s:=by rw[mh]
theorem Zz{id:Nat}{c:Code}{Q:Exit->St->Prop}:mh P N T (.block id c) Q s=mh P N T c (wm id Q) s:=by rw[mh]
theorem acQ{id:Nat}{Q:Exit->St->Prop}:mh P N T (.exit id) Q s=CW P N (.exit id) Q s:=by rw[mh]
theorem afM{Q:Exit->St->Prop}:mh P N T .ret Q s=CW P N .ret Q s:=by rw[mh]
theorem acR{Q:Exit->St->Prop}:mh P N T .skip Q s=CW P N .skip Q s:=by rw[mh]
theorem acS{c:Code}{Q:Exit->St->Prop}:mh P N T (.loop c) Q s=CW P N (.loop c) Q s:=by rw[mh]
theorem IZ{ι:Type}{c:Code}{Q:Exit->St->Prop}(T:List TypeId)(fq:P.follows .mixedOrders=true)(hok:nU T N c=true)(ts:List Nat)(f:ι->List V)(g:ι->Store)(p:ι->Prop)(μ:ι->Nat)(i0:ι)
 (h1:ts.map (look s.tm)=f i0)(h2:s.st=g i0)(h3:p i0)
 (round:∀i,p i->mh P N T c (jJ (Inv N ts f g p μ i) Q) ⟨jC ts (f i),g i⟩):AW P N (.loop c) Q s:=by
 refine LH (ι:=ι) (fun i s=>∃s0,gK N s s0/\ts.map (look s0.tm)=f i/\s0.st=g i/\p i) μ i0 ⟨s,gK.refl _ _,h1,h2,h3⟩ fun i s hI=> ?_;obtain⟨s0,hg,h1,h2,h3⟩:=hI;refine lU ?_ hg
 have hr:=(nO fq c _ _ hok (round i h3)).mono (Q':=jJ (fun s'=>∃j,μ j<μ i/\∃s0,gK N s' s0/\ts.map (look s0.tm)=f j/\s0.st=g j/\p j) Q) fun e s' h=>by
  cases e with
  |normal=>
   obtain⟨j,s0,a1,a2,a3,a4,a5⟩:=h;exact⟨j,a1,s0,a2,a3,a4,a5⟩
  |_=>exact h
 obtain⟨tm,st⟩:=s0;simp only at h1 h2;subst h2;rw[<-h1] at hr;exact Vp hr fun t=>uX _ ts t
theorem oZ(T:List TypeId){f:FuncId}{fn:Func}{c:Code}{args:List V}{post:V->Store->Prop}{rs:List ResultVar}(fq:P.follows .mixedOrders=true)(hf:P.funcs[f]? =some fn)(hN:fn.ntmps=N)
 (hb:fn.body=some c) (hn:(fn.name== "runtime.NumGoroutine")=false) (hr:fn.results.toList=rs) (hl:Nat.ble args.length N=true) (hok:nU T N c=true)
 (h:mh P N T c (IW P rs post) ⟨kE (args.map (V.up 1)) 0,[]::S⟩):cB P f args S post:=by
 subst hN;subst hr;exact pY hf hb hn (Nat.le_of_ble_eq_true hl) (Ak tq (nO fq c _ _ hok h))
end
attribute [go_sem ↓] afL acO Wv acP Zz acQ afM acR acS Zw Wt Wu SS
attribute [go_sem] acM DV Zx Nf Zy ahr
end Go.Ab