/-
  SEVERAL TEXTS IN ONE (merged by program): contracts and models, each with its own heading.
-/
import Derived.Test.YtnceiannponbjaaGreatDoorPartDjbD
import Derived.Test.YtnceiannponbjaaGreatDoorPartDjbE
open Go.Proofs Go.Proofs.Tryz
set_option linter.unusedSimpArgs false
set_option linter.unusedVariables false
set_option maxRecDepth 4000
namespace Go.Ab
def ahI(T:List TypeId):Op->Bool
 | .call {callee:=.value _,args:=_,argTypes:=ts}=> !(ts.toList.all fun t=>T.all fun u=> !(t==u))
 |_=>false
def pQ(T:List TypeId)(R:Array Oper):Md:=fun op=>match wo R 0 op with
 |0=>if ahI T op then 3 else 0
 |m=>m
def Bo:V->Option Key
 | .c (.ptr k _)=>some k
 | .c (.jH k _ _)=>some k
 | .c (.gy k)=>some k
 | .c (.mp k)=>some k
 | .c (.xp k _ _)=>some k
 | .c (.xq k _ _ _ _ _)=>some k
 |_=>none
theorem LG{v:V}{k:Key}(h:E8 v k):Bo v=some k:=by
 rcases h with⟨_,rfl⟩|⟨_,_,rfl⟩|rfl|rfl|⟨_,_,rfl⟩|⟨_,_,_,_,_,rfl⟩<;>rfl
def Vw:Key->Key->Bool
 |(0,a),(0,b)=>a !=b
 |(0,_),(_+1,_)=>true
 |(_+1,_),(0,_)=>true
 |_,_=>false
theorem abC{k k':Key}(h:Vw k k'=true):k≠k':=by
 rintro rfl;obtain⟨l,j⟩:=k;cases l<;>simp[Vw] at h
def Vx(v w:V):Bool:=match Bo v,Bo w with
 |some k,some k'=>Vw k k'
 |_,_=>true
def Nz:Op->List Operand
 | .store _ a _=>[a]
 | .call {callee:=.value _,args:=uM,argTypes:=_}=>uM.toList
 |_=>[]
def Fu(R:Array Oper)(i:Nat)(x:Oper)(j:Nat)(y:Oper):Bool:=iw y.op||(match x.op with
 | .store _ _ _=>true
 | .call {callee:=.value _,args:=_,argTypes:=_}=>true
 |_=>false)&&(Nz x.op).all (settled R i)&&y.op.operands.toList.all (settled R j)
def D6(T:List TypeId)(R:Array Oper)(p i j:Nat)(x y:Oper):Bool:= !(x.apart R y)||(!(decide (j=p))&&((dZ (pQ T R) x.op&&dZ (pQ T R) y.op)||(jI (pQ T R) x.op&& !(Fu R i x j y))||(jI (pQ T R) y.op&& !(Fu R j y i x))))
def zl(T:List TypeId)(R:Array Oper)(N p:Nat):Bool:=DL (pQ T R) R p&&
 (List.range R.size).all fun j=>
   (match R[j]? with
    |some o=>o.after.toList.all (fun e=> !Region.binds .any e||decide (e.on<j))&&(match o.dst with|some d=>decide (d<N)|none=>true)
    |none=>true)&&
   (List.range j).all fun i=>
     match R[i]?,R[j]? with
     |some x,some y=>((masks R.toList []).getD j 0).testBit i|| !(D6 T R p i j x y)
     |_,_=>true
def ajc(T:List TypeId)(R:Array Oper)(N:Nat):Nat:=if zl T R N R.size then R.size else((List.range R.size).find? fun p=>GH R p&&zl T R N p).getD R.size
def Tf(T:List TypeId)(R:Array Oper)(N:Nat):Bool:=zl T R N (ajc T R N)
def NA(E:Md)(R:Array Oper)(tm:List (Nat×V)):Bool:=
 (List.range R.size).all fun i=>match R[i]? with
   |some x=> !(jI E x.op)||(Nz x.op).all fun a=>(List.range R.size).all fun j=>match R[j]? with
     |some y=>pq R i j||dZ E y.op||iw y.op||UC y.op||y.op.operands.toList.all (fun z=>Vx (ev tm a) (ev tm z))
     |none=>true
   |none=>true
def KR(vs:List V)(S S':Store):Prop:=∀k,(∃v∈vs,E8 v k)\/aN S' k=aN S k
def Cq(T:List TypeId)(R:Array Oper)(op:Op)(tm:List (Nat×V))(S S':Store):Prop:=match op with
 | .call {callee:=.value x,args:=uM,argTypes:=ts}=>pQ T R (.call {callee:=.value x,args:=uM,argTypes:=ts})=3->KR (Bl tm uM.toList) S S'
 |_=>True
section
variable {P:Program} {N:Nat} {S:Store} {s:St} {tm:List (Nat×V)} {T:List TypeId} {R:Array Oper}
def wC(P:Program)(T:List TypeId)(R:Array Oper):List Oper->St->(St->Prop)->Prop
 |[],s,K=>K s
 |o::os,s,K=>mM P (pQ T R) R o s fun s'=>Cq T R o.op s.tm s.st s'.st/\wC P T R os s' K
theorem YC{op:Op}(h:2<=pQ T R op):pQ T R op=3\/(List.range R.size).all (fun i=>match R[i]? with
 |some o=>(wO op !=wO o.op)||Kz R i
 |none=>true)=true:=by
 unfold pQ at h ⊢;split at h
 ·rename_i e;split at h
  ·rename_i hc;left;rw[if_pos hc]
  ·omega
 ·rename_i m hm;right;unfold wo at h;split at h
  ·rename_i hq;exact hq
  ·omega
theorem abD{o:Oper}{i j:Nat}(ho:R[i]? =some o)(hj:j<R.size)(hij:i≠j)(h:(List.range R.size).all (fun i=>match R[i]? with
 |some o'=>(wO o.op !=wO o'.op)||Kz R i
 |none=>true)=true):pq R i j=true:=by
 have hi:i<R.size:=(Array.getElem?_eq_some_iff.1 ho).1;have h1:=List.all_eq_true.1 h i (List.mem_range.2 hi);rw[ho] at h1;simp only[bne_self_eq_false,Bool.false_or] at h1;have h2:=List.all_eq_true.1 h1 j (List.mem_range.2 hj);unfold pq;have hne:¬j=i:=fun e=>hij e.symm;simp only[hne,decide_false,Bool.false_or] at h2;by_cases e:i<j
 ·rw[if_pos e];rwa [if_neg (by omega)] at h2
 ·rw[if_neg e];rwa [if_pos (by omega)] at h2
theorem YD{o:Oper}{s s':St}{v:V}(ht:kI P (pQ T R) R o s v s')(hf:Cq T R o.op s.tm s.st s'.st)(hc:iw o.op=true)(hm:pQ T R o.op=3){k:Key}
 (hk:∀a∈Nz o.op,∀k',Bo (ev s.tm a)=some k'->k'≠k):aN s'.st k=aN s.st k:=by
 obtain⟨dst,op,ty,pos,after,guard⟩:=o
 cases op with
 |call c=>
  obtain⟨wM,args,ts⟩:=c
  cases wM with
  |value f=>
   rcases hf hm k with⟨v,hv,hr⟩|h
   ·obtain⟨a,ha,rfl⟩:=List.mem_map.1 hv;exact absurd rfl (hk a ha k (LG hr))
   ·exact h
  |_=>cases hc
 |_=>cases hc
theorem Vy{v w:V}(h:Vx v w=true){k k':Key}(hv:Bo v=some k')(hw:E8 w k):k'≠k:=by
 unfold Vx at h;rw[hv,LG hw] at h;exact abC h
theorem aei{st:Nat->St}{vs:Nat->V}{p:Nat}(hok:zl T R N p=true)
 (hF:∀i,i<R.size->∃o,R[i]? =some o/\kI P (pQ T R) R o (st i) (vs i) (st (i+1))/\Cq T R o.op (st i).tm (st i).st (st (i+1)).st)(hl:NA (pQ T R) R (st R.size).tm=true):Lr (pQ T R) R N st p:=by
 unfold zl at hok;rw[Bool.and_eq_true] at hok;have vB:=SV hok.1;obtain⟨hed,h2⟩:=IC (f:=fun i j x y=>D6 T R p i j x y) hok.2
 have hT:∀i,i<R.size->∃o,R[i]? =some o/\kI P (pQ T R) R o (st i) (vs i) (st (i+1)):=fun i hi=>by
  obtain⟨o,a,b,_⟩:=hF i hi;exact⟨o,a,b⟩
 refine⟨?_,?_,?_,?_,vB⟩
 ·intro i o e ho he hb;have h2:=hed i o ho;simp only[Bool.and_eq_true] at h2;have h3:=List.all_eq_true.1 h2.1 e (by simpa using he);simpa [hb] using h3
 ·intro i o ho d hd;have h2:=hed i o ho;simp only[Bool.and_eq_true,hd] at h2;simpa using h2.2
 ·intro i j x y hij hx hy hc;rcases h2 i j x y hij hx hy with h|h
  ·exact .inl h
  ·unfold D6 at h;unfold kL at hc;rw[Bool.or_eq_false_iff,Bool.not_eq_false'] at h;rw[h.1] at hc;simp only[Bool.not_true,Bool.false_or] at hc;by_cases e:j=p
   ·exact .inr ⟨e,(Bool.and_eq_true _ _▸hc).1,h.1⟩
   ·have h3:=h.2;simp only[e,decide_false,Bool.not_false,Bool.true_and,Bool.or_eq_false_iff] at h3;rw[hc] at h3;cases h3.1.1
 ·intro i j x o hij hx ho hs hD hc
  have hjp:j≠p:=fun e=>by
   subst e;have:=(qI (E:=pQ T R) (vB o ho).1).1;rw[hD] at this;cases this
  have Ls:i≠p:=fun e=>by
   subst e;have:=(qI (E:=pQ T R) (vB x hx).1).2.1;rw[hs] at this;cases this
  cases hb:pq R i j with
  |true=>exact .inl rfl
  |false=>
   refine .inr ?_;rintro k ⟨hmv,z,hz,hk⟩;have hi:i<R.size:=(Array.getElem?_eq_some_iff.1 hx).1;have hj:j<R.size:=(Array.getElem?_eq_some_iff.1 ho).1
   have hlo:Fu R i x j o=true:=by
    unfold pq at hb;by_cases e:i<j
    ·rw[if_pos e] at hb;rcases h2 i j x o e hx ho with h|h
     ·rw[hb] at h;cases h
     ·simp only[D6,hjp,decide_false,Bool.not_false,hs,Bool.true_and,Bool.or_eq_false_iff,Bool.not_eq_false'] at h;exact h.2.1.2
    ·rw[if_neg e] at hb;rcases h2 j i o x (by omega) ho hx with h|h
     ·rw[hb] at h;cases h
     ·simp only[D6,Ls,decide_false,Bool.not_false,hs,Bool.true_and,Bool.or_eq_false_iff,Bool.not_eq_false'] at h;exact h.2.2
   unfold Fu at hlo;rw[hc,Bool.false_or,Bool.and_eq_true,Bool.and_eq_true] at hlo;obtain⟨⟨hop,hsa⟩,hsy⟩:=hlo
   have hz':z∈o.op.operands.toList:=by simpa using hz
   have hsz:=List.all_eq_true.1 hsy z hz';have h1:=List.all_eq_true.1 hl i (List.mem_range.2 hi);rw[hx] at h1;simp only[hs,Bool.not_true,Bool.false_or] at h1
   have key:∀a∈Nz x.op,∀k',Bo (ev (st i).tm a)=some k'->k'≠k:=fun a ha k' hk'=>by
    have h3:=List.all_eq_true.1 h1 a ha;have h4:=List.all_eq_true.1 h3 j (List.mem_range.2 hj);rw[ho] at h4;simp only[hb,hD,hc,hmv,Bool.false_or] at h4;have h5:=List.all_eq_true.1 h4 z hz';rw[yu hT (by omega) (List.all_eq_true.1 hsa a ha),yu hT (by omega) hsz] at h5;exact Vy h5 hk' hk
   obtain⟨x',hx',ht,hf⟩:=hF i hi;rw[hx] at hx';cases hx';split at hop
   ·rename_i t a y e;refine F3 e ht fun k' hk'=>key a (by rw[e];exact List.mem_singleton.2 rfl) k' ?_;rcases hk' with⟨_,h⟩|⟨_,_,h⟩|⟨_,_,_,_,_,h⟩<;>rw[h]<;>rfl
   ·rename_i f uM ts e
    have hcv:iw x.op=true:=by rw[e];rfl
    have h2m:2<=pQ T R x.op:=by
     unfold jI at hs
     have hns:vJ x.op=false:=by rw[e];rfl
     rw[hns,Bool.false_or,Bool.and_eq_true,decide_eq_true_eq] at hs;exact hs.1
    rcases YC h2m with h3|h3
    ·exact YD ht hf hcv h3 key
    ·rw[abD hx hj hij h3] at hb;cases hb
   ·cases hop
theorem RO{id:Nat}{Q:Exit->St->Prop}{s:St}(eZ:P.follows .mixedOrders=true)(hok:Tf T R N=true)(h:wC P T R R.toList s (fun s'=>NA (pQ T R) R s'.tm=true/\Q .normal s')):AW P N (.region id R true) Q s:=by
 obtain⟨st,vs,h0,hK,hT⟩:=DT (F:=fun o s s'=>Cq T R o.op s.tm s.st s'.st) (D:=fun os s=>wC P T R os s (fun s'=>NA (pQ T R) R s'.tm=true/\Q .normal s')) (fun _ h=>h) (fun o os s h=>by
  obtain⟨v,s',a,b⟩:=FZ h
  exact⟨v,s',a,b⟩) R.size 0 (by omega) s h
 have hT':=fun i hi=>hT i (Nat.zero_le i) hi;refine Ce (vs:=vs) eZ h0 hK.2 (fun i hi=> ?_) (aei hok hT' hK.1);obtain⟨o,a,b,_⟩:=hT' i hi;exact⟨o,a,b⟩
def I6(E:Md)(R:Array Oper)(K:St->Prop)(s:St):Prop:=NA E R s.tm=true/\K s
@[congr] theorem afV {E:Md} {R:Array Oper} {K:St->Prop} {s s':St} (h2:s=s'):I6 E R K s=I6 E R K s':=by rw[h2]
def Bp(P:Program)(T:List TypeId)(R:Array Oper)(os:List Oper)(K:St->Prop)(s:St):Prop:=wC P T R os s K
def I7(P:Program)(T:List TypeId)(R:Array Oper)(op:Op)(tm:List (Nat×V))(S:Store)(os:List Oper)(K:St->Prop)(s':St):Prop:=Cq T R op tm S s'.st/\Bp P T R os K s'
@[congr] theorem agV {os:List Oper} {s s':St} {K:St->Prop} (h2:s=s'):wC P T R os s K=wC P T R os s' K:=by rw[h2]
@[congr] theorem afW {os:List Oper} {s s':St} {K:St->Prop} (h2:s=s'):Bp P T R os K s=Bp P T R os K s':=by rw[h2]
@[congr] theorem agW {op:Op} {os:List Oper} {s s':St} {K:St->Prop} (h2:s=s'):I7 P T R op tm S os K s=I7 P T R op tm S os K s':=by rw[h2]
theorem YE{K:St->Prop}:wC P T R [] ⟨tm,S⟩ K=K ⟨tm,S⟩:=rfl
theorem Vz{o:Oper}{os:List Oper}{K:St->Prop}:wC P T R (o::os) ⟨tm,S⟩ K=mM P (pQ T R) R o ⟨tm,S⟩ (I7 P T R o.op tm S os K):=rfl
theorem VA{K:St->Prop}:Bp P T R [] K ⟨tm,S⟩=K ⟨tm,S⟩:=rfl
theorem RP{o:Oper}{os:List Oper}{K:St->Prop}:Bp P T R (o::os) K ⟨tm,S⟩=mM P (pQ T R) R o ⟨tm,S⟩ (I7 P T R o.op tm S os K):=rfl
theorem abE{op:Op}{os:List Oper}{K:St->Prop}{tm':List (Nat×V)}{S':Store}:I7 P T R op tm S os K ⟨tm',S'⟩=(Cq T R op tm S S'/\Bp P T R os K ⟨tm',S'⟩):=rfl
theorem YF{vs:List V}:KR vs S S=True:=by simp[KR]
theorem abF{vs:List V}{k:Key}{off:Nat}{x:Obj}:KR (.c (.ptr k off)::vs) S (aR S k x)=True:=by
 refine eq_true fun k'=> ?_;by_cases e:k=k'
 ·subst e;exact .inl ⟨_,List.mem_cons_self,.inl ⟨_,rfl⟩⟩
 ·exact .inr (dJ _ _ _ _ e)
theorem LH{vs:List V}{l j off:Nat}{fr:List Obj}{x:Obj}:KR (.c (.ptr (1+l,j) off)::vs) (fr::S) (fr::aR S (l,j) x)=True:=by
 have:=abF (S:=fr::S) (vs:=vs) (k:=(1+l,j)) (off:=off) (x:=x)
 rwa [aF] at this
theorem YG{vs:List V}{l j off:Nat}{fr:List Obj}{x y:Obj}:KR (.c (.ptr (1+l,j) off)::vs) (fr::aR S (l,j) x) (fr::aR S (l,j) y)=True:=by
 have:=LH (S:=aR S (l,j) x) (vs:=vs) (l:=l) (j:=j) (off:=off) (fr:=fr) (x:=y)
 rwa [aD] at this
theorem afX{p:Prop}:(p->True)=True:=by simp
def kN(P:Program)(N:Nat)(T:List TypeId):Code->(Exit->St->Prop)->St->Prop
 | .seq x y,Q,s=>kN P N T x (iY (kN P N T y Q) Q) s
 | .region _ R true,Q,s=>wC P T R R.toList s (I6 (pQ T R) R (Q .normal))
 | .region id R false,Q,s=>CW P N (.region id R false) Q s
 | .cond c x y,Q,s=>yw (ev s.tm c) (kN P N T x Q) (kN P N T y Q) s
 | .block id c,Q,s=>kN P N T c (uN id Q) s
 | .exit id,Q,s=>CW P N (.exit id) Q s
 | .ret,Q,s=>CW P N .ret Q s
 | .skip,Q,s=>CW P N .skip Q s
 | .loop c,Q,s=>CW P N (.loop c) Q s
 |_,_,_=>False
def lQ(T:List TypeId)(N:Nat):Code->Bool
 | .seq x y=>lQ T N x&&lQ T N y
 | .region _ R true=>Tf T R N
 | .cond _ x y=>lQ T N x&&lQ T N y
 | .block _ c=>lQ T N c
 | .loop _=>true
 |c=>codeOk N c
theorem lD(eZ:P.follows .mixedOrders=true):∀(c:Code)(Q:Exit->St->Prop)(s:St),lQ T N c=true->kN P N T c Q s->AW P N c Q s
 | .seq x y,Q,s,ok,h=>by
   simp only[lQ,Bool.and_eq_true] at ok;refine Iq (AW.mono (lD eZ x _ s ok.1 h) fun e s' h'=> ?_)
   cases e with
   |normal=>exact lD eZ y Q s' ok.2 h'
   |_=>exact h'
 | .region _ R true,Q,s,ok,h=>RO eZ ok h
 | .region id R false,Q,s,ok,h=>je eZ _ Q s ok h
 | .cond c x y,Q,s,ok,h=>by
   simp only[lQ,Bool.and_eq_true] at ok;simp only[kN,yw] at h;split at h
   ·rename_i b hb;exact EX hb (fun e=>lD eZ x Q s ok.1 (h.1 e)) (fun e=>lD eZ y Q s ok.2 (h.2 e))
   ·exact h.elim
 | .block id c,Q,s,ok,h=>GA (lD eZ c _ s ok h)
 | .exit id,Q,s,ok,h=>je eZ _ Q s ok h
 | .ret,Q,s,ok,h=>je eZ _ Q s ok h
 | .skip,Q,s,ok,h=>je eZ _ Q s ok h
 | .loop c,Q,s,ok,h=>by
   rw[kN,SY] at h;exact h
 | .rangeFunc _ _ _ _,Q,s,ok,h=>h.elim
 | .scope _,Q,s,ok,h=>h.elim
 | .label _,Q,s,ok,h=>h.elim
 | .goto _,Q,s,ok,h=>h.elim
 | .refuse _,Q,s,ok,h=>h.elim
theorem aej{x y:Code}{Q:Exit->St->Prop}:kN P N T (.seq x y) Q s=kN P N T x (iY (kN P N T y Q) Q) s:=by rw[kN]
theorem abG{id:Nat}{l:List Oper}{Q:Exit->St->Prop}:kN P N T (.region id ⟨l⟩ true) Q s=wC P T ⟨l⟩ l s (I6 (pQ T ⟨l⟩) ⟨l⟩ (Q .normal)):=by rw[kN]
theorem VB{id:Nat}{l:List Oper}{Q:Exit->St->Prop}:kN P N T (.region id ⟨l⟩ false) Q s=CW P N (.region id ⟨l⟩ false) Q s:=by rw[kN]
theorem abH{c:Operand}{x y:Code}{Q:Exit->St->Prop}:kN P N T (.cond c x y) Q s=yw (ev s.tm c) (kN P N T x Q) (kN P N T y Q) s:=by rw[kN]
theorem YH{id:Nat}{c:Code}{Q:Exit->St->Prop}:kN P N T (.block id c) Q s=kN P N T c (uN id Q) s:=by rw[kN]
theorem abI{id:Nat}{Q:Exit->St->Prop}:kN P N T (.exit id) Q s=CW P N (.exit id) Q s:=by rw[kN]
theorem aek{Q:Exit->St->Prop}:kN P N T .ret Q s=CW P N .ret Q s:=by rw[kN]
theorem abJ{Q:Exit->St->Prop}:kN P N T .skip Q s=CW P N .skip Q s:=by rw[kN]
theorem abK{c:Code}{Q:Exit->St->Prop}:kN P N T (.loop c) Q s=CW P N (.loop c) Q s:=by rw[kN]
theorem abM{ι:Type}{c:Code}{Q:Exit->St->Prop}(T:List TypeId)(eZ:P.follows .mixedOrders=true)(hok:lQ T N c=true)(ts:List Nat)(f:ι->List V)(g:ι->Store)(p:ι->Prop)(μ:ι->Nat)(i0:ι)
 (h1:ts.map (look s.tm)=f i0)(h2:s.st=g i0)(h3:p i0)
 (round:∀i,p i->kN P N T c (iY (Inv N ts f g p μ i) Q) ⟨iN ts (f i),g i⟩):AW P N (.loop c) Q s:=by
 refine SN (ι:=ι) (fun i s=>∃s0,fG N s s0/\ts.map (look s0.tm)=f i/\s0.st=g i/\p i) μ i0 ⟨s,fG.refl _ _,h1,h2,h3⟩ fun i s hI=> ?_;obtain⟨s0,hg,h1,h2,h3⟩:=hI;refine j6 ?_ hg
 have hr:=(lD eZ c _ _ hok (round i h3)).mono (Q':=iY (fun s'=>∃j,μ j<μ i/\∃s0,fG N s' s0/\ts.map (look s0.tm)=f j/\s0.st=g j/\p j) Q) fun e s' h=>by
  cases e with
  |normal=>
   obtain⟨j,s0,a1,a2,a3,a4,a5⟩:=h;exact⟨j,a1,s0,a2,a3,a4,a5⟩
  |_=>exact h
 obtain⟨tm,st⟩:=s0;simp only at h1 h2;subst h2;rw[<-h1] at hr;exact UG hr fun t=>vL _ ts t
theorem qJ(T:List TypeId){f:FuncId}{fn:Func}{c:Code}{args:List V}{post:V->Store->Prop}{rs:List ResultVar}(eZ:P.follows .mixedOrders=true)(hf:P.funcs[f]? =some fn)(hN:fn.ntmps=N)
 (hb:fn.body=some c) (hn:(fn.name== "runtime.NumGoroutine")=false) (hr:fn.results.toList=rs) (hl:Nat.ble args.length N=true) (hok:lQ T N c=true)
 (h:kN P N T c (KL P rs post) ⟨jW (args.map (V.up 1)) 0,[]::S⟩):bF P f args S post:=by
 subst hN;subst hr;exact qb hf hb hn (Nat.le_of_ble_eq_true hl) (y7 uT (lD eZ c _ _ hok h))
end
attribute [go_sem ↓] aej abG VB abH YH abI aek abJ abK YE Vz VA RP
attribute [go_sem] abE Cq YF LH YG afX
def xM(x:Int):List D:=[.i .u8 x]
theorem Pn(a:Int):0<=Au .i64 a 255/\Au .i64 a 255<=255:=by
 have h:(BitVec.ofInt IntKind.i64.bits a &&& BitVec.ofInt IntKind.i64.bits 255).toNat<=255:=by
  rw[BitVec.toNat_and];refine Nat.le_trans Nat.and_le_right ?_;decide
 unfold Au;rw[IntWalk.i64_in _ (by omega)];omega
structure Bytes(bs:List Int):Prop where
 len:bs.length<=1048576
 rng:∀x∈bs,0<=x/\x<=255
structure Cu(bs:List Int) where
 i:Int
 h:Int
 lo:0<=i
 hi:i<=bs.length
def cur{bs:List Int}(c:Cu bs):List C:=[.d (.sl (bs.map xM)),.d (.i .i64 c.i),.d (.i .i64 c.h)]
def hN(h:Int):Int:=IntKind.i64.wrap (IntKind.i64.wrap (h*6364136223846793005)+1442695040888963407)
def Fv(h:Int):Int:=Au .i64 (NQ .i64 (Gx .i64 (hN h) 33) (Gx .i64 (hN h) 45)) 255
def fB{bs:List Int}(c:Cu bs):Int×Cu bs:=
 if h:c.i<bs.length then(Au .i64 (Fv c.h+bs.getD c.i.toNat 0) 255,⟨c.i+1,hN c.h,by have:=c.lo;omega,by omega⟩) else(Fv c.h,⟨c.i,hN c.h,c.lo,c.hi⟩)
theorem mG{bs:List Int}(c:Cu bs):0<=(fB c).1/\(fB c).1<=255:=by
 unfold fB;split
 ·exact Pn _
 ·exact Pn _
def bg{bs:List Int}(n:Int)(c:Cu bs):Int×Cu bs:=((fB c).1.tmod n,(fB c).2)
theorem gU{bs:List Int}{n:Int}(c:Cu bs)(h:1<=n):0<=(bg n c).1/\(bg n c).1<n:=
 ⟨Int.tmod_nonneg _ (mG c).1,Int.tmod_lt_of_pos _ (by omega)⟩
def fF{bs:List Int}(n:Int)(c:Cu bs):Bool×Cu bs:=(decide ((bg n c).1=0),(bg n c).2)
def bV{bs:List Int}(xs:List (List UInt8))(c:Cu bs):List UInt8×Cu bs:=(xs.getD (bg xs.length c).1.toNat [],(bg xs.length c).2)
theorem YI{bs:List Int}{xs:List (List UInt8)}(c:Cu bs)(h:1<=xs.length):(bV xs c).1∈xs:=by
 have:=gU (n:=xs.length) c (by omega);unfold bV
 have hi:(bg (xs.length:Int) c).1.toNat<xs.length:=by omega
 simp only[List.getD,List.getElem?_eq_getElem hi,Option.getD_some];exact List.getElem_mem hi
theorem wU{bs:List Int}(hB:Bytes bs)(c:Cu bs)(l j:Nat)(S:Store)(hk:aN S (l,j)=some (.box (cur c))):
 bF prog 161 [.c (.ptr (l,j) 0)] S (fun r S'=>r=.c (.d (.i .i64 (fB c).1))/\S'=aR S (l,j) (.box (cur (fB c).2))):=by
 have h0:0<=Fv c.h/\Fv c.h<=255:=Pn _;have hl:=hB.len;have g:∀x:Ab.Obj,aN (aR S (l,j) x) (l,j)=some x:=fun x=>bP _ _ _ _ hk;obtain⟨i,h,lo,hi⟩:=c;simp only at h0;by_cases hlt:i<bs.length
 ·have hb:=hB.rng (bs[i.toNat]'(by omega)) (List.getElem_mem _);have h1:decide (i<(bs.length:Int))=true:=decide_eq_true hlt
  have e:bs.getD i.toNat 0=bs[i.toNat]'(by omega):=by simp[List.getD,(show i.toNat<bs.length by omega)]
  rw[fB,dif_pos hlt];simp only[e]
  unfold Fv hN at *
  refine zcx [.tmp 2] func161 ntmps161 ?_;simp -implicitDefEqProofs (disch:=omega) only[go_sem,hk,cur,g,aD,h1,xM]
  (repeat(with_reducible refine And.intro ?_ ?_;focus first|omega|rfl|assumption|exact⟨_,rfl,rfl⟩|(simp;omega)|(simp;done)))
  all_goals first|exact⟨rfl,rfl⟩|rfl|omega
 ·have h1:decide (i<(bs.length:Int))=false:=decide_eq_false hlt;rw[fB,dif_neg hlt]
  unfold Fv hN at *
  refine zcx [.tmp 2] func161 ntmps161 ?_;simp -implicitDefEqProofs (disch:=omega) only[go_sem,hk,cur,g,aD,h1,xM]
  first|done|exact⟨rfl,rfl⟩|rfl
theorem eO{bs:List Int}(hB:Bytes bs)(c:Cu bs)(l j:Nat)(S:Store)(n:Int)(hk:aN S (l,j)=some (.box (cur c)))(h1:1<=n)(h2:n<=256):
 bF prog 92 [.c (.ptr (l,j) 0),.c (.d (.i .i64 n))] S (fun r S'=>r=.c (.d (.i .i64 (bg n c).1))/\S'=aR S (l,j) (.box (cur (bg n c).2))):=by
 have hx:=mG c;have d1:decide (n<=0)=false:=decide_eq_false (by omega);have d2:decide (n<=256)=true:=decide_eq_true h2;refine zcx [.tmp 4] func92 ntmps92 ?_;simp -implicitDefEqProofs (disch:=omega) only[go_sem,d1,d2];refine aX rfl (wU hB c (1+l) j ([]::S) (by rw[aY];exact hk)) ?_;simp -implicitDefEqProofs (disch:=omega) only[go_sem,aF]
 (repeat(with_reducible refine And.intro ?_ ?_;focus first|omega|rfl|assumption|exact⟨_,rfl,rfl⟩|(simp;omega)|(simp;done)))
 first|done|exact⟨rfl,rfl⟩|rfl
theorem wV{bs:List Int}(hB:Bytes bs)(c:Cu bs)(l j:Nat)(S:Store)(n:Int)(hk:aN S (l,j)=some (.box (cur c)))(h1:1<=n)(h2:n<=256):
 bF prog 136 [.c (.ptr (l,j) 0),.c (.d (.i .i64 n))] S (fun r S'=>r=.c (.d (.b (fF n c).1))/\S'=aR S (l,j) (.box (cur (fF n c).2))):=by
 refine zcx [.tmp 4] func136 ntmps136 ?_;simp -implicitDefEqProofs (disch:=omega) only[go_sem];refine aX rfl (eO hB c (1+l) j ([]::S) n (by rw[aY];exact hk) h1 h2) ?_;simp -implicitDefEqProofs (disch:=omega) only[go_sem,aF]
 first|done|exact⟨rfl,rfl⟩|rfl
theorem iE{bs:List Int}(hB:Bytes bs)(c:Cu bs)(l j:Nat)(S:Store)(xs:List (List UInt8))(hk:aN S (l,j)=some (.box (cur c)))(h1:1<=xs.length)(h2:xs.length<=256):
 bF prog 88 [.c (.ptr (l,j) 0),.c (.d (.sl (xs.map encS)))] S (fun r S'=>r=.c (.d (.s (bV xs c).1))/\S'=aR S (l,j) (.box (cur (bV xs c).2))):=by
 have hx:=gU (n:=xs.length) c (by omega);refine zcx [.tmp 4] func88 ntmps88 ?_;simp -implicitDefEqProofs (disch:=omega) only[go_sem,encS];refine aX rfl (eO hB c (1+l) j ([]::S) xs.length (by rw[aY];exact hk) (by omega) (by omega)) ?_
 have hi:(bg (xs.length:Int) c).1.toNat<xs.length:=by omega
 have e:(bV xs c).1=xs[(bg (xs.length:Int) c).1.toNat]:=by simp only[bV,List.getD,List.getElem?_eq_getElem hi,Option.getD_some]
 simp -implicitDefEqProofs (disch:=omega) only[go_sem,encS,aF]
 (repeat(with_reducible refine And.intro ?_ ?_;focus first|omega|rfl|assumption|exact⟨_,rfl,rfl⟩|(simp;omega)|(simp;done)))
 rw[e]
 first|done|exact⟨rfl,rfl⟩|rfl
def I8(S:Store)(os:List Obj):Store:=match S with
 |fr::Ω=>(fr++os)::Ω
 |[]=>[]
def xO(S:Store):Nat:=match S with
 |fr::_=>fr.length
 |[]=>0
def zm(S:Store):Bool:=match S with
 |_::_=>true
 |[]=>false
theorem Cr{fr:List Obj}{Ω:Store}{os:List Obj}:I8 (fr::Ω) os=(fr++os)::Ω:=rfl
theorem oU{fr:List Obj}{Ω:Store}:xO (fr::Ω)=fr.length:=rfl
theorem RQ{fr:List Obj}{Ω:Store}:zm (fr::Ω)=true:=rfl
theorem VD{k:Key}{x:Obj}:∀{S:Store},zm (aR S k x)=zm S
 |[]=>rfl
 |fr::S=>by
  obtain⟨l,j⟩:=k;cases l<;>rfl
theorem abN{k:Key}{x:Obj}:∀{S:Store},xO (aR S k x)=xO S
 |[]=>rfl
 |fr::S=>by
  obtain⟨l,j⟩:=k;cases l
  ·show(fr.set j x).length=fr.length
   simp
  ·rfl
def nI(P:Program)(f:FuncId)(args:List V)(S:Store)(raw:V->List Obj->Store->Prop):Prop:=
 Known P f/\∀w σ β vs,dB w σ S β->ni w σ S β args vs->
  Calls P f vs.toArray w fun e w'=>∃v r own S1 bo β1 σ',e=.returned v/\dB w' σ' (own::S1) (bo::β1)/\Keep S β S1 β1/\Step S β σ w (own::S1) (bo::β1) σ' w'/\bT w' σ' (own::S1) (bo::β1) r v/\raw r own S1
def Po(P:Program)(rs:List ResultVar)(raw:V->List Obj->Store->Prop)(e:Exit)(s:St):Prop:=
 match e with
 | .normal| .ret=>(mo P rs s).1/\match s.st with
   |own::S1=>raw (mo P rs s).2 own S1
   |[]=>False
 |_=>False
section
variable {P:Program} {N:Nat} {s:St} {S:Store}
theorem LJ{f:FuncId}{fn:Func}{c:Code}{args:List V}{raw:V->List Obj->Store->Prop}(hf:P.funcs[f]? =some fn)(hb:fn.body=some c)(hn:(fn.name== "runtime.NumGoroutine")=false)
 (hl:args.length<=fn.ntmps)(h:AW P fn.ntmps c (Po P fn.results.toList raw) ⟨jW (args.map (V.up 1)) 0,[]::S⟩):nI P f args S raw:=by
 refine⟨⟨fn,hf,hn,by simp[hb]⟩,fun w σ β vs hS hargs=> ?_⟩;refine calls_of_wp hf hb ?_;have hlen:vs.length=args.length:=hargs.1.symm
 have OB:iL fn.ntmps ⟨jW (args.map (V.up 1)) 0,[]::S⟩ {tmps:=vs.toArray++Array.replicate (fn.ntmps-vs.toArray.size) undef,defers:=[]} w σ ([]::β):=by
  refine⟨by simp;omega,rfl,hS.up1,fun t=> ?_⟩;show bT w σ ([]::S) ([]::β) (look (jW (args.map (V.up 1)) 0) t) _;rw[yt,if_pos (Nat.zero_le _),Nat.sub_zero,List.getElem?_map]
  cases ha:args[t]? with
  |none=>exact trivial
  |some x=>
   obtain⟨v,hv,hr⟩:=hargs.2 t x ha;have ht:=(List.getElem?_eq_some_iff.1 hv).1
   have:(vs.toArray++Array.replicate (fn.ntmps-vs.toArray.size) undef).getD t undef=v:=by
    rw[Array.getD_eq_getD_getElem?,Array.getElem?_append_left (by simpa using ht)];simp[hv]
   rw[this];exact EZ (S:=[]::S) (β:=[]::β) 1 hr
 refine wp_mono (h _ w σ ([]::β) OB) ?_;rintro e a' w' ⟨s',σ',β',hR,hst,hkp,hq⟩
 have main:((mo P fn.results.toList s').1/\match s'.st with
  |own::S1=>raw (mo P fn.results.toList s').2 own S1
  |[]=>False)->
   a'.defers=[]/\∃v,(results fn a'.tmps).run P w'=.ok v w'/\∃v1 r own S1 bo β1 σ',Ending.returned v=Ending.returned v1/\dB w' σ' (own::S1) (bo::β1)/\Keep S β S1 β1/\Step S β σ w (own::S1) (bo::β1) σ' w'/\bT w' σ' (own::S1) (bo::β1) r v1/\raw r own S1:=by
  rintro⟨q1,q2⟩;obtain⟨v,hv,hrep⟩:=DK (fn:=fn) hR q1;obtain⟨tm,st⟩:=s';simp only at q2;split at q2
  ·rename_i own S1;obtain⟨bo,β1,rfl,hlo⟩:=frames hR;have hst':Step ([]::S) ([]::β) σ w (own::S1) (bo::β1) σ' w':=hst;exact⟨hR.defers,v,hv,v,_,own,S1,bo,β1,σ',rfl,hR.S,hkp,⟨hst'.size,hst'.os,hst'.output,fun b hb ho=>hst'.far b hb (fun x=>ho (yJ x)),hst'.near,fun b hb=>(hst'.own b hb).imp yJ id⟩,hrep,q2⟩
  ·exact q2.elim
 cases e with
 |normal=>exact main hq
 |ret=>exact main hq
 |_=>exact hq.elim
def Pp(P:Program)(rs:List ResultVar)(raw:V->List Obj->Store->Prop)(s:St)(r:R):Prop:=r.1/\match s.st with
 |own::S1=>raw r.2 own S1
 |[]=>False
@[congr] theorem ahJ {rs:List ResultVar} {raw:V->List Obj->Store->Prop} {s s':St} {r r':R} (h1:s=s') (h2:r=r'):Pp P rs raw s r=Pp P rs raw s' r':=by rw[h1,h2]
theorem abO{rs:List ResultVar}{raw:V->List Obj->Store->Prop}{tm:List (Nat×V)}{S:Store}:Po P rs raw .ret ⟨tm,S⟩=Pp P rs raw ⟨tm,S⟩ (mo P rs ⟨tm,S⟩):=rfl
theorem RS{rs:List ResultVar}{raw:V->List Obj->Store->Prop}{tm:List (Nat×V)}{S:Store}:Po P rs raw .normal ⟨tm,S⟩=Pp P rs raw ⟨tm,S⟩ (mo P rs ⟨tm,S⟩):=rfl
theorem ael{rs:List ResultVar}{raw:V->List Obj->Store->Prop}{tm:List (Nat×V)}{own:List Obj}{S1:Store}{p:Prop}{v:V}:Pp P rs raw ⟨tm,own::S1⟩ (p,v)=(p/\raw v own S1):=rfl
theorem zn{f:FuncId}{fn:Func}{c:Code}{args:List V}{raw:V->List Obj->Store->Prop}{rs:List ResultVar}(eZ:P.follows .mixedOrders=true)(hf:P.funcs[f]? =some fn)(hN:fn.ntmps=N)
 (hb:fn.body=some c) (hn:(fn.name== "runtime.NumGoroutine")=false) (hr:fn.results.toList=rs) (hl:Nat.ble args.length N=true) (hok:codeOk N c=true)
 (h:CW P N c (Po P rs raw) ⟨jW (args.map (V.up 1)) 0,[]::S⟩):nI P f args S raw:=by
 subst hN;subst hr;exact LJ hf hb hn (Nat.le_of_ble_eq_true hl) (je eZ c _ _ hok h)
theorem aem(T:List TypeId){f:FuncId}{fn:Func}{c:Code}{args:List V}{raw:V->List Obj->Store->Prop}{rs:List ResultVar}(eZ:P.follows .mixedOrders=true)(hf:P.funcs[f]? =some fn)(hN:fn.ntmps=N)
 (hb:fn.body=some c) (hn:(fn.name== "runtime.NumGoroutine")=false) (hr:fn.results.toList=rs) (hl:Nat.ble args.length N=true) (hok:lQ T N c=true)
 (h:kN P N T c (Po P rs raw) ⟨jW (args.map (V.up 1)) 0,[]::S⟩):nI P f args S raw:=by
 subst hN;subst hr;exact LJ hf hb hn (Nat.le_of_ble_eq_true hl) (lD eZ c _ _ hok h)
theorem nI.mono{f:FuncId}{args:List V}{raw raw':V->List Obj->Store->Prop}(h:nI P f args S raw)(hi:∀r own S1,raw r own S1->raw' r own S1):nI P f args S raw':=
 ⟨h.1,fun w σ β vs hS hv=>(h.2 w σ β vs hS hv).mono fun e w' ⟨v,r,own,S1,bo,β1,σ',q1,q2,q3,q4,q5,q6⟩=>⟨v,r,own,S1,bo,β1,σ',q1,q2,q3,q4,q5,hi _ _ _ q6⟩⟩
end
def D7(own:List Obj)(x:C)(z:Nat)(es:List (List D)):Prop:=(∃m,own[m]? =some (.tok z es)/\x=.bL (0,m) es)\/(x=.bE es/\∀e∈es,e.length=z)
section
variable {w:World} {σ:Nat->Nat} {own fr:List Obj} {Ω:Store} {bo bf:List Value} {bΩ:Hs}
theorem tL{S1:Store}{β1:Hs}{x:C}{z:Nat}{es:List (List D)}{v:Value}(h:D7 own x z es)(hr:fH w σ (own::S1) (bo::β1) x v):bS w σ (.sl es) v:=by
 rcases h with⟨m,h1,rfl⟩|⟨rfl,_⟩
 ·exact hr.1
 ·exact hr.1
theorem GQ{S1:Store}{β1:Hs}{x:C}{z:Nat}{es:List (List D)}{v:Value}(hS:dB w σ (own::S1) (bo::β1))(h:D7 own x z es)(hr:fH w σ (own::S1) (bo::β1) x v):
 (∀S' β',fD w σ S' β' (.tok z es) v)/\∀b,owns (.tok z es) v b->∃m,own[m]? =some (.tok z es)/\x=.bL (0,m) es/\bo[m]? =some v:=by
 rcases h with⟨m,h1,rfl⟩|⟨rfl,h2⟩
 ·obtain⟨hd,o,ho,hl⟩:=hr;rw[aP,h1] at ho;cases ho;have hb:=(hl _ _ (.inl rfl)).2 rfl;obtain⟨hv,e1,e2⟩:=hS.obj (0,m) _ (by rw[aP];exact h1);rw[hb] at e1;cases e1;rw[aP] at hb;exact⟨fun _ _=>e2,fun b _=>⟨m,h1,rfl,hb⟩⟩
 ·obtain⟨hd,a,n,rfl⟩:=hr
  have hn:n=es.length:=by cases hd<;>rfl
  subst hn;refine⟨fun _ _=>⟨hd,h2,a,es.length,rfl,Nat.le_refl _,.inl rfl⟩,fun b hb=> ?_⟩
  cases a with
  |none=>cases hb
  |some a=>simp[owns,blk] at hb
end
def zo(cs:List C):Bool:=cs.all fun c=>match c with
 | .d _=>true
 |_=>false
theorem I9{w:World}{σ:Nat->Nat}{S S':Store}{β β':Hs}{c:C}{v:Value}(h:(match c with
 | .d _=>true
 |_=>false)=true) (hr:fH w σ S β c v):fH w σ S' β' c v:=by
 cases c<;>first|exact hr|(cases h;done)
theorem F6{w:World}{σ:Nat->Nat}{S S':Store}{β β':Hs}{pre post:List C}{x x':C}{a:List Value}(h1:zo pre=true)(h2:zo post=true)(hr:dS w σ S β (pre++x::post) a)
 (hx:∀v,a[pre.length]? =some v->fH w σ S β x v->fH w σ S' β' x' v):dS w σ S' β' (pre++x'::post) a:=by
 refine⟨by simpa using hr.1,fun j y hy=> ?_⟩;rcases Nat.lt_trichotomy j pre.length with hj|hj|hj
 ·rw[List.getElem?_append_left hj] at hy;obtain⟨v,e1,e2,e3⟩:=hr.2 j y (by rw[List.getElem?_append_left hj];exact hy);exact⟨v,e1,I9 (List.all_eq_true.1 h1 y (List.mem_of_getElem? hy)) e2,e3⟩
 ·subst hj;rw[List.getElem?_append_right (Nat.le_refl _),Nat.sub_self,List.getElem?_cons_zero] at hy;cases hy;obtain⟨v,e1,e2,e3⟩:=hr.2 pre.length x (by rw[List.getElem?_append_right (Nat.le_refl _),Nat.sub_self];rfl);exact⟨v,e1,hx v e1 e2,e3⟩
 ·rw[List.getElem?_append_right (by omega),show j-pre.length=(j-pre.length-1)+1 by omega,List.getElem?_cons_succ] at hy;obtain⟨v,e1,e2,e3⟩:=hr.2 j y (by rw[List.getElem?_append_right (by omega),show j-pre.length=(j-pre.length-1)+1 by omega,List.getElem?_cons_succ];exact hy);exact⟨v,e1,I9 (List.all_eq_true.1 h2 y (List.mem_of_getElem? hy)) e2,e3⟩
section
variable {P:Program} {S S':Store} {f:FuncId} {args:List V}
theorem nI.plain{pre post:List C}{z:Nat}{es:List (List D)}(h1:zo pre=true)(h2:zo post=true)(h:nI P f args S fun r own S1=>S1=S'/\∃x,r=.agg (pre++x::post)/\D7 own x z es):
 bF P f args S fun r S1=>r=.agg (pre++ .d (.sl es)::post)/\S1=S':=by
 refine⟨h.1,fun w σ β vs hS hv=>(h.2 w σ β vs hS hv).mono fun e w' ⟨v,r,own,S1,bo,β1,σ',q1,q2,q3,q4,q5,q6,x,q7,q8⟩=> ?_⟩;subst q6 q7;obtain⟨a,rfl,hc⟩:=q5;exact⟨_,.agg (pre++ .d (.sl es)::post),S1,σ',β1,q1,q2.E5,q3,⟨q4.size,q4.os,q4.output,q4.far,q4.near,fun b hb=>q4.own b (tq hb)⟩,⟨a,rfl,F6 h1 h2 hc fun v e1 e2=>tL q8 e2⟩,rfl,rfl⟩
theorem nI.push{pre post:List C}{z:Nat}{es:List (List D)}(h1:zo pre=true)(h2:zo post=true)(ht:zm S'=true)(h:nI P f args S fun r own S1=>S1=S'/\∃x,r=.agg (pre++x::post)/\D7 own x z es):
 bF P f args S fun r S1=>r=.agg (pre++ .bL (0,xO S') es::post)/\S1=I8 S' [.tok z es]:=by
 refine⟨h.1,fun w σ β vs hS hv=>(h.2 w σ β vs hS hv).mono fun e w' ⟨v,r,own,S1,bo,β1,σ',q1,q2,q3,q4,q5,q6,x,q7,q8⟩=> ?_⟩;subst q6 q7;obtain⟨a,rfl,hc⟩:=q5;obtain⟨u,e1,e2,e3⟩:=hc.2 pre.length x (by rw[List.getElem?_append_right (Nat.le_refl _),Nat.sub_self];rfl);obtain⟨k1,k2⟩:=GQ q2 q8 e2
 cases S1 with
 |nil=>cases ht
 |cons fr Ω=>
 have hd:=q2.E5
 obtain⟨bf,bΩ,rfl,hlen⟩:∃bf bΩ,β1=bf::bΩ/\bf.length=fr.length:=by
  cases β1 with
  |nil=>have:=hd.shape.1;simp at this
  |cons bf bΩ=>
   refine⟨bf,bΩ,rfl,?_⟩;obtain⟨gr,q1,q2⟩:=hd.shape.2 0 fr rfl;simp at q1;rw[q1];exact q2
 obtain⟨l1,l2,l3⟩:=hd.lay (o:=.tok z es) (h:=u) hlen (k1 _ _) fun b hb ⟨k,o,hh,f1,f2,f3⟩=>by
  obtain⟨m,g1,g2,g3⟩:=k2 b hb;have:=q2.apart (0,m) (k.1+1,k.2) _ o u hh b (by rw[aP];exact g1) (by rw[aP];exact g3) hb (by rw[bI];exact f1) (by rw[bI];exact f2) f3;cases this
 refine⟨_,.agg (pre++ .bL (0,xO (fr::Ω)) es::post),_,σ',_,q1,l1,q3.trans l2,⟨q4.size,q4.os,q4.output,q4.far,q4.near,fun b hb=> ?_⟩,⟨a,rfl,F6 h1 h2 hc fun v f1 f2=> ?_⟩,rfl,rfl⟩
 ·rcases l3 b hb with q|q
  ·exact q4.own b (tq q)
  ·obtain⟨m,g1,g2,g3⟩:=k2 b q;exact q4.own b ⟨(0,m),_,u,by rw[aP];exact g1,by rw[aP];exact g3,q⟩
 ·rw[e1] at f1;cases f1;refine⟨tL q8 e2,_,by rw[oU];exact bn _ _ _,fun aK es' e=> ?_⟩;obtain⟨_,rfl⟩:=jd (lab:=none) e;exact⟨Nat.le_refl _,fun _=>by rw[oU,<-hlen,bn]⟩
end
attribute [go_sem ↓] abO RS
attribute [go_sem] ael Cr oU RQ VD abN
def KU(s:List UInt8):ak:=.mk 1 s []
def rQ(s:List UInt8)(l:List ak):ak:=.mk 2 s l
def zZ(s:List UInt8)(t:ak):ak:=.mk 3 s [t]
def abP(s:List UInt8):ak:=.mk 4 s []
def Ct:List (List UInt8):=[[105,110,116],[98,111,111,108],[117,110,105,116]]
def z8:List (List UInt8):=[[108,105,115,116],[108,105,115,116],[98,111,120]]
def mH{bs:List Int}(vars:List (List UInt8)):Nat->Cu bs->ak×Cu bs
 |0,c=>if(bg 8 c).1<3/\0<vars.length then(KU (bV vars (bg 8 c).2).1,(bV vars (bg 8 c).2).2)
  else(rQ (bV Ct (bg 8 c).2).1 [],(bV Ct (bg 8 c).2).2)
 |n+1,c=>if(bg 8 c).1<3/\0<vars.length then(KU (bV vars (bg 8 c).2).1,(bV vars (bg 8 c).2).2)
  else if(bg 8 c).1<5 then(rQ (bV Ct (bg 8 c).2).1 [],(bV Ct (bg 8 c).2).2)
  else if(bg 8 c).1=5 then(rQ [112,97,105,114] [(mH vars n (bg 8 c).2).1,(mH vars n (mH vars n (bg 8 c).2).2).1],(mH vars n (mH vars n (bg 8 c).2).2).2)
  else(rQ (bV z8 (bg 8 c).2).1 [(mH vars n (bV z8 (bg 8 c).2).2).1],(mH vars n (bV z8 (bg 8 c).2).2).2)
def fI(l:List (List UInt8)):Prop:=∀s∈l,s.length<=8
theorem iU{bs:List Int}{xs:List (List UInt8)}(c:Cu bs)(h:fI xs):(bV xs c).1.length<=8:=by
 by_cases h1:1<=xs.length
 ·exact h _ (YI c h1)
 ·have:xs=[]:=List.eq_nil_of_length_eq_zero (by omega);subst this;simp[bV]
theorem Ja:fI Ct:=by unfold fI;decide
theorem short_list:fI z8:=by unfold fI;decide
theorem wW(s:List UInt8):(KU s).sz=s.length:=by simp[KU,ak.sz,ak.aB,bG,D.sz,bA,ak.fName,ak.fArgs]
theorem KV(s:List UInt8):(rQ s []).sz=s.length:=by simp[rQ,ak.sz,ak.aB,bG,D.sz,bA,ak.fName,ak.fArgs]
theorem Tg(s:List UInt8)(t:ak):(rQ s [t]).sz=s.length+1+t.sz:=by
 have:=ak.bZ t;simp only[rQ,ak.sz,ak.aB,bG,D.sz,bA,ak.fName,ak.fArgs,List.map_cons,List.map_nil,List.length_cons,List.length_nil] at this ⊢;omega
theorem aen(s:List UInt8)(t u:ak):(rQ s [t,u]).sz=s.length+2+t.sz+u.sz:=by
 have h1:=ak.bZ t;have h2:=ak.bZ u;simp only[rQ,ak.sz,ak.aB,bG,D.sz,bA,ak.fName,ak.fArgs,List.map_cons,List.map_nil,List.length_cons,List.length_nil] at h1 h2 ⊢;omega
theorem Jb{bs:List Int}{vars:List (List UInt8)}(hv:fI vars):∀(n:Nat)(c:Cu bs),(mH vars n c).1.sz+10<=18*2^n
 |0,c=>by
  rw[mH];split
  ·have:=iU (bg 8 c).2 hv;simp only[wW];omega
  ·have:=iU (bg 8 c).2 Ja;simp only[KV];omega
 |n+1,c=>by
  have ih:=Jb hv n (bs:=bs)
  have hp:2^ (n+1)=2^n+2^n:=by rw[Nat.pow_succ];omega
  have h2:=Nat.one_le_two_pow (n:=n);rw[mH];split
  ·have:=iU (bg 8 c).2 hv;simp only[wW];omega
  split
  ·have:=iU (bg 8 c).2 Ja;simp only[KV];omega
  split
  ·have h3:=ih (bg 8 c).2;have h4:=ih (mH vars n (bg 8 c).2).2;simp only[aen,List.length_cons,List.length_nil];omega
  ·have h3:=ih (bV z8 (bg 8 c).2).2;have:=iU (bg 8 c).2 short_list;simp only[Tg];omega
def tyP(t:ak):List C:=[.d (.i .i64 t.aH),.d (.s t.fName)]
theorem LK(t:ak):zo (tyP t)=true:=rfl
def Jc(t:ak)(S':Store)(r:V)(own:List Obj)(S1:Store):Prop:=S1=S'/\∃x,r=.agg (tyP t++x::[])/\D7 own x 3 (t.fArgs.map ak.enc)
theorem Pq(l:List ak):∀y∈l.map ak.enc,y.length=3:=by
 intro y hy;obtain⟨x,_,rfl⟩:=List.mem_map.1 hy;rw[ak.aB];rfl
theorem vO(s:List UInt8):aG prog 89 [.c (.d (.s s))] (.agg [.d (.i .i64 1),.d (.s s),.bE []]):=fun S=>by
 refine zcx [.cell 2 29] func89 ntmps89 ?_;simp -implicitDefEqProofs (disch:=omega) only[go_sem]
 first|done|exact⟨rfl,rfl⟩|rfl
theorem LM(s:List UInt8)(l:List ak){es:List (List D)}(he:es=l.map ak.enc)(hl:l.length<=1048576){a:C}(ha:a=.d (.sl es)\/a=.bE es)(S:Store):nI prog 140 [.c (.d (.s s)),.c a] S (Jc (rQ s l) S):=by
 subst he;refine zn (rs:=[.cell 4 29]) zmx func140 ntmps140 rfl rfl rfl rfl rfl ?_;have hln:=Pq l;rcases ha with rfl|rfl
 all_goals
  simp -implicitDefEqProofs (disch:=omega) only[go_sem];refine⟨hln,⟨_,rfl,rfl⟩,fun y hy=>absurd hy List.not_mem_nil,by omega,rfl,_,rfl,.inl ⟨1,rfl,rfl⟩⟩
theorem wD{f:FuncId}{args:List V}{S S':Store}{t:ak}(h:nI prog f args S (Jc t S')):bF prog f args S (fun r S1=>r=.agg [.d (.i .i64 t.aH),.d (.s t.fName),.d (.sl (t.fArgs.map ak.enc))]/\S1=S'):=
 nI.plain (LK t) rfl h
theorem Jd{f:FuncId}{args:List V}{S S':Store}{t:ak}(ht:zm S'=true)(h:nI prog f args S (Jc t S')):
 bF prog f args S (fun r S1=>r=.agg [.d (.i .i64 t.aH),.d (.s t.fName),.bL (0,xO S') (t.fArgs.map ak.enc)]/\S1=I8 S' [.tok 3 (t.fArgs.map ak.enc)]):=
 nI.push (LK t) rfl ht h
theorem uV(s:List UInt8)(l:List ak){es:List (List D)}(he:es=l.map ak.enc)(hl:l.length<=1048576){a:C}(ha:a=.d (.sl es)\/a=.bE es){own:List Ab.Obj}{Ω:Store}:
 bF prog 140 [.c (.d (.s s)),.c a] (own::Ω) (fun r S1=>r=.agg [.d (.i .i64 2),.d (.s s),.bL (0,own.length) es]/\S1=(own++[.tok 3 es])::Ω):=by
 have:=Jd (S':=own::Ω) rfl (LM s l he hl ha (own::Ω));rw[he];exact this
theorem abQ(s:List UInt8)(l:List ak){es:List (List D)}(he:es=l.map ak.enc)(hl:l.length<=1048576){a:C}(ha:a=.d (.sl es)\/a=.bE es):aG prog 140 [.c (.d (.s s)),.c a] (.agg [.d (.i .i64 2),.d (.s s),.d (.sl es)]):=fun S=>by
 have:=wD (LM s l he hl ha S);rw[he];exact this
theorem Pt{bs:List Int}{xs:List (List UInt8)}(c:Cu bs)(hi:(bg (xs.length:Int) c).1.toNat<xs.length):xs[(bg (xs.length:Int) c).1.toNat]=(bV xs c).1:=by
 simp only[bV,List.getD,List.getElem?_eq_getElem hi,Option.getD_some]
theorem Pv{bs:List Int}(hB:Bytes bs){vars:List (List UInt8)}(hv:vars.length<=256):∀(n:Nat)(c:Cu bs)(l j:Nat)(S:Store),aN S (l,j)=some (.box (cur c))->n<=1048576->
 nI prog 155 [.c (.ptr (l,j) 0),.c (.d (.sl (vars.map encS))),.c (.d (.i .i64 n))] S (Jc (mH vars n c).1 (aR S (l,j) (.box (cur (mH vars n c).2)))):=by
 intro n
 induction n with
 |zero=>
  intro c l j S hk hn;have g:∀x:Ab.Obj,aN (aR S (l,j) x) (l,j)=some x:=fun x=>bP _ _ _ _ hk;obtain⟨k,hkd⟩:∃k,k=(bg 8 c).1:=⟨_,rfl⟩;obtain⟨c1,hc1⟩:∃c1,c1=(bg 8 c).2:=⟨_,rfl⟩;rw[mH,<-hkd,<-hc1];refine zn (rs:=[.cell 6 29]) zmx func155 ntmps155 rfl rfl rfl rfl rfl ?_;simp -implicitDefEqProofs (disch:=omega) only[go_sem];refine aX rfl (eO hB c (1+l) j _ 8 (by rw[aY];exact hk) (by omega) (by omega)) ?_;rw[<-hkd,<-hc1];have d0:decide (((0:Nat):Int)<=0)=true:=rfl;simp -implicitDefEqProofs (disch:=omega) only[go_sem,aF]
  with_reducible refine aA (fun hb=> ?_) (fun hb=> ?_)<;>have h:=hb<;>(try simp only[wf_preprocess] at h)<;>simp -implicitDefEqProofs (disch:=omega) only[go_sem,hb,d0,aF]<;>(repeat(with_reducible refine And.intro ?_ ?_;focus first|omega|rfl|assumption|exact⟨_,rfl,rfl⟩|(simp;omega)|(simp;done)))
  rotate_left
  rw[if_neg (by omega)]
  rotate_left
  with_reducible refine aA (fun hb=> ?_) (fun hb=> ?_)<;>have h:=hb<;>(try simp only[wf_preprocess] at h)<;>simp -implicitDefEqProofs (disch:=omega) only[go_sem,hb,d0,aF]<;>(repeat(with_reducible refine And.intro ?_ ?_;focus first|omega|rfl|assumption|exact⟨_,rfl,rfl⟩|(simp;omega)|(simp;done)))
  ·have hx:=gU (n:=vars.length) c1 (by omega)
   have hi:(bg (vars.length:Int) c1).1.toNat<vars.length:=by omega
   rw[if_pos ⟨by omega,by omega⟩];refine aX rfl (eO hB c1 (1+l) j _ vars.length (by rw[aY];exact g _) (by omega) (by omega)) ?_;simp -implicitDefEqProofs (disch:=omega) only[go_sem,aF,aD,encS]
   (repeat(with_reducible refine And.intro ?_ ?_;focus first|omega|rfl|assumption|exact⟨_,rfl,rfl⟩|(simp;omega)|(simp;done)))
   rw[Pt c1 hi];refine ay (vO (bV vars c1).1) ?_;simp -implicitDefEqProofs (disch:=omega) only[go_sem]<;>(repeat(with_reducible refine And.intro ?_ ?_;focus first|omega|rfl|assumption|exact⟨_,rfl,rfl⟩|(simp;omega)|(simp;done)));exact⟨rfl,_,rfl,.inr ⟨rfl,fun e he=>by cases he⟩⟩
  rw[if_neg (by omega)]
  all_goals with_reducible refine aA (fun hb=> ?_) (fun hb=> ?_)<;>have h:=hb<;>(try simp only[wf_preprocess] at h)<;>simp -implicitDefEqProofs (disch:=omega) only[go_sem,hb,d0,aF]<;>(repeat(with_reducible refine And.intro ?_ ?_;focus first|omega|rfl|assumption|exact⟨_,rfl,rfl⟩|(simp;omega)|(simp;done)))
  all_goals
   refine dX [true] rfl (iE hB c1 (1+l) j _ Ct (by rw[aY];exact g _) (by decide) (by decide)) ?_;simp -implicitDefEqProofs (disch:=omega) only[go_sem,aF,aD];refine aX rfl (uV _ [] rfl (Nat.zero_le _) (.inr rfl)) ?_;simp -implicitDefEqProofs (disch:=omega) only[go_sem,aF,aD];exact⟨rfl,_,rfl,.inl ⟨1,rfl,rfl⟩⟩
 |succ n ih=>
  intro c l j S hk hn;have g:∀x:Ab.Obj,aN (aR S (l,j) x) (l,j)=some x:=fun x=>bP _ _ _ _ hk;obtain⟨k,hkd⟩:∃k,k=(bg 8 c).1:=⟨_,rfl⟩;obtain⟨c1,hc1⟩:∃c1,c1=(bg 8 c).2:=⟨_,rfl⟩;have ih1:=fun c l j S hk=>wD (ih c l j S hk (by omega));rw[mH,<-hkd,<-hc1];refine zn (rs:=[.cell 6 29]) zmx func155 ntmps155 rfl rfl rfl rfl rfl ?_;simp -implicitDefEqProofs (disch:=omega) only[go_sem];refine aX rfl (eO hB c (1+l) j _ 8 (by rw[aY];exact hk) (by omega) (by omega)) ?_;rw[<-hkd,<-hc1];have d0:decide (((n+1:Nat):Int)<=0)=false:=decide_eq_false (by omega)
  have d1:((n+1:Nat):Int)-1=(n:Int):=by omega
  simp -implicitDefEqProofs (disch:=omega) only[go_sem,aF]
  with_reducible refine aA (fun hb=> ?_) (fun hb=> ?_)<;>have h:=hb<;>(try simp only[wf_preprocess] at h)<;>simp -implicitDefEqProofs (disch:=omega) only[go_sem,hb,d0,aF]<;>(repeat(with_reducible refine And.intro ?_ ?_;focus first|omega|rfl|assumption|exact⟨_,rfl,rfl⟩|(simp;omega)|(simp;done)))
  rotate_left
  rw[if_neg (by omega)]
  rotate_left
  with_reducible refine aA (fun hb=> ?_) (fun hb=> ?_)<;>have h:=hb<;>(try simp only[wf_preprocess] at h)<;>simp -implicitDefEqProofs (disch:=omega) only[go_sem,hb,d0,aF]<;>(repeat(with_reducible refine And.intro ?_ ?_;focus first|omega|rfl|assumption|exact⟨_,rfl,rfl⟩|(simp;omega)|(simp;done)))
  ·have hx:=gU (n:=vars.length) c1 (by omega)
   have hi:(bg (vars.length:Int) c1).1.toNat<vars.length:=by omega
   rw[if_pos ⟨by omega,by omega⟩];refine aX rfl (eO hB c1 (1+l) j _ vars.length (by rw[aY];exact g _) (by omega) (by omega)) ?_;simp -implicitDefEqProofs (disch:=omega) only[go_sem,aF,aD,encS]
   (repeat(with_reducible refine And.intro ?_ ?_;focus first|omega|rfl|assumption|exact⟨_,rfl,rfl⟩|(simp;omega)|(simp;done)))
   rw[Pt c1 hi];refine ay (vO (bV vars c1).1) ?_;simp -implicitDefEqProofs (disch:=omega) only[go_sem]<;>(repeat(with_reducible refine And.intro ?_ ?_;focus first|omega|rfl|assumption|exact⟨_,rfl,rfl⟩|(simp;omega)|(simp;done)));exact⟨rfl,_,rfl,.inr ⟨rfl,fun e he=>by cases he⟩⟩
  rw[if_neg (by omega)]
  all_goals
   with_reducible refine aA (fun hb=> ?_) (fun hb=> ?_)<;>have h:=hb<;>(try simp only[wf_preprocess] at h)<;>simp -implicitDefEqProofs (disch:=omega) only[go_sem,hb,d0,aF]<;>(repeat(with_reducible refine And.intro ?_ ?_;focus first|omega|rfl|assumption|exact⟨_,rfl,rfl⟩|(simp;omega)|(simp;done)))
   ·rw[if_pos (by omega)];refine dX [true] rfl (iE hB c1 (1+l) j _ Ct (by rw[aY];exact g _) (by decide) (by decide)) ?_;simp -implicitDefEqProofs (disch:=omega) only[go_sem,aF,aD];refine aX rfl (uV _ [] rfl (Nat.zero_le _) (.inr rfl)) ?_;simp -implicitDefEqProofs (disch:=omega) only[go_sem,aF,aD];exact⟨rfl,_,rfl,.inl ⟨1,rfl,rfl⟩⟩
   rw[if_neg (by omega)]
   with_reducible refine aA (fun hb=> ?_) (fun hb=> ?_)<;>have h:=hb<;>(try simp only[wf_preprocess] at h)<;>simp -implicitDefEqProofs (disch:=omega) only[go_sem,hb,d1,aF]<;>(repeat(with_reducible refine And.intro ?_ ?_;focus first|omega|rfl|assumption|exact⟨_,rfl,rfl⟩|(simp;omega)|(simp;done)))
   ·rw[if_pos (by omega)];refine aX rfl (ih1 c1 (1+l) j _ (by rw[aY];exact g _)) ?_;simp -implicitDefEqProofs (disch:=omega) only[go_sem,d1,aF,aD];refine aX rfl (ih1 (mH vars n c1).2 (1+l) j _ (by rw[aY];exact g _)) ?_;simp -implicitDefEqProofs (disch:=omega) only[go_sem,aF,aD]
    (repeat(with_reducible refine And.intro ?_ ?_;focus first|omega|rfl|assumption|exact⟨_,rfl,rfl⟩|(simp;omega)|(simp;done)))
    refine aX rfl (uV _ [(mH vars n c1).1,(mH vars n (mH vars n c1).2).1] (by simp only[List.map_cons,List.map_nil,ak.aB]) (by simp) (.inr rfl)) ?_;simp -implicitDefEqProofs (disch:=omega) only[go_sem,aF,aD];refine⟨rfl,_,rfl,.inl ⟨1,?_,?_⟩⟩<;>simp only[rQ,ak.fArgs,List.map_cons,List.map_nil,ak.aB]<;>rfl
   ·rw[if_neg (by omega)];refine dX [true] rfl (iE hB c1 (1+l) j _ z8 (by rw[aY];exact g _) (by decide) (by decide)) ?_;simp -implicitDefEqProofs (disch:=omega) only[go_sem,d1,aF,aD];refine aX rfl (ih1 (bV z8 c1).2 (1+l) j _ (by rw[aY];exact g _)) ?_;simp -implicitDefEqProofs (disch:=omega) only[go_sem,aF,aD]
    (repeat(with_reducible refine And.intro ?_ ?_;focus first|omega|rfl|assumption|exact⟨_,rfl,rfl⟩|(simp;omega)|(simp;done)))
    refine aX rfl (uV _ [(mH vars n (bV z8 c1).2).1] (by simp only[List.map_cons,List.map_nil,ak.aB]) (by simp) (.inr rfl)) ?_;simp -implicitDefEqProofs (disch:=omega) only[go_sem,aF,aD];refine⟨rfl,_,rfl,.inl ⟨1,?_,?_⟩⟩<;>simp only[rQ,ak.fArgs,List.map_cons,List.map_nil,ak.aB]<;>rfl
def Je:List (List UInt8):=[[97],[98]]
def D8:List (List UInt8):=[[97,100,100],[115,104,111,119]]
theorem Pw:fI Je:=by unfold fI;decide
theorem RU:fI D8:=by unfold fI;decide
def VF{bs:List Int}(t:ak)(c:Cu bs):ak×Cu bs:=
 if(bg 8 c).1=0 then(zZ (bV D8 (bg 8 c).2).1 t,(bV D8 (bg 8 c).2).2) else
 if(bg 8 c).1=1 then(rQ [108,105,115,116] [zZ [97,100,100] t],(bg 8 c).2) else
 if(bg 8 c).1=2 then(abP [115,104,111,119],(bg 8 c).2) else(t,(bg 8 c).2)
def uW{bs:List Int}(n:Nat)(c:Cu bs):ak×Cu bs:=VF (mH Je n c).1 (mH Je n c).2
def Cv:ak:=rQ [105,110,116] []
theorem Ti(s:List UInt8)(t:ak):(zZ s t).sz=s.length+1+t.sz:=by
 have:=ak.bZ t;simp only[zZ,ak.sz,ak.aB,bG,D.sz,bA,ak.fName,ak.fArgs,List.map_cons,List.map_nil,List.length_cons,List.length_nil] at this ⊢;omega
theorem afY(s:List UInt8):(abP s).sz=s.length:=by simp[abP,ak.sz,ak.aB,bG,D.sz,bA,ak.fName,ak.fArgs]
theorem Px{bs:List Int}(n:Nat)(c:Cu bs):(uW n c).1.sz<=18*2^n+10:=by
 have h:=Jb Pw n c;unfold uW VF;split
 ·have:=iU (bg 8 (mH Je n c).2).2 RU;simp only[Ti];omega
 split
 ·simp only[Tg,Ti,List.length_cons,List.length_nil];omega
 split
 ·simp only[afY,List.length_cons,List.length_nil];omega
 ·show(mH Je n c).1.sz<=_;omega
theorem LP(s:List UInt8)(t:ak)(h:t.sz<=4194304):aG prog 162 [.c (.d (.s s)),t.v] (.agg [.d (.i .i64 3),.d (.s s),.bE ([t].map ak.enc)]):=fun S=>by
 refine zcx [.cell 4 29] func162 ntmps162 ?_;simp -implicitDefEqProofs (disch:=omega) only[go_sem];refine ay (YB t h) ?_;simp -implicitDefEqProofs (disch:=omega) only[go_sem]<;>(repeat(with_reducible refine And.intro ?_ ?_;focus first|omega|rfl|assumption|exact⟨_,rfl,rfl⟩|(simp;omega)|(simp;done)))
theorem GR:aG prog 90 [] Cv.v:=fun S=>by
 refine zcx [.cell 0 29] func90 ntmps90 ?_;simp -implicitDefEqProofs (disch:=omega) only[go_sem];refine ay (abQ [105,110,116] [] rfl (Nat.zero_le _) (.inl rfl)) ?_;simp -implicitDefEqProofs (disch:=omega) only[go_sem]
 first|done|exact⟨rfl,rfl⟩|rfl
theorem VG{bs:List Int}(hB:Bytes bs)(n:Nat)(c:Cu bs)(l j:Nat)(S:Store)(hk:aN S (l,j)=some (.box (cur c)))(hn:n<=16):
 nI prog 93 [.c (.ptr (l,j) 0),.c (.d (.i .i64 n))] S (Jc (uW n c).1 (aR S (l,j) (.box (cur (uW n c).2)))):=by
 have g:∀x:Ab.Obj,aN (aR S (l,j) x) (l,j)=some x:=fun x=>bP _ _ _ _ hk;unfold uW;obtain⟨t,ht⟩:∃t,t=(mH Je n c).1:=⟨_,rfl⟩;obtain⟨c1,hc1⟩:∃c1,c1=(mH Je n c).2:=⟨_,rfl⟩
 have hsz:t.sz<=4194304:=by
  have:=Jb Pw n c;have h2:2^n<=2^16:=Nat.pow_le_pow_right (by omega) hn;rw[ht];omega
 rw[<-ht,<-hc1];unfold VF;obtain⟨k,hkd⟩:∃k,k=(bg 8 c1).1:=⟨_,rfl⟩;obtain⟨c2,hc2⟩:∃c2,c2=(bg 8 c1).2:=⟨_,rfl⟩;rw[<-hkd,<-hc2];refine aem [63] (rs:=[.cell 4 29]) zmx func93 ntmps93 rfl rfl rfl rfl rfl ?_;simp -implicitDefEqProofs (disch:=omega) only[go_sem]
 have h1:=Jd (S':=[.box [.d (.i .i64 0),.d (.s []),.bE []]]::aR S (l,j) (.box (cur (mH Je n c).2))) rfl (by
  have:=Pv hB (vars:=Je) (by decide) n c (1+l) j ([.box [.d (.i .i64 0),.d (.s []),.bE []]]::S) (by rw[aY];exact hk) (by omega);rw[aF] at this
  exact this)
 rw[<-ht,<-hc1] at h1;refine dX [true] rfl h1 ?_;simp -implicitDefEqProofs (disch:=omega) only[go_sem,aF];refine aX rfl (eO hB c1 (1+l) j _ 8 (by rw[aY];exact g _) (by omega) (by omega)) ?_;rw[<-hkd,<-hc2];simp -implicitDefEqProofs (disch:=omega) only[go_sem,aF,aD]
 with_reducible refine aA (fun hb=> ?_) (fun hb=> ?_)<;>have h:=hb<;>(try simp only[wf_preprocess] at h)<;>simp -implicitDefEqProofs (disch:=omega) only[go_sem,hb,aF,aD]<;>(repeat(with_reducible refine And.intro ?_ ?_;focus first|omega|rfl|assumption|exact⟨_,rfl,rfl⟩|(simp;omega)|(simp;done)))
 ·rw[if_pos h];refine dX [true] rfl (iE hB c2 (1+l) j _ D8 (by rw[aY];exact g _) (by decide) (by decide)) ?_;simp -implicitDefEqProofs (disch:=omega) only[go_sem,aF,aD];refine ay (LP (bV D8 c2).1 t hsz) ?_;simp -implicitDefEqProofs (disch:=omega) only[go_sem,aF,aD];refine⟨by cases l<;>rfl,?_⟩;simp -implicitDefEqProofs (disch:=omega) only[go_sem,aF,aD];exact⟨rfl,_,rfl,.inr ⟨by simp[zZ,ak.fArgs,ak.aB],Pq [t]⟩⟩
 rw[if_neg h]
 with_reducible refine aA (fun hb=> ?_) (fun hb=> ?_)<;>have h:=hb<;>(try simp only[wf_preprocess] at h)<;>simp -implicitDefEqProofs (disch:=omega) only[go_sem,hb,aF,aD]<;>(repeat(with_reducible refine And.intro ?_ ?_;focus first|omega|rfl|assumption|exact⟨_,rfl,rfl⟩|(simp;omega)|(simp;done)))
 ·rw[if_pos h];refine ay (LP [97,100,100] t hsz) ?_;simp -implicitDefEqProofs (disch:=omega) only[go_sem,aF,aD]
  (repeat(with_reducible refine And.intro ?_ ?_;focus first|omega|rfl|assumption|exact⟨_,rfl,rfl⟩|(simp;omega)|(simp;done)))
  refine aX rfl (uV _ [zZ [97,100,100] t] (by simp[zZ,ak.aB,ak.aH,ak.fName,ak.fArgs]) (by simp) (.inr rfl)) ?_;simp -implicitDefEqProofs (disch:=omega) only[go_sem,aF,aD];refine⟨rfl,_,rfl,.inl ⟨3,?_,?_⟩⟩<;>simp[rQ,zZ,ak.aB,ak.aH,ak.fName,ak.fArgs]
 rw[if_neg h]
 with_reducible refine aA (fun hb=> ?_) (fun hb=> ?_)<;>have h:=hb<;>(try simp only[wf_preprocess] at h)<;>simp -implicitDefEqProofs (disch:=omega) only[go_sem,hb,aF,aD]<;>(repeat(with_reducible refine And.intro ?_ ?_;focus first|omega|rfl|assumption|exact⟨_,rfl,rfl⟩|(simp;omega)|(simp;done)))
 ·rw[if_pos h];exact⟨rfl,_,rfl,.inr ⟨rfl,fun e he=>by cases he⟩⟩
 rw[if_neg h];exact⟨rfl,_,rfl,.inl ⟨1,rfl,rfl⟩⟩
theorem LQ{bs:List Int}(hB:Bytes bs)(n:Nat)(c:Cu bs)(l j:Nat)(S:Store)(hk:aN S (l,j)=some (.box (cur c)))(hn:n<=16):
 bF prog 93 [.c (.ptr (l,j) 0),.c (.d (.i .i64 n))] S (fun r S1=>r=(uW n c).1.v/\S1=aR S (l,j) (.box (cur (uW n c).2))):=
 wD (VG hB n c l j S hk hn)
section
variable {w:World} {σ:Nat->Nat}
def NC:C->Option D
 | .d d=>some d
 | .bE es=>some (.sl es)
 | .bL _ es=>some (.sl es)
 |_=>none
theorem YJ{S S':Store}{β β':Hs}{c:C}{d:D}{v:Value}(h:NC c=some d)(hr:fH w σ S β c v):fH w σ S' β' (.d d) v:=by
 cases c<;>simp only[NC,Option.some.injEq] at h<;>first|(cases h;done)|(subst h;first|exact hr|exact hr.1)
theorem D9{S S':Store}{β β':Hs}{pre:List C}{ds:List D}{x x' y y':C}{a:List Value}(h1:pre.map NC=ds.map some)(hr:dS w σ S β (pre++[x,y]) a)
 (hx:∀v,a[pre.length]? =some v->fH w σ S β x v->fH w σ S' β' x' v)(hy:∀v,a[pre.length+1]? =some v->fH w σ S β y v->fH w σ S' β' y' v):dS w σ S' β' (ds.map .d++[x',y']) a:=by
 have hl:pre.length=ds.length:=by have:=congrArg List.length h1;simpa using this
 refine⟨by have:=hr.1;simp only[List.length_append,List.length_map,List.length_cons,List.length_nil,hl] at this ⊢;exact this,fun j c hc=> ?_⟩;rcases Nat.lt_or_ge j pre.length with hj|hj
 ·rw[List.getElem?_append_left (by simp;omega),List.getElem?_map] at hc;obtain⟨d,hd,rfl⟩:=Option.map_eq_some_iff.1 hc;have hp:=congrArg (fun l=>l[j]?) h1;simp only[List.getElem?_map,hd,Option.map_some,List.getElem?_eq_getElem hj] at hp;obtain⟨v,e1,e2,e3⟩:=hr.2 j pre[j] (by rw[List.getElem?_append_left hj,List.getElem?_eq_getElem hj]);exact⟨v,e1,YJ (Option.some.inj hp) e2,e3⟩
 obtain⟨k,rfl⟩:∃k,j=pre.length+k:=⟨j-pre.length,by omega⟩;rw[List.getElem?_append_right (by simp;omega),List.length_map,<-hl,Nat.add_sub_cancel_left] at hc
 match k,hc with
 |0,hc=>
  cases hc;obtain⟨v,e1,e2,e3⟩:=hr.2 pre.length x (by rw[List.getElem?_append_right (Nat.le_refl _),Nat.sub_self];rfl);exact⟨v,e1,hx v e1 e2,e3⟩
 |1,hc=>
  cases hc;obtain⟨v,e1,e2,e3⟩:=hr.2 (pre.length+1) y (by rw[List.getElem?_append_right (by omega),Nat.add_sub_cancel_left];rfl);exact⟨v,e1,hy v e1 e2,e3⟩
 |k+2,hc=>simp at hc
end
section
variable {P:Program} {S S':Store} {f:FuncId} {args:List V}
def Two(ds:List D)(z z':Nat)(es es':List (List D))(S':Store)(r:V)(own:List Obj)(S1:Store):Prop:=S1=S'/\∃pre x y,r=.agg (pre++[x,y])/\pre.map NC=ds.map some/\D7 own x z es/\D7 own y z' es'
theorem nI.afZ{ds:List D}{z z':Nat}{es es':List (List D)}(h:nI P f args S (Two ds z z' es es' S')):
 bF P f args S fun r S1=>r=.agg (ds.map .d++[.d (.sl es),.d (.sl es')])/\S1=S':=by
 refine⟨h.1,fun w σ β vs hS hv=>(h.2 w σ β vs hS hv).mono fun e w' ⟨v,r,own,S1,bo,β1,σ',q1,q2,q3,q4,q5,q6,pre,x,y,q7,h1,q8,q9⟩=> ?_⟩;subst q6 q7;obtain⟨a,rfl,hc⟩:=q5;exact⟨_,.agg (ds.map .d++[.d (.sl es),.d (.sl es')]),S1,σ',β1,q1,q2.E5,q3,⟨q4.size,q4.os,q4.output,q4.far,q4.near,fun b hb=>q4.own b (tq hb)⟩,⟨a,rfl,D9 (x':=.d (.sl es)) (y':=.d (.sl es')) h1 hc (fun v e1 e2=>tL q8 e2) (fun v e1 e2=>tL q9 e2)⟩,rfl,rfl⟩
theorem nI.ahL{ds:List D}{z z':Nat}{es es':List (List D)}(hz:z≠z')(ht:zm S'=true)(h:nI P f args S (Two ds z z' es es' S')):
 bF P f args S fun r S1=>r=.agg (ds.map .d++[.bL (0,xO S') es,.bL (0,xO S'+1) es'])/\S1=I8 S' [.tok z es,.tok z' es']:=by
 refine⟨h.1,fun w σ β vs hS hv=>(h.2 w σ β vs hS hv).mono fun e w' ⟨v,r,own,S1,bo,β1,σ',q1,q2,q3,q4,q5,q6,pre,x,y,q7,h1,q8,q9⟩=> ?_⟩;subst q6 q7;obtain⟨a,rfl,hc⟩:=q5;obtain⟨u,e1,e2,e3⟩:=hc.2 pre.length x (by rw[List.getElem?_append_right (Nat.le_refl _),Nat.sub_self];rfl);obtain⟨u',FX,e2',e3'⟩:=hc.2 (pre.length+1) y (by rw[List.getElem?_append_right (by omega),Nat.add_sub_cancel_left];rfl);obtain⟨k1,k2⟩:=GQ q2 q8 e2;obtain⟨k1',k2'⟩:=GQ q2 q9 e2'
 cases S1 with
 |nil=>cases ht
 |cons fr Ω=>
 have hd:=q2.E5
 obtain⟨bf,bΩ,rfl,hlen⟩:∃bf bΩ,β1=bf::bΩ/\bf.length=fr.length:=by
  cases β1 with
  |nil=>have:=hd.shape.1;simp at this
  |cons bf bΩ=>
   refine⟨bf,bΩ,rfl,?_⟩;obtain⟨gr,q1,q2⟩:=hd.shape.2 0 fr rfl;simp at q1;rw[q1];exact q2
 obtain⟨l1,l2,l3⟩:=hd.lay (o:=.tok z es) (h:=u) hlen (k1 _ _) fun b hb ⟨k,o,hh,f1,f2,f3⟩=>by
  obtain⟨m,g1,g2,g3⟩:=k2 b hb;have:=q2.apart (0,m) (k.1+1,k.2) _ o u hh b (by rw[aP];exact g1) (by rw[aP];exact g3) hb (by rw[bI];exact f1) (by rw[bI];exact f2) f3;cases this
 obtain⟨l4,l5,l6⟩:=l1.lay (o:=.tok z' es') (h:=u') (by simp[hlen]) (k1' _ _) fun b hb ⟨k,o,hh,f1,f2,f3⟩=>by
  obtain⟨m',g1',g2',g3'⟩:=k2' b hb;rcases l3 b ⟨k,o,hh,f1,f2,f3⟩ with⟨k,o,hh,f1,f2,f3⟩|q
  ·have:=q2.apart (0,m') (k.1+1,k.2) _ o u' hh b (by rw[aP];exact g1') (by rw[aP];exact g3') hb (by rw[bI];exact f1) (by rw[bI];exact f2) f3;cases this
  ·obtain⟨m,g1,g2,g3⟩:=k2 b q;have:=q2.apart (0,m') (0,m) _ _ u' u b (by rw[aP];exact g1') (by rw[aP];exact g3') hb (by rw[aP];exact g1) (by rw[aP];exact g3) q;cases this;rw[g1] at g1';injection g1' with g1';injection g1' with g1';exact hz g1'
 have el:(fr++[Obj.tok z es]).length=fr.length+1:=by simp
 refine⟨_,.agg (ds.map .d++[.bL (0,xO (fr::Ω)) es,.bL (0,xO (fr::Ω)+1) es']),_,σ',_,q1,l4,(q3.trans l2).trans l5,⟨q4.size,q4.os,q4.output,q4.far,q4.near,fun b hb=> ?_⟩,⟨a,rfl,D9 h1 hc (fun v f1 f2=> ?_) fun v f1 f2=> ?_⟩,rfl,?_⟩
 ·rcases l6 b hb with q|q
  ·rcases l3 b q with q|q
   ·exact q4.own b (tq q)
   ·obtain⟨m,g1,g2,g3⟩:=k2 b q;exact q4.own b ⟨(0,m),_,u,by rw[aP];exact g1,by rw[aP];exact g3,q⟩
  ·obtain⟨m,g1,g2,g3⟩:=k2' b q;exact q4.own b ⟨(0,m),_,u',by rw[aP];exact g1,by rw[aP];exact g3,q⟩
 ·rw[e1] at f1;cases f1;refine⟨tL q8 e2,.tok z es,?_,fun aK es' e=> ?_⟩
  ·rw[oU,aP,List.getElem?_append_left (by simp),List.getElem?_append_right (Nat.le_refl _),Nat.sub_self];rfl
  obtain⟨_,rfl⟩:=jd (lab:=none) e;refine⟨Nat.le_refl _,fun _=> ?_⟩;rw[oU,aP,<-hlen,List.getElem?_append_left (by simp),List.getElem?_append_right (Nat.le_refl _),Nat.sub_self];rfl
 ·rw[FX] at f1;cases f1;refine⟨tL q9 e2',.tok z' es',?_,fun aK es' e=> ?_⟩
  ·rw[oU,<-el];exact bn _ _ _
  obtain⟨_,rfl⟩:=jd (lab:=none) e;refine⟨Nat.le_refl _,fun _=> ?_⟩;rw[oU,<-el,show(fr++[Obj.tok z es]).length=(bf++[u]).length by simp[hlen]];exact bn _ _ _
 ·rw[Cr,List.append_assoc];rfl
end
def zT:ak:=.mk 0 [] []
def qK(n:Int):au:=.mk 1 [] [] n zT [] []
def rD(n:Int):au:=.mk 2 [] [] n zT [] []
def rR(s:List UInt8):au:=.mk 3 [] s 0 zT [] []
def oC(k:Int)(s:List UInt8)(l:List au):au:=.mk k [] s 0 zT l []
def tO:List (List UInt8):=[[102],[103]]
def wE:List (List UInt8):=[[115,104,111,119],[97,100,100]]
def rE:List (List UInt8):=[[43],[45],[42],[60],[61]]
theorem Py:fI tO:=by unfold fI;decide
theorem VH:fI wE:=by unfold fI;decide
theorem VI:fI rE:=by unfold fI;decide
def aL:List (List UInt8):=[[97]]
theorem aeo:fI aL:=by unfold fI;decide
def jF{bs:List Int}(k:Int)(sub:List (List UInt8)->Cu bs->au×Cu bs)(vars:List (List UInt8))(c:Cu bs):au×Cu bs:=
 if k=1 then(rD (bg 2 c).1,(bg 2 c).2) else
 if(k=2\/k=3)/\0<vars.length then(rR (bV vars c).1,(bV vars c).2) else
 if k=4 then(oC 4 (bV tO c).1 [(sub vars (bV tO c).2).1],(sub vars (bV tO c).2).2) else
 if k=5 then(.mk 5 (bV wE c).1 [109] 0 zT [(sub vars (bV wE c).2).1,(sub vars (sub vars (bV wE c).2).2).1] [],(sub vars (sub vars (bV wE c).2).2).2) else
 if k=6 then(oC 6 [99,111,110,115] [(sub vars c).1,(sub vars (sub vars c).2).1],(sub vars (sub vars c).2).2) else
 if k=7 then(.mk 7 [] [] 0 zT [(sub vars c).1] [.mk [110,105,108] [] (sub vars (sub vars c).2).1,.mk [99,111,110,115] [[104],[116]] (sub (vars++[[104],[116]]) (sub vars (sub vars c).2).2).1],(sub (vars++[[104],[116]]) (sub vars (sub vars c).2).2).2) else
 if k=8 then(oC 8 [121] [(sub vars c).1,(sub (vars++[[121]]) (sub vars c).2).1],(sub (vars++[[121]]) (sub vars c).2).2) else
 if k=9 then(oC 9 [] [(sub vars c).1,(sub vars (sub vars c).2).1,(sub vars (sub vars (sub vars c).2).2).1],(sub vars (sub vars (sub vars c).2).2).2) else
 if k=10 then(oC 10 (bV rE c).1 [(sub vars (bV rE c).2).1,(sub vars (sub vars (bV rE c).2).2).1],(sub vars (sub vars (bV rE c).2).2).2) else
 if k=11 then(.mk 11 [115,104,111,119] [] 0 zT [(sub vars c).1] [],(sub vars c).2) else
 if k=12 then(.mk 12 [] [] 0 (mH aL 1 c).1 [(sub vars (mH aL 1 c).2).1] [],(sub vars (mH aL 1 c).2).2) else
 (qK ((bg 20 c).1-5),(bg 20 c).2)
def fQ{bs:List Int}:Nat->List (List UInt8)->Cu bs->au×Cu bs
 |0,vars,c=>jF ((bg 13 c).1.tmod 3) (fun _ c=>(qK 0,c)) vars (bg 13 c).2
 |n+1,vars,c=>jF (bg 13 c).1 (fQ n) vars (bg 13 c).2
theorem fI.append{a b:List (List UInt8)}(h:fI a)(k:fI b):fI (a++b):=fun s hs=>(List.mem_append.1 hs).elim (h s) (k s)
theorem mW(k:Int)(t s:List UInt8)(n:Int)(ty:ak)(a:List au)(b:List aJ):(au.mk k t s n ty a b).sz=t.length+s.length+ty.sz+a.length+bA (a.map au.enc)+b.length+bA (b.map aJ.enc):=by
 have:=ak.bZ ty;simp only[au.sz,au.aB,bG,bQ,D.sz,List.length_map,au.aH,au.aZ,au.fName,au.fN,au.fType,au.fArgs,au.aI,this];omega
theorem pR(s:List UInt8)(v:List (List UInt8))(b:au):bG (aJ.mk s v b).enc=s.length+v.length+bA (v.map encS)+b.sz:=by
 have:=au.bZ b;simp only[aJ.aB,bG,bQ,D.sz,List.length_map,aJ.bO,aJ.aW,aJ.fBody,this];omega
theorem pG:zT.sz=0:=by simp[zT,ak.sz,ak.aB,bG,D.sz,bA,ak.fName,ak.fArgs]
theorem Pz{bs:List Int}{k:Int}{sub:List (List UInt8)->Cu bs->au×Cu bs}{vars:List (List UInt8)}{m:Nat}(hv:fI vars)(hs:∀v c,fI v->(sub v c).1.sz<=m)(c:Cu bs):(jF k sub vars c).1.sz<=3*m+40:=by
 have h1:=fun c=>hs vars c hv;have h2:=fun c=>hs (vars++[[104],[116]]) c (hv.append (by unfold fI;decide));have h3:=fun c=>hs (vars++[[121]]) c (hv.append (by unfold fI;decide));unfold jF;by_cases e0:k=1
 ·rw[if_pos e0];simp only[rD,rR,oC,qK,mW,pR,pG,List.map_cons,List.map_nil,List.length_cons,List.length_nil,bA,au.bZ,encS,bG,D.sz];omega
 rw[if_neg e0];by_cases e1:(k=2\/k=3)/\0<vars.length
 ·rw[if_pos e1];simp only[rD,rR,oC,qK,mW,pR,pG,List.map_cons,List.map_nil,List.length_cons,List.length_nil,bA,au.bZ,encS,bG,D.sz];have:=iU c hv;omega
 rw[if_neg e1];by_cases e2:k=4
 ·rw[if_pos e2];simp only[rD,rR,oC,qK,mW,pR,pG,List.map_cons,List.map_nil,List.length_cons,List.length_nil,bA,au.bZ,encS,bG,D.sz];have:=iU c Py;have:=h1 (bV tO c).2;omega
 rw[if_neg e2];by_cases e3:k=5
 ·rw[if_pos e3];simp only[rD,rR,oC,qK,mW,pR,pG,List.map_cons,List.map_nil,List.length_cons,List.length_nil,bA,au.bZ,encS,bG,D.sz];have:=iU c VH;have:=h1 (bV wE c).2;have:=h1 (sub vars (bV wE c).2).2;omega
 rw[if_neg e3];by_cases e4:k=6
 ·rw[if_pos e4];simp only[rD,rR,oC,qK,mW,pR,pG,List.map_cons,List.map_nil,List.length_cons,List.length_nil,bA,au.bZ,encS,bG,D.sz];have:=h1 c;have:=h1 (sub vars c).2;omega
 rw[if_neg e4];by_cases e5:k=7
 ·rw[if_pos e5];simp only[rD,rR,oC,qK,mW,pR,pG,List.map_cons,List.map_nil,List.length_cons,List.length_nil,bA,au.bZ,encS,bG,D.sz];have:=h1 c;have:=h1 (sub vars c).2;have:=h2 (sub vars (sub vars c).2).2;omega
 rw[if_neg e5];by_cases e6:k=8
 ·rw[if_pos e6];simp only[rD,rR,oC,qK,mW,pR,pG,List.map_cons,List.map_nil,List.length_cons,List.length_nil,bA,au.bZ,encS,bG,D.sz];have:=h1 c;have:=h3 (sub vars c).2;omega
 rw[if_neg e6];by_cases e7:k=9
 ·rw[if_pos e7];simp only[rD,rR,oC,qK,mW,pR,pG,List.map_cons,List.map_nil,List.length_cons,List.length_nil,bA,au.bZ,encS,bG,D.sz];have:=h1 c;have:=h1 (sub vars c).2;have:=h1 (sub vars (sub vars c).2).2;omega
 rw[if_neg e7];by_cases e8:k=10
 ·rw[if_pos e8];simp only[rD,rR,oC,qK,mW,pR,pG,List.map_cons,List.map_nil,List.length_cons,List.length_nil,bA,au.bZ,encS,bG,D.sz];have:=iU c VI;have:=h1 (bV rE c).2;have:=h1 (sub vars (bV rE c).2).2;omega
 rw[if_neg e8];by_cases e9:k=11
 ·rw[if_pos e9];simp only[rD,rR,oC,qK,mW,pR,pG,List.map_cons,List.map_nil,List.length_cons,List.length_nil,bA,au.bZ,encS,bG,D.sz];have:=h1 c;omega
 rw[if_neg e9];by_cases e10:k=12
 ·rw[if_pos e10];simp only[rD,rR,oC,qK,mW,pR,pG,List.map_cons,List.map_nil,List.length_cons,List.length_nil,bA,au.bZ,encS,bG,D.sz];have:=Jb aeo 1 c;have:=h1 (mH aL 1 c).2;omega
 rw[if_neg e10];simp only[rD,rR,oC,qK,mW,pR,pG,List.map_cons,List.map_nil,List.length_cons,List.length_nil,bA,au.bZ,encS,bG,D.sz];omega
theorem PD{bs:List Int}:∀(n:Nat)(vars:List (List UInt8))(c:Cu bs),fI vars->(fQ n vars c).1.sz+20<=60*3^n
 |0,vars,c,hv=>by
  have:=Pz (k:=(bg 13 c).1.tmod 3) (sub:=fun _ c=>(qK 0,c)) (m:=0) hv (fun v c _=>by simp[qK,mW,pG,bA]) (bg 13 c).2;rw[fQ];omega
 |n+1,vars,c,hv=>by
  have ih:=PD n (bs:=bs);have:=Pz (k:=(bg 13 c).1) (sub:=fQ n) (m:=60*3^n-20) hv (fun v c h=>by have:=ih v c h;omega) (bg 13 c).2;have h1:1<=3^n:=Nat.one_le_pow _ _ (by omega);rw[fQ,Nat.pow_succ];omega
theorem pI(k:Int)(t s:List UInt8)(n:Int)(ty:ak)(a:List au)(b:List aJ):(au.mk k t s n ty a b).fArgs=a:=rfl
theorem pJ(k:Int)(t s:List UInt8)(n:Int)(ty:ak)(a:List au)(b:List aJ):(au.mk k t s n ty a b).aI=b:=rfl
theorem rG(s:List UInt8)(v:List (List UInt8))(b:au):(aJ.mk s v b).enc=.s s:: .sl (v.map encS)::b.enc:=by rw[aJ.aB];rfl
def exP(t:au):List D:=[.i .i64 t.aH,.s t.aZ,.s t.fName,.i .i64 t.fN,.i .i64 t.fType.aH,.s t.fType.fName,.sl (t.fType.fArgs.map ak.enc)]
def ND(t:au)(S':Store):V->List Obj->Store->Prop:=Two (exP t) 9 11 (t.fArgs.map au.enc) (t.aI.map aJ.enc) S'
theorem zq(l:List au):∀y∈l.map au.enc,y.length=9:=by
 intro y hy;obtain⟨x,_,rfl⟩:=List.mem_map.1 hy;exact au.bK x
theorem abS(l:List aJ):∀y∈l.map aJ.enc,y.length=11:=by
 intro y hy;obtain⟨x,_,rfl⟩:=List.mem_map.1 hy;exact aJ.bK x
theorem wX(n:Int):aG prog 142 [.c (.d (.i .i64 n))] (.agg [.d (.i .i64 1),.d (.s []),.d (.s []),.d (.i .i64 n),.d (.i .i64 0),.d (.s []),.bE [],.bE [],.bE []]):=fun S=>by
 refine zcx [.cell 2 33] func142 ntmps142 ?_;simp -implicitDefEqProofs (disch:=omega) only[go_sem]
 first|done|exact⟨rfl,rfl⟩|rfl
theorem wY(s:List UInt8):aG prog 91 [.c (.d (.s s))] (.agg [.d (.i .i64 3),.d (.s []),.d (.s s),.d (.i .i64 0),.d (.i .i64 0),.d (.s []),.bE [],.bE [],.bE []]):=fun S=>by
 refine zcx [.cell 2 33] func91 ntmps91 ?_;simp -implicitDefEqProofs (disch:=omega) only[go_sem]
 first|done|exact⟨rfl,rfl⟩|rfl
theorem YK(k:Int)(s:List UInt8)(l:List au){es:List (List D)}(he:es=l.map au.enc)(hl:l.length<=1048576){a:C}(ha:a=.d (.sl es)\/a=.bE es)(S:Store):nI prog 149 [.c (.d (.i .i64 k)),.c (.d (.s s)),.c a] S (ND (oC k s l) S):=by
 subst he;refine zn (rs:=[.cell 6 33]) zmx func149 ntmps149 rfl rfl rfl rfl rfl ?_;have hln:=zq l;rcases ha with rfl|rfl
 all_goals
  simp -implicitDefEqProofs (disch:=omega) only[go_sem];refine⟨hln,⟨_,rfl,rfl⟩,fun y hy=>absurd hy List.not_mem_nil,by omega,rfl,[_,_,_,_,_,_,_],_,_,rfl,rfl,.inl ⟨1,rfl,rfl⟩,.inr ⟨rfl,fun e he=>by cases he⟩⟩
theorem F7{f:FuncId}{args:List V}{S S':Store}{t:au}(h:nI prog f args S (ND t S')):bF prog f args S (fun r S1=>r=t.v/\S1=S'):=
 nI.afZ h
theorem VJ{f:FuncId}{args:List V}{S S':Store}{t:au}(ht:zm S'=true)(h:nI prog f args S (ND t S')):
 bF prog f args S (fun r S1=>r=.agg [.d (.i .i64 t.aH),.d (.s t.aZ),.d (.s t.fName),.d (.i .i64 t.fN),.d (.i .i64 t.fType.aH),.d (.s t.fType.fName),.d (.sl (t.fType.fArgs.map ak.enc)),.bL (0,xO S') (t.fArgs.map au.enc),.bL (0,xO S'+1) (t.aI.map aJ.enc)]/\S1=I8 S' [.tok 9 (t.fArgs.map au.enc),.tok 11 (t.aI.map aJ.enc)]):=
 nI.ahL (by decide) ht h
theorem uX(k:Int)(s:List UInt8)(l:List au){es:List (List D)}(he:es=l.map au.enc)(hl:l.length<=1048576){a:C}(ha:a=.d (.sl es)\/a=.bE es){own:List Ab.Obj}{Ω:Store}:
 bF prog 149 [.c (.d (.i .i64 k)),.c (.d (.s s)),.c a] (own::Ω) (fun r S1=>r=.agg [.d (.i .i64 k),.d (.s []),.d (.s s),.d (.i .i64 0),.d (.i .i64 0),.d (.s []),.d (.sl []),.bL (0,own.length) es,.bL (0,own.length+1) []]/\S1=(own++[.tok 9 es,.tok 11 []])::Ω):=by
 have:=VJ (S':=own::Ω) rfl (YK k s l he hl ha (own::Ω));rw[he];exact this
theorem RX{bs:List Int}(hB:Bytes bs):∀(n:Nat)(vars:List (List UInt8))(c:Cu bs)(l j:Nat)(S:Store),vars.length+2*n<=256->aN S (l,j)=some (.box (cur c))->
 nI prog 94 [.c (.ptr (l,j) 0),.c (.d (.sl (vars.map encS))),.c (.d (.i .i64 n))] S (ND (fQ n vars c).1 (aR S (l,j) (.box (cur (fQ n vars c).2)))):=by
 intro n
 induction n with
 |zero=>
  intro vars c l j S hv hk;have g:∀x:Ab.Obj,aN (aR S (l,j) x) (l,j)=some x:=fun x=>bP _ _ _ _ hk;have hx:=gU (n:=13) c (by omega);have hy:=Int.tmod_lt_of_pos (bg 13 c).1 (b:=3) (by omega);have hz:=Int.tmod_nonneg 3 hx.1;obtain⟨k,hkd⟩:∃k,k=(bg 13 c).1.tmod 3:=⟨_,rfl⟩;obtain⟨c1,hc1⟩:∃c1,c1=(bg 13 c).2:=⟨_,rfl⟩;rw[fQ,<-hkd,<-hc1];obtain⟨q,hq⟩:∃q,q=jF k (fun _ c=>(qK 0,c)) vars c1:=⟨_,rfl⟩;rw[<-hq];refine zn (rs:=[.cell 6 33]) zmx func94 ntmps94 rfl rfl rfl rfl rfl ?_;simp -implicitDefEqProofs (disch:=omega) only[go_sem];refine aX rfl (eO hB c (1+l) j _ 13 (by rw[aY];exact hk) (by omega) (by omega)) ?_;rw[<-hc1];have d0:decide (((0:Nat):Int)<=0)=true:=rfl;simp -implicitDefEqProofs (disch:=omega) only[go_sem,d0,aF]
  (repeat(with_reducible refine And.intro ?_ ?_;focus first|omega|rfl|assumption|exact⟨_,rfl,rfl⟩|(simp;omega)|(simp;done)))
  rw[<-hkd] at hy hz ⊢;have d1:k<3:=hy;have n3:decide (k=3)=false:=decide_eq_false (by omega);have n4:decide (k=4)=false:=decide_eq_false (by omega);have n5:decide (k=5)=false:=decide_eq_false (by omega);have n6:decide (k=6)=false:=decide_eq_false (by omega);have n7:decide (k=7)=false:=decide_eq_false (by omega);have n8:decide (k=8)=false:=decide_eq_false (by omega);have n9:decide (k=9)=false:=decide_eq_false (by omega);have n10:decide (k=10)=false:=decide_eq_false (by omega);have n11:decide (k=11)=false:=decide_eq_false (by omega);have n12:decide (k=12)=false:=decide_eq_false (by omega)
  with_reducible refine aA (fun hb=> ?_) (fun hb=> ?_)<;>have h:=hb<;>(try simp only[wf_preprocess] at h)<;>simp -implicitDefEqProofs (disch:=omega) only[go_sem,hb,n3,n4,n5,n6,n7,n8,n9,n10,n11,n12,aF,aD]<;>(repeat(with_reducible refine And.intro ?_ ?_;focus first|omega|rfl|assumption|exact⟨_,rfl,rfl⟩|(simp;omega)|(simp;done)))
  ·subst h;simp only[jF,reduceIte] at hq;refine aX rfl (eO hB c1 (1+l) j _ 2 (by rw[aY];exact g _) (by omega) (by omega)) ?_;simp -implicitDefEqProofs (disch:=omega) only[go_sem,n3,n4,n5,n6,n7,n8,n9,n10,n11,n12,aF,aD];rw[hq];refine⟨rfl,[_,_,_,_,_,_,_],_,_,rfl,rfl,.inr ⟨rfl,fun e he=>by cases he⟩,.inr ⟨rfl,fun e he=>by cases he⟩⟩
  have e1:=h
  with_reducible refine aA (fun hb=> ?_) (fun hb=> ?_)<;>have h:=hb<;>(try simp only[wf_preprocess] at h)<;>simp -implicitDefEqProofs (disch:=omega) only[go_sem,hb,n3,n4,n5,n6,n7,n8,n9,n10,n11,n12,aF,aD]<;>(repeat(with_reducible refine And.intro ?_ ?_;focus first|omega|rfl|assumption|exact⟨_,rfl,rfl⟩|(simp;omega)|(simp;done)))
  ·subst h
   with_reducible refine aA (fun hb=> ?_) (fun hb=> ?_)<;>have h:=hb<;>(try simp only[wf_preprocess] at h)<;>simp -implicitDefEqProofs (disch:=omega) only[go_sem,hb,aF,aD]<;>(repeat(with_reducible refine And.intro ?_ ?_;focus first|omega|rfl|assumption|exact⟨_,rfl,rfl⟩|(simp;omega)|(simp;done)))
   ·have hl:0<vars.length:=by omega
    simp only[jF,reduceIte,Int.reduceEq,false_or,or_false,or_self,false_and,true_and,if_pos hl] at hq;refine dX [true] rfl (iE hB c1 (1+l) j _ vars (by rw[aY];exact g _) (by omega) (by omega)) ?_;simp -implicitDefEqProofs (disch:=omega) only[go_sem,n3,n4,n5,n6,n7,n8,n9,n10,n11,n12,aF,aD];refine ay (wY (bV vars c1).1) ?_;simp -implicitDefEqProofs (disch:=omega) only[go_sem,n3,n4,n5,n6,n7,n8,n9,n10,n11,n12,aF,aD];rw[hq];refine⟨rfl,[_,_,_,_,_,_,_],_,_,rfl,rfl,.inr ⟨rfl,fun e he=>by cases he⟩,.inr ⟨rfl,fun e he=>by cases he⟩⟩
   ·have hl:¬0<vars.length:=by omega
    simp only[jF,reduceIte,Int.reduceEq,false_or,or_false,or_self,false_and,true_and,if_neg hl] at hq;have hx2:=gU (n:=20) c1 (by omega);refine aX rfl (eO hB c1 (1+l) j _ 20 (by rw[aY];exact g _) (by omega) (by omega)) ?_;simp -implicitDefEqProofs (disch:=omega) only[go_sem,n3,n4,n5,n6,n7,n8,n9,n10,n11,n12,aF,aD]
    (repeat(with_reducible refine And.intro ?_ ?_;focus first|omega|rfl|assumption|exact⟨_,rfl,rfl⟩|(simp;omega)|(simp;done)))
    refine ay (wX ((bg 20 c1).1-5)) ?_;simp -implicitDefEqProofs (disch:=omega) only[go_sem,n3,n4,n5,n6,n7,n8,n9,n10,n11,n12,aF,aD];rw[hq];refine⟨rfl,[_,_,_,_,_,_,_],_,_,rfl,rfl,.inr ⟨rfl,fun e he=>by cases he⟩,.inr ⟨rfl,fun e he=>by cases he⟩⟩
  have e2:=h
  have e3:¬k=3:=by omega
  have e4:¬k=4:=by omega
  have e5:¬k=5:=by omega
  have e6:¬k=6:=by omega
  have e7:¬k=7:=by omega
  have e8:¬k=8:=by omega
  have e9:¬k=9:=by omega
  have e10:¬k=10:=by omega
  have e11:¬k=11:=by omega
  have e12:¬k=12:=by omega
  simp only[jF,if_neg e1,e2,e3,false_or,or_self,false_and,reduceIte,if_neg e4,if_neg e5,if_neg e6,if_neg e7,if_neg e8,if_neg e9,if_neg e10,if_neg e11,if_neg e12] at hq;have hx2:=gU (n:=20) c1 (by omega);refine aX rfl (eO hB c1 (1+l) j _ 20 (by rw[aY];exact g _) (by omega) (by omega)) ?_;simp -implicitDefEqProofs (disch:=omega) only[go_sem,n3,n4,n5,n6,n7,n8,n9,n10,n11,n12,aF,aD]
  (repeat(with_reducible refine And.intro ?_ ?_;focus first|omega|rfl|assumption|exact⟨_,rfl,rfl⟩|(simp;omega)|(simp;done)))
  refine ay (wX ((bg 20 c1).1-5)) ?_;simp -implicitDefEqProofs (disch:=omega) only[go_sem,n3,n4,n5,n6,n7,n8,n9,n10,n11,n12,aF,aD];rw[hq];refine⟨rfl,[_,_,_,_,_,_,_],_,_,rfl,rfl,.inr ⟨rfl,fun e he=>by cases he⟩,.inr ⟨rfl,fun e he=>by cases he⟩⟩
 |succ n ih=>
  intro vars c l j S hv hk;have g:∀x:Ab.Obj,aN (aR S (l,j) x) (l,j)=some x:=fun x=>bP _ _ _ _ hk;have hx:=gU (n:=13) c (by omega);obtain⟨k,hkd⟩:∃k,k=(bg 13 c).1:=⟨_,rfl⟩;obtain⟨c1,hc1⟩:∃c1,c1=(bg 13 c).2:=⟨_,rfl⟩;have ih1:=fun vars c l j S hv hk=>F7 (ih vars c l j S hv hk);rw[fQ,<-hkd,<-hc1];obtain⟨q,hq⟩:∃q,q=jF k (fQ n) vars c1:=⟨_,rfl⟩;rw[<-hq];refine zn (rs:=[.cell 6 33]) zmx func94 ntmps94 rfl rfl rfl rfl rfl ?_;simp -implicitDefEqProofs (disch:=omega) only[go_sem];refine aX rfl (eO hB c (1+l) j _ 13 (by rw[aY];exact hk) (by omega) (by omega)) ?_;rw[<-hkd,<-hc1];have d0:decide (((n+1:Nat):Int)<=0)=false:=decide_eq_false (by omega)
  have d1:((n+1:Nat):Int)-1=(n:Int):=by omega
  simp -implicitDefEqProofs (disch:=omega) only[go_sem,d0,aF]
  have hm:∀y∈vars.map encS,y.length=1:=by
   intro y hy;obtain⟨z,_,rfl⟩:=List.mem_map.1 hy;rfl
  with_reducible refine aA (fun hb=> ?_) (fun hb=> ?_)<;>have h:=hb<;>(try simp only[wf_preprocess] at h)<;>simp -implicitDefEqProofs (disch:=omega) only[go_sem,hb,d1,aF,aD]<;>(repeat(with_reducible refine And.intro ?_ ?_;focus first|omega|rfl|assumption|exact⟨_,rfl,rfl⟩|(simp;omega)|(simp;done)))
  ·subst h;simp only[jF,reduceIte] at hq;refine aX rfl (eO hB c1 (1+l) j _ 2 (by rw[aY];exact g _) (by omega) (by omega)) ?_;simp -implicitDefEqProofs (disch:=omega) only[go_sem,d1,aF,aD];rw[hq];refine⟨rfl,[_,_,_,_,_,_,_],_,_,rfl,rfl,.inr ⟨rfl,fun e he=>by cases he⟩,.inr ⟨rfl,fun e he=>by cases he⟩⟩
  have e1:=h
  with_reducible refine aA (fun hb=> ?_) (fun hb=> ?_)<;>have h:=hb<;>(try simp only[wf_preprocess] at h)<;>simp -implicitDefEqProofs (disch:=omega) only[go_sem,hb,d1,aF,aD]<;>(repeat(with_reducible refine And.intro ?_ ?_;focus first|omega|rfl|assumption|exact⟨_,rfl,rfl⟩|(simp;omega)|(simp;done)))
  ·subst h
   with_reducible refine aA (fun hb=> ?_) (fun hb=> ?_)<;>have h:=hb<;>(try simp only[wf_preprocess] at h)<;>simp -implicitDefEqProofs (disch:=omega) only[go_sem,hb,d1,aF,aD]<;>(repeat(with_reducible refine And.intro ?_ ?_;focus first|omega|rfl|assumption|exact⟨_,rfl,rfl⟩|(simp;omega)|(simp;done)))
   ·have hl:0<vars.length:=by omega
    simp only[jF,reduceIte,Int.reduceEq,false_or,or_false,or_self,false_and,true_and,if_pos hl] at hq;refine dX [true] rfl (iE hB c1 (1+l) j _ vars (by rw[aY];exact g _) (by omega) (by omega)) ?_;simp -implicitDefEqProofs (disch:=omega) only[go_sem,d1,aF,aD];refine ay (wY (bV vars c1).1) ?_;simp -implicitDefEqProofs (disch:=omega) only[go_sem,d1,aF,aD];rw[hq];refine⟨rfl,[_,_,_,_,_,_,_],_,_,rfl,rfl,.inr ⟨rfl,fun e he=>by cases he⟩,.inr ⟨rfl,fun e he=>by cases he⟩⟩
   ·have hl:¬0<vars.length:=by omega
    simp only[jF,reduceIte,Int.reduceEq,false_or,or_false,or_self,false_and,true_and,if_neg hl] at hq;have hx2:=gU (n:=20) c1 (by omega);refine aX rfl (eO hB c1 (1+l) j _ 20 (by rw[aY];exact g _) (by omega) (by omega)) ?_;simp -implicitDefEqProofs (disch:=omega) only[go_sem,d1,aF,aD]
    (repeat(with_reducible refine And.intro ?_ ?_;focus first|omega|rfl|assumption|exact⟨_,rfl,rfl⟩|(simp;omega)|(simp;done)))
    refine ay (wX ((bg 20 c1).1-5)) ?_;simp -implicitDefEqProofs (disch:=omega) only[go_sem,d1,aF,aD];rw[hq];refine⟨rfl,[_,_,_,_,_,_,_],_,_,rfl,rfl,.inr ⟨rfl,fun e he=>by cases he⟩,.inr ⟨rfl,fun e he=>by cases he⟩⟩
  have e2:=h
  with_reducible refine aA (fun hb=> ?_) (fun hb=> ?_)<;>have h:=hb<;>(try simp only[wf_preprocess] at h)<;>simp -implicitDefEqProofs (disch:=omega) only[go_sem,hb,d1,aF,aD]<;>(repeat(with_reducible refine And.intro ?_ ?_;focus first|omega|rfl|assumption|exact⟨_,rfl,rfl⟩|(simp;omega)|(simp;done)))
  ·subst h
   with_reducible refine aA (fun hb=> ?_) (fun hb=> ?_)<;>have h:=hb<;>(try simp only[wf_preprocess] at h)<;>simp -implicitDefEqProofs (disch:=omega) only[go_sem,hb,d1,aF,aD]<;>(repeat(with_reducible refine And.intro ?_ ?_;focus first|omega|rfl|assumption|exact⟨_,rfl,rfl⟩|(simp;omega)|(simp;done)))
   ·have hl:0<vars.length:=by omega
    simp only[jF,reduceIte,Int.reduceEq,false_or,or_false,or_self,false_and,true_and,if_pos hl] at hq;refine dX [true] rfl (iE hB c1 (1+l) j _ vars (by rw[aY];exact g _) (by omega) (by omega)) ?_;simp -implicitDefEqProofs (disch:=omega) only[go_sem,d1,aF,aD];refine ay (wY (bV vars c1).1) ?_;simp -implicitDefEqProofs (disch:=omega) only[go_sem,d1,aF,aD];rw[hq];refine⟨rfl,[_,_,_,_,_,_,_],_,_,rfl,rfl,.inr ⟨rfl,fun e he=>by cases he⟩,.inr ⟨rfl,fun e he=>by cases he⟩⟩
   ·have hl:¬0<vars.length:=by omega
    simp only[jF,reduceIte,Int.reduceEq,false_or,or_false,or_self,false_and,true_and,if_neg hl] at hq;have hx2:=gU (n:=20) c1 (by omega);refine aX rfl (eO hB c1 (1+l) j _ 20 (by rw[aY];exact g _) (by omega) (by omega)) ?_;simp -implicitDefEqProofs (disch:=omega) only[go_sem,d1,aF,aD]
    (repeat(with_reducible refine And.intro ?_ ?_;focus first|omega|rfl|assumption|exact⟨_,rfl,rfl⟩|(simp;omega)|(simp;done)))
    refine ay (wX ((bg 20 c1).1-5)) ?_;simp -implicitDefEqProofs (disch:=omega) only[go_sem,d1,aF,aD];rw[hq];refine⟨rfl,[_,_,_,_,_,_,_],_,_,rfl,rfl,.inr ⟨rfl,fun e he=>by cases he⟩,.inr ⟨rfl,fun e he=>by cases he⟩⟩
  have e3:=h
  with_reducible refine aA (fun hb=> ?_) (fun hb=> ?_)<;>have h:=hb<;>(try simp only[wf_preprocess] at h)<;>simp -implicitDefEqProofs (disch:=omega) only[go_sem,hb,d1,aF,aD]<;>(repeat(with_reducible refine And.intro ?_ ?_;focus first|omega|rfl|assumption|exact⟨_,rfl,rfl⟩|(simp;omega)|(simp;done)))
  ·subst h;simp only[jF,reduceIte,Int.reduceEq,false_or,or_false,or_self,false_and] at hq;refine dX [true] rfl (iE hB c1 (1+l) j _ tO (by rw[aY];exact g _) (by decide) (by decide)) ?_;simp -implicitDefEqProofs (disch:=omega) only[go_sem,d1,aF,aD];refine dX [true] rfl (ih1 vars (bV tO c1).2 (1+l) j _ (by first|omega|(simp only[List.length_append,List.length_cons,List.length_nil];omega)) (by rw[aY];exact g _)) ?_;simp -implicitDefEqProofs (disch:=omega) only[go_sem,d1,aF,aD]
   (repeat(with_reducible refine And.intro ?_ ?_;focus first|omega|rfl|assumption|exact⟨_,rfl,rfl⟩|(simp;omega)|(simp;done)))
   refine aX rfl (uX 4 (bV tO c1).1 [(fQ n vars (bV tO c1).2).1] (by simp only[List.map_cons,List.map_nil,au.aB,ak.aB,List.cons_append,List.nil_append]) (by simp) (.inr rfl)) ?_;simp -implicitDefEqProofs (disch:=omega) only[go_sem,d1,aF,aD];rw[hq];refine⟨rfl,[_,_,_,_,_,_,_],_,_,rfl,rfl,.inl ⟨1,?_,?_⟩,.inl ⟨2,?_,?_⟩⟩<;>simp only[oC,pI,pJ,List.map_cons,List.map_nil,au.aB,rG,ak.aB,encS,List.cons_append,List.nil_append]<;>rfl
  have e4:=h
  with_reducible refine aA (fun hb=> ?_) (fun hb=> ?_)<;>have h:=hb<;>(try simp only[wf_preprocess] at h)<;>simp -implicitDefEqProofs (disch:=omega) only[go_sem,hb,d1,aF,aD]<;>(repeat(with_reducible refine And.intro ?_ ?_;focus first|omega|rfl|assumption|exact⟨_,rfl,rfl⟩|(simp;omega)|(simp;done)))
  ·subst h;simp only[jF,reduceIte,Int.reduceEq,false_or,or_false,or_self,false_and] at hq;refine dX [true] rfl (iE hB c1 (1+l) j _ wE (by rw[aY];exact g _) (by decide) (by decide)) ?_;simp -implicitDefEqProofs (disch:=omega) only[go_sem,d1,aF,aD];refine dX [true] rfl (ih1 vars (bV wE c1).2 (1+l) j _ (by first|omega|(simp only[List.length_append,List.length_cons,List.length_nil];omega)) (by rw[aY];exact g _)) ?_;simp -implicitDefEqProofs (disch:=omega) only[go_sem,d1,aF,aD];refine dX [true] rfl (ih1 vars (fQ n vars (bV wE c1).2).2 (1+l) j _ (by first|omega|(simp only[List.length_append,List.length_cons,List.length_nil];omega)) (by rw[aY];exact g _)) ?_;simp -implicitDefEqProofs (disch:=omega) only[go_sem,d1,aF,aD]
   (repeat(with_reducible refine And.intro ?_ ?_;focus first|omega|rfl|assumption|exact⟨_,rfl,rfl⟩|(simp;omega)|(simp;done)))
   rw[hq];refine⟨rfl,[_,_,_,_,_,_,_],_,_,rfl,rfl,.inr ⟨?_,zq _⟩,.inr ⟨rfl,fun e he=>by cases he⟩⟩<;>simp only[oC,pI,pJ,List.map_cons,List.map_nil,au.aB,rG,ak.aB,encS,List.cons_append,List.nil_append]<;>rfl
  have e5:=h
  with_reducible refine aA (fun hb=> ?_) (fun hb=> ?_)<;>have h:=hb<;>(try simp only[wf_preprocess] at h)<;>simp -implicitDefEqProofs (disch:=omega) only[go_sem,hb,d1,aF,aD]<;>(repeat(with_reducible refine And.intro ?_ ?_;focus first|omega|rfl|assumption|exact⟨_,rfl,rfl⟩|(simp;omega)|(simp;done)))
  ·subst h;simp only[jF,reduceIte,Int.reduceEq,false_or,or_false,or_self,false_and] at hq;refine dX [true] rfl (ih1 vars c1 (1+l) j _ (by first|omega|(simp only[List.length_append,List.length_cons,List.length_nil];omega)) (by rw[aY];exact g _)) ?_;simp -implicitDefEqProofs (disch:=omega) only[go_sem,d1,aF,aD];refine dX [true] rfl (ih1 vars (fQ n vars c1).2 (1+l) j _ (by first|omega|(simp only[List.length_append,List.length_cons,List.length_nil];omega)) (by rw[aY];exact g _)) ?_;simp -implicitDefEqProofs (disch:=omega) only[go_sem,d1,aF,aD]
   (repeat(with_reducible refine And.intro ?_ ?_;focus first|omega|rfl|assumption|exact⟨_,rfl,rfl⟩|(simp;omega)|(simp;done)))
   refine aX rfl (uX 6 [99,111,110,115] [(fQ n vars c1).1,(fQ n vars (fQ n vars c1).2).1] (by simp only[List.map_cons,List.map_nil,au.aB,ak.aB,List.cons_append,List.nil_append]) (by simp) (.inr rfl)) ?_;simp -implicitDefEqProofs (disch:=omega) only[go_sem,d1,aF,aD];rw[hq];refine⟨rfl,[_,_,_,_,_,_,_],_,_,rfl,rfl,.inl ⟨1,?_,?_⟩,.inl ⟨2,?_,?_⟩⟩<;>simp only[oC,pI,pJ,List.map_cons,List.map_nil,au.aB,rG,ak.aB,encS,List.cons_append,List.nil_append]<;>rfl
  have e6:=h
  with_reducible refine aA (fun hb=> ?_) (fun hb=> ?_)<;>have h:=hb<;>(try simp only[wf_preprocess] at h)<;>simp -implicitDefEqProofs (disch:=omega) only[go_sem,hb,d1,aF,aD]<;>(repeat(with_reducible refine And.intro ?_ ?_;focus first|omega|rfl|assumption|exact⟨_,rfl,rfl⟩|(simp;omega)|(simp;done)))
  ·subst h;simp only[jF,reduceIte,Int.reduceEq,false_or,or_false,or_self,false_and] at hq;refine dX [true] rfl (ih1 vars c1 (1+l) j _ (by first|omega|(simp only[List.length_append,List.length_cons,List.length_nil];omega)) (by rw[aY];exact g _)) ?_;simp -implicitDefEqProofs (disch:=omega) only[go_sem,d1,aF,aD];refine dX [true] rfl (ih1 vars (fQ n vars c1).2 (1+l) j _ (by first|omega|(simp only[List.length_append,List.length_cons,List.length_nil];omega)) (by rw[aY];exact g _)) ?_;simp -implicitDefEqProofs (disch:=omega) only[go_sem,d1,aF,aD];have ih2:=fun c l j S hk=>ih1 (vars++[[104],[116]]) c l j S (by simp only[List.length_append,List.length_cons,List.length_nil];omega) hk;simp only[List.map_append,List.map_cons,List.map_nil,encS] at ih2;refine dX [true] rfl (ih2 (fQ n vars (fQ n vars c1).2).2 (1+l) j _ (by rw[aY];exact g _)) ?_;simp -implicitDefEqProofs (disch:=omega) only[go_sem,d1,aF,aD]
   (repeat(with_reducible refine And.intro ?_ ?_;focus first|omega|rfl|assumption|exact⟨_,rfl,rfl⟩|(simp;omega)|(simp;done)))
   rw[hq];refine⟨rfl,[_,_,_,_,_,_,_],_,_,rfl,rfl,.inr ⟨?_,zq _⟩,.inr ⟨?_,abS _⟩⟩<;>simp only[oC,pI,pJ,List.map_cons,List.map_nil,au.aB,rG,ak.aB,encS,List.cons_append,List.nil_append]<;>rfl
  have e7:=h
  with_reducible refine aA (fun hb=> ?_) (fun hb=> ?_)<;>have h:=hb<;>(try simp only[wf_preprocess] at h)<;>simp -implicitDefEqProofs (disch:=omega) only[go_sem,hb,d1,aF,aD]<;>(repeat(with_reducible refine And.intro ?_ ?_;focus first|omega|rfl|assumption|exact⟨_,rfl,rfl⟩|(simp;omega)|(simp;done)))
  ·subst h;simp only[jF,reduceIte,Int.reduceEq,false_or,or_false,or_self,false_and] at hq;refine dX [true] rfl (ih1 vars c1 (1+l) j _ (by first|omega|(simp only[List.length_append,List.length_cons,List.length_nil];omega)) (by rw[aY];exact g _)) ?_;simp -implicitDefEqProofs (disch:=omega) only[go_sem,d1,aF,aD];refine⟨hm,⟨_,rfl,rfl⟩,fun y hy=>absurd hy List.not_mem_nil,by omega,by simp,⟨_,rfl,rfl⟩,by omega,?_⟩;have ih2:=fun c l j S hk=>ih1 (vars++[[121]]) c l j S (by simp only[List.length_append,List.length_cons,List.length_nil];omega) hk;simp only[List.map_append,List.map_cons,List.map_nil,encS] at ih2;refine dX [true] rfl (ih2 (fQ n vars c1).2 (1+l) j _ (by rw[aY];exact g _)) ?_;simp -implicitDefEqProofs (disch:=omega) only[go_sem,d1,aF,aD]
   (repeat(with_reducible refine And.intro ?_ ?_;focus first|omega|rfl|assumption|exact⟨_,rfl,rfl⟩|(simp;omega)|(simp;done)))
   refine aX rfl (uX 8 [121] [(fQ n vars c1).1,(fQ n (vars++[[121]]) (fQ n vars c1).2).1] (by simp only[List.map_cons,List.map_nil,au.aB,ak.aB,List.cons_append,List.nil_append]) (by simp) (.inr rfl)) ?_;simp -implicitDefEqProofs (disch:=omega) only[go_sem,d1,aF,aD];rw[hq];refine⟨rfl,[_,_,_,_,_,_,_],_,_,rfl,rfl,.inl ⟨2,?_,?_⟩,.inl ⟨3,?_,?_⟩⟩<;>simp only[oC,pI,pJ,List.map_cons,List.map_nil,au.aB,rG,ak.aB,encS,List.cons_append,List.nil_append]<;>rfl
  have e8:=h
  with_reducible refine aA (fun hb=> ?_) (fun hb=> ?_)<;>have h:=hb<;>(try simp only[wf_preprocess] at h)<;>simp -implicitDefEqProofs (disch:=omega) only[go_sem,hb,d1,aF,aD]<;>(repeat(with_reducible refine And.intro ?_ ?_;focus first|omega|rfl|assumption|exact⟨_,rfl,rfl⟩|(simp;omega)|(simp;done)))
  ·subst h;simp only[jF,reduceIte,Int.reduceEq,false_or,or_false,or_self,false_and] at hq;refine dX [true] rfl (ih1 vars c1 (1+l) j _ (by first|omega|(simp only[List.length_append,List.length_cons,List.length_nil];omega)) (by rw[aY];exact g _)) ?_;simp -implicitDefEqProofs (disch:=omega) only[go_sem,d1,aF,aD];refine dX [true] rfl (ih1 vars (fQ n vars c1).2 (1+l) j _ (by first|omega|(simp only[List.length_append,List.length_cons,List.length_nil];omega)) (by rw[aY];exact g _)) ?_;simp -implicitDefEqProofs (disch:=omega) only[go_sem,d1,aF,aD];refine dX [true] rfl (ih1 vars (fQ n vars (fQ n vars c1).2).2 (1+l) j _ (by first|omega|(simp only[List.length_append,List.length_cons,List.length_nil];omega)) (by rw[aY];exact g _)) ?_;simp -implicitDefEqProofs (disch:=omega) only[go_sem,d1,aF,aD]
   (repeat(with_reducible refine And.intro ?_ ?_;focus first|omega|rfl|assumption|exact⟨_,rfl,rfl⟩|(simp;omega)|(simp;done)))
   refine aX rfl (uX 9 [] [(fQ n vars c1).1,(fQ n vars (fQ n vars c1).2).1,(fQ n vars (fQ n vars (fQ n vars c1).2).2).1] (by simp only[List.map_cons,List.map_nil,au.aB,ak.aB,List.cons_append,List.nil_append]) (by simp) (.inr rfl)) ?_;simp -implicitDefEqProofs (disch:=omega) only[go_sem,d1,aF,aD];rw[hq];refine⟨rfl,[_,_,_,_,_,_,_],_,_,rfl,rfl,.inl ⟨1,?_,?_⟩,.inl ⟨2,?_,?_⟩⟩<;>simp only[oC,pI,pJ,List.map_cons,List.map_nil,au.aB,rG,ak.aB,encS,List.cons_append,List.nil_append]<;>rfl
  have e9:=h
  with_reducible refine aA (fun hb=> ?_) (fun hb=> ?_)<;>have h:=hb<;>(try simp only[wf_preprocess] at h)<;>simp -implicitDefEqProofs (disch:=omega) only[go_sem,hb,d1,aF,aD]<;>(repeat(with_reducible refine And.intro ?_ ?_;focus first|omega|rfl|assumption|exact⟨_,rfl,rfl⟩|(simp;omega)|(simp;done)))
  ·subst h;simp only[jF,reduceIte,Int.reduceEq,false_or,or_false,or_self,false_and] at hq;refine dX [true] rfl (iE hB c1 (1+l) j _ rE (by rw[aY];exact g _) (by decide) (by decide)) ?_;simp -implicitDefEqProofs (disch:=omega) only[go_sem,d1,aF,aD];refine dX [true] rfl (ih1 vars (bV rE c1).2 (1+l) j _ (by first|omega|(simp only[List.length_append,List.length_cons,List.length_nil];omega)) (by rw[aY];exact g _)) ?_;simp -implicitDefEqProofs (disch:=omega) only[go_sem,d1,aF,aD];refine dX [true] rfl (ih1 vars (fQ n vars (bV rE c1).2).2 (1+l) j _ (by first|omega|(simp only[List.length_append,List.length_cons,List.length_nil];omega)) (by rw[aY];exact g _)) ?_;simp -implicitDefEqProofs (disch:=omega) only[go_sem,d1,aF,aD]
   (repeat(with_reducible refine And.intro ?_ ?_;focus first|omega|rfl|assumption|exact⟨_,rfl,rfl⟩|(simp;omega)|(simp;done)))
   refine aX rfl (uX 10 (bV rE c1).1 [(fQ n vars (bV rE c1).2).1,(fQ n vars (fQ n vars (bV rE c1).2).2).1] (by simp only[List.map_cons,List.map_nil,au.aB,ak.aB,List.cons_append,List.nil_append]) (by simp) (.inr rfl)) ?_;simp -implicitDefEqProofs (disch:=omega) only[go_sem,d1,aF,aD];rw[hq];refine⟨rfl,[_,_,_,_,_,_,_],_,_,rfl,rfl,.inl ⟨1,?_,?_⟩,.inl ⟨2,?_,?_⟩⟩<;>simp only[oC,pI,pJ,List.map_cons,List.map_nil,au.aB,rG,ak.aB,encS,List.cons_append,List.nil_append]<;>rfl
  have e10:=h
  with_reducible refine aA (fun hb=> ?_) (fun hb=> ?_)<;>have h:=hb<;>(try simp only[wf_preprocess] at h)<;>simp -implicitDefEqProofs (disch:=omega) only[go_sem,hb,d1,aF,aD]<;>(repeat(with_reducible refine And.intro ?_ ?_;focus first|omega|rfl|assumption|exact⟨_,rfl,rfl⟩|(simp;omega)|(simp;done)))
  ·subst h;simp only[jF,reduceIte,Int.reduceEq,false_or,or_false,or_self,false_and] at hq;refine dX [true] rfl (ih1 vars c1 (1+l) j _ (by first|omega|(simp only[List.length_append,List.length_cons,List.length_nil];omega)) (by rw[aY];exact g _)) ?_;simp -implicitDefEqProofs (disch:=omega) only[go_sem,d1,aF,aD]
   (repeat(with_reducible refine And.intro ?_ ?_;focus first|omega|rfl|assumption|exact⟨_,rfl,rfl⟩|(simp;omega)|(simp;done)))
   rw[hq];refine⟨rfl,[_,_,_,_,_,_,_],_,_,rfl,rfl,.inr ⟨?_,zq _⟩,.inr ⟨rfl,fun e he=>by cases he⟩⟩<;>simp only[oC,pI,pJ,List.map_cons,List.map_nil,au.aB,rG,ak.aB,encS,List.cons_append,List.nil_append]<;>rfl
  have e11:=h
  with_reducible refine aA (fun hb=> ?_) (fun hb=> ?_)<;>have h:=hb<;>(try simp only[wf_preprocess] at h)<;>simp -implicitDefEqProofs (disch:=omega) only[go_sem,hb,d1,aF,aD]<;>(repeat(with_reducible refine And.intro ?_ ?_;focus first|omega|rfl|assumption|exact⟨_,rfl,rfl⟩|(simp;omega)|(simp;done)))
  ·subst h;simp only[jF,reduceIte,Int.reduceEq,false_or,or_false,or_self,false_and] at hq;refine dX [true] rfl (wD (Pv hB (vars:=aL) (by decide) 1 c1 (1+l) j _ (by rw[aY];exact g _) (by omega))) ?_;simp -implicitDefEqProofs (disch:=omega) only[go_sem,d1,aF,aD];refine dX [true] rfl (ih1 vars (mH aL 1 c1).2 (1+l) j _ (by first|omega|(simp only[List.length_append,List.length_cons,List.length_nil];omega)) (by rw[aY];exact g _)) ?_;simp -implicitDefEqProofs (disch:=omega) only[go_sem,d1,aF,aD]
   (repeat(with_reducible refine And.intro ?_ ?_;focus first|omega|rfl|assumption|exact⟨_,rfl,rfl⟩|(simp;omega)|(simp;done)))
   rw[hq];refine⟨rfl,[_,_,_,_,_,_,_],_,_,rfl,rfl,.inr ⟨?_,zq _⟩,.inr ⟨rfl,fun e he=>by cases he⟩⟩<;>simp only[oC,pI,pJ,List.map_cons,List.map_nil,au.aB,rG,ak.aB,encS,List.cons_append,List.nil_append]<;>rfl
  have e12:=h;simp only[jF,if_neg e1,e2,e3,false_or,or_self,false_and,reduceIte,if_neg e4,if_neg e5,if_neg e6,if_neg e7,if_neg e8,if_neg e9,if_neg e10,if_neg e11,if_neg e12] at hq;have hx2:=gU (n:=20) c1 (by omega);refine aX rfl (eO hB c1 (1+l) j _ 20 (by rw[aY];exact g _) (by omega) (by omega)) ?_;simp -implicitDefEqProofs (disch:=omega) only[go_sem,d1,aF,aD]
  (repeat(with_reducible refine And.intro ?_ ?_;focus first|omega|rfl|assumption|exact⟨_,rfl,rfl⟩|(simp;omega)|(simp;done)))
  refine ay (wX ((bg 20 c1).1-5)) ?_;simp -implicitDefEqProofs (disch:=omega) only[go_sem,d1,aF,aD];rw[hq];refine⟨rfl,[_,_,_,_,_,_,_],_,_,rfl,rfl,.inr ⟨rfl,fun e he=>by cases he⟩,.inr ⟨rfl,fun e he=>by cases he⟩⟩
end Go.Ab