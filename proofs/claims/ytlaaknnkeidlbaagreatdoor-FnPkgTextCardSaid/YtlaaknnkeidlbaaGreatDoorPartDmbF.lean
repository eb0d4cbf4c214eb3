/-
  SEVERAL TEXTS IN ONE (merged by program): contracts and models, each with its own heading.
-/
import Derived.Test.YtlaaknnkeidlbaaGreatDoorPartDmbE
set_option linter.unusedSimpArgs false
set_option linter.unusedVariables false
namespace Go.Ab
def apZ(T:List TypeId):Op->Bool
 | .call {callee:=.value _,args:=_,argTypes:=ts}=> !(ts.toList.all fun t=>T.all fun u=> !(t==u))
 |_=>false
def vH(T:List TypeId)(R:Array Oper):Md:=fun op=>match Bn R 0 op with
 |0=>if apZ T op then 3 else 0
 |m=>m
def GJ:V->Option Key
 | .c (.ptr k _)=>some k
 | .c (.mW k _ _)=>some k
 | .c (.jQ k)=>some k
 | .c (.mp k)=>some k
 | .c (.xp k _ _)=>some k
 | .c (.xq k _ _ _ _ _)=>some k
 |_=>none
theorem Sz{v:V}{k:Key}(h:Ls v k):GJ v=some k:=by
 rcases h with⟨_,rfl⟩|⟨_,_,rfl⟩|rfl|rfl|⟨_,_,rfl⟩|⟨_,_,_,_,_,rfl⟩<;>rfl
def abF:Key->Key->Bool
 |(0,a),(0,b)=>a !=b
 |(0,_),(_+1,_)=>true
 |(_+1,_),(0,_)=>true
 |_,_=>false
theorem ah8{k k':Key}(h:abF k k'=true):k≠k':=by
 rintro rfl;obtain⟨l,j⟩:=k;cases l<;>simp[abF] at h
def abG(v w:V):Bool:=match GJ v,GJ w with
 |some k,some k'=>abF k k'
 |_,_=>true
def UH:Op->List Operand
 | .store _ a _=>[a]
 | .call {callee:=.value _,args:=Ee,argTypes:=_}=>Ee.toList
 |_=>[]
def LH(R:Array Oper)(i:Nat)(x:Oper)(j:Nat)(y:Oper):Bool:=kg y.op||(match x.op with
 | .store _ _ _=>true
 | .call {callee:=.value _,args:=_,argTypes:=_}=>true
 |_=>false)&&(UH x.op).all (settled R i)&&y.op.operands.toList.all (settled R j)
def J7(T:List TypeId)(R:Array Oper)(p i j:Nat)(x y:Oper):Bool:= !(x.apart R y)||(!(decide (j=p))&&((gD (vH T R) x.op&&gD (vH T R) y.op)||(mX (vH T R) x.op&& !(LH R i x j y))||(mX (vH T R) y.op&& !(LH R j y i x))))
def Eu(T:List TypeId)(R:Array Oper)(N p:Nat):Bool:=JU (vH T R) R p&&
 (List.range R.size).all fun j=>
   (match R[j]? with
    |some o=>o.after.toList.all (fun e=> !Region.binds .any e||decide (e.on<j))&&(match o.dst with|some d=>decide (d<N)|none=>true)
    |none=>true)&&
   (List.range j).all fun i=>
     match R[i]?,R[j]? with
     |some x,some y=>((masks R.toList []).getD j 0).testBit i|| !(J7 T R p i j x y)
     |_,_=>true
def ar7(T:List TypeId)(R:Array Oper)(N:Nat):Nat:=if Eu T R N R.size then R.size else((List.range R.size).find? fun p=>M4 R p&&Eu T R N p).getD R.size
def ZP(T:List TypeId)(R:Array Oper)(N:Nat):Bool:=Eu T R N (ar7 T R N)
def UJ(E:Md)(R:Array Oper)(tm:List (Nat×V)):Bool:=
 (List.range R.size).all fun i=>match R[i]? with
   |some x=> !(mX E x.op)||(UH x.op).all fun a=>(List.range R.size).all fun j=>match R[j]? with
     |some y=>uV R i j||gD E y.op||kg y.op||aaP y.op||y.op.operands.toList.all (fun z=>abG (ev tm a) (ev tm z))
     |none=>true
   |none=>true
def Rn(vs:List V)(S S':Store):Prop:=∀k,(∃v∈vs,Ls v k)\/bE S' k=bE S k
def Iw(T:List TypeId)(R:Array Oper)(op:Op)(tm:List (Nat×V))(S S':Store):Prop:=match op with
 | .call {callee:=.value x,args:=Ee,argTypes:=ts}=>vH T R (.call {callee:=.value x,args:=Ee,argTypes:=ts})=3->Rn (GH tm Ee.toList) S S'
 |_=>True
section
variable {P:Program} {N:Nat} {S:Store} {s:St} {tm:List (Nat×V)} {T:List TypeId} {R:Array Oper}
def Br(P:Program)(T:List TypeId)(R:Array Oper):List Oper->St->(St->Prop)->Prop
 |[],s,K=>K s
 |o::os,s,K=>rJ P (vH T R) R o s fun s'=>Iw T R o.op s.tm s.st s'.st/\Br P T R os s' K
theorem aeO{op:Op}(h:2<=vH T R op):vH T R op=3\/(List.range R.size).all (fun i=>match R[i]? with
 |some o=>(BO op !=BO o.op)||Q0 R i
 |none=>true)=true:=by
 unfold vH at h ⊢;split at h
 ·rename_i e;split at h
  ·rename_i hc;left;rw[if_pos hc]
  ·omega
 ·rename_i m hm;right;unfold Bn at h;split at h
  ·rename_i hq;exact hq
  ·omega
theorem ah9{o:Oper}{i j:Nat}(ho:R[i]? =some o)(hj:j<R.size)(hij:i≠j)(h:(List.range R.size).all (fun i=>match R[i]? with
 |some o'=>(BO o.op !=BO o'.op)||Q0 R i
 |none=>true)=true):uV R i j=true:=by
 have hi:i<R.size:=(Array.getElem?_eq_some_iff.1 ho).1;have h1:=List.all_eq_true.1 h i (List.mem_range.2 hi);rw[ho] at h1;simp only[bne_self_eq_false,Bool.false_or] at h1;have h2:=List.all_eq_true.1 h1 j (List.mem_range.2 hj);unfold uV;have hne:¬j=i:=fun e=>hij e.symm;simp only[hne,decide_false,Bool.false_or] at h2;by_cases e:i<j
 ·rw[if_pos e];rwa [if_neg (by omega)] at h2
 ·rw[if_neg e];rwa [if_pos (by omega)] at h2
theorem aeP{o:Oper}{s s':St}{v:V}(ht:oo P (vH T R) R o s v s')(hf:Iw T R o.op s.tm s.st s'.st)(hc:kg o.op=true)(hm:vH T R o.op=3){k:Key}
 (hk:∀a∈UH o.op,∀k',GJ (ev s.tm a)=some k'->k'≠k):bE s'.st k=bE s.st k:=by
 obtain⟨dst,op,ty,pos,after,guard⟩:=o
 cases op with
 |call c=>
  obtain⟨BM,args,ts⟩:=c
  cases BM with
  |value f=>
   rcases hf hm k with⟨v,hv,hr⟩|h
   ·obtain⟨a,ha,rfl⟩:=List.mem_map.1 hv;exact absurd rfl (hk a ha k (Sz hr))
   ·exact h
  |_=>cases hc
 |_=>cases hc
theorem abH{v w:V}(h:abG v w=true){k k':Key}(hv:GJ v=some k')(hw:Ls w k):k'≠k:=by
 unfold abG at h;rw[hv,Sz hw] at h;exact ah8 h
theorem als{st:Nat->St}{vs:Nat->V}{p:Nat}(hok:Eu T R N p=true)
 (hF:∀i,i<R.size->∃o,R[i]? =some o/\oo P (vH T R) R o (st i) (vs i) (st (i+1))/\Iw T R o.op (st i).tm (st i).st (st (i+1)).st)(hl:UJ (vH T R) R (st R.size).tm=true):Sm (vH T R) R N st p:=by
 unfold Eu at hok;rw[Bool.and_eq_true] at hok;have Aq:=ZJ hok.1;obtain⟨hed,h2⟩:=OJ (f:=fun i j x y=>J7 T R p i j x y) hok.2
 have hT:∀i,i<R.size->∃o,R[i]? =some o/\oo P (vH T R) R o (st i) (vs i) (st (i+1)):=fun i hi=>by
  obtain⟨o,a,b,_⟩:=hF i hi;exact⟨o,a,b⟩
 refine⟨?_,?_,?_,?_,Aq⟩
 ·intro i o e ho he hb;have h2:=hed i o ho;simp only[Bool.and_eq_true] at h2;have h3:=List.all_eq_true.1 h2.1 e (by simpa using he);simpa [hb] using h3
 ·intro i o ho d hd;have h2:=hed i o ho;simp only[Bool.and_eq_true,hd] at h2;simpa using h2.2
 ·intro i j x y hij hx hy hc;rcases h2 i j x y hij hx hy with h|h
  ·exact .inl h
  ·unfold J7 at h;unfold oq at hc;rw[Bool.or_eq_false_iff,Bool.not_eq_false'] at h;rw[h.1] at hc;simp only[Bool.not_true,Bool.false_or] at hc;by_cases e:j=p
   ·exact .inr ⟨e,(Bool.and_eq_true _ _▸hc).1,h.1⟩
   ·have h3:=h.2;simp only[e,decide_false,Bool.not_false,Bool.true_and,Bool.or_eq_false_iff] at h3;rw[hc] at h3;cases h3.1.1
 ·intro i j x o hij hx ho hs hD hc
  have hjp:j≠p:=fun e=>by
   subst e;have:=(wQ (E:=vH T R) (Aq o ho).1).1;rw[hD] at this;cases this
  have Sn:i≠p:=fun e=>by
   subst e;have:=(wQ (E:=vH T R) (Aq x hx).1).2.1;rw[hs] at this;cases this
  cases hb:uV R i j with
  |true=>exact .inl rfl
  |false=>
   refine .inr ?_;rintro k ⟨hmv,z,hz,hk⟩;have hi:i<R.size:=(Array.getElem?_eq_some_iff.1 hx).1;have hj:j<R.size:=(Array.getElem?_eq_some_iff.1 ho).1
   have hlo:LH R i x j o=true:=by
    unfold uV at hb;by_cases e:i<j
    ·rw[if_pos e] at hb;rcases h2 i j x o e hx ho with h|h
     ·rw[hb] at h;cases h
     ·simp only[J7,hjp,decide_false,Bool.not_false,hs,Bool.true_and,Bool.or_eq_false_iff,Bool.not_eq_false'] at h;exact h.2.1.2
    ·rw[if_neg e] at hb;rcases h2 j i o x (by omega) ho hx with h|h
     ·rw[hb] at h;cases h
     ·simp only[J7,Sn,decide_false,Bool.not_false,hs,Bool.true_and,Bool.or_eq_false_iff,Bool.not_eq_false'] at h;exact h.2.2
   unfold LH at hlo;rw[hc,Bool.false_or,Bool.and_eq_true,Bool.and_eq_true] at hlo;obtain⟨⟨hop,hsa⟩,hsy⟩:=hlo
   have hz':z∈o.op.operands.toList:=by simpa using hz
   have hsz:=List.all_eq_true.1 hsy z hz';have h1:=List.all_eq_true.1 hl i (List.mem_range.2 hi);rw[hx] at h1;simp only[hs,Bool.not_true,Bool.false_or] at h1
   have key:∀a∈UH x.op,∀k',GJ (ev (st i).tm a)=some k'->k'≠k:=fun a ha k' hk'=>by
    have h3:=List.all_eq_true.1 h1 a ha;have h4:=List.all_eq_true.1 h3 j (List.mem_range.2 hj);rw[ho] at h4;simp only[hb,hD,hc,hmv,Bool.false_or] at h4;have h5:=List.all_eq_true.1 h4 z hz';rw[Dr hT (by omega) (List.all_eq_true.1 hsa a ha),Dr hT (by omega) hsz] at h5;exact abH h5 hk' hk
   obtain⟨x',hx',ht,hf⟩:=hF i hi;rw[hx] at hx';cases hx';split at hop
   ·rename_i t a y e;refine Ms e ht fun k' hk'=>key a (by rw[e];exact List.mem_singleton.2 rfl) k' ?_;rcases hk' with⟨_,h⟩|⟨_,_,h⟩|⟨_,_,_,_,_,h⟩<;>rw[h]<;>rfl
   ·rename_i f Ee ts e
    have hcv:kg x.op=true:=by rw[e];rfl
    have h2m:2<=vH T R x.op:=by
     unfold mX at hs
     have hns:AJ x.op=false:=by rw[e];rfl
     rw[hns,Bool.false_or,Bool.and_eq_true,decide_eq_true_eq] at hs;exact hs.1
    rcases aeO h2m with h3|h3
    ·exact aeP ht hf hcv h3 key
    ·rw[ah9 hx hj hij h3] at hb;cases hb
   ·cases hop
theorem YK{id:Nat}{Q:Exit->St->Prop}{s:St}(gI:P.follows .mixedOrders=true)(hok:ZP T R N=true)(h:Br P T R R.toList s (fun s'=>UJ (vH T R) R s'.tm=true/\Q .normal s')):AW P N (.region id R true) Q s:=by
 obtain⟨st,vs,h0,hK,hT⟩:=JX (F:=fun o s s'=>Iw T R o.op s.tm s.st s'.st) (D:=fun os s=>Br P T R os s (fun s'=>UJ (vH T R) R s'.tm=true/\Q .normal s')) (fun _ h=>h) (fun o os s h=>by
  obtain⟨v,s',a,b⟩:=Mr h
  exact⟨v,s',a,b⟩) R.size 0 (by omega) s h
 have hT':=fun i hi=>hT i (Nat.zero_le i) hi;refine Ik (vs:=vs) gI h0 hK.2 (fun i hi=> ?_) (als hok hT' hK.1);obtain⟨o,a,b,_⟩:=hT' i hi;exact⟨o,a,b⟩
def O3(E:Md)(R:Array Oper)(K:St->Prop)(s:St):Prop:=UJ E R s.tm=true/\K s
@[congr] theorem anH {E:Md} {R:Array Oper} {K:St->Prop} {s s':St} (h2:s=s'):O3 E R K s=O3 E R K s':=by rw[h2]
def GK(P:Program)(T:List TypeId)(R:Array Oper)(os:List Oper)(K:St->Prop)(s:St):Prop:=Br P T R os s K
def O4(P:Program)(T:List TypeId)(R:Array Oper)(op:Op)(tm:List (Nat×V))(S:Store)(os:List Oper)(K:St->Prop)(s':St):Prop:=Iw T R op tm S s'.st/\GK P T R os K s'
@[congr] theorem ao3 {os:List Oper} {s s':St} {K:St->Prop} (h2:s=s'):Br P T R os s K=Br P T R os s' K:=by rw[h2]
@[congr] theorem anI {os:List Oper} {s s':St} {K:St->Prop} (h2:s=s'):GK P T R os K s=GK P T R os K s':=by rw[h2]
@[congr] theorem ao4 {op:Op} {os:List Oper} {s s':St} {K:St->Prop} (h2:s=s'):O4 P T R op tm S os K s=O4 P T R op tm S os K s':=by rw[h2]
theorem aeQ{K:St->Prop}:Br P T R [] ⟨tm,S⟩ K=K ⟨tm,S⟩:=rfl
theorem abI{o:Oper}{os:List Oper}{K:St->Prop}:Br P T R (o::os) ⟨tm,S⟩ K=rJ P (vH T R) R o ⟨tm,S⟩ (O4 P T R o.op tm S os K):=rfl
theorem abJ{K:St->Prop}:GK P T R [] K ⟨tm,S⟩=K ⟨tm,S⟩:=rfl
theorem YL{o:Oper}{os:List Oper}{K:St->Prop}:GK P T R (o::os) K ⟨tm,S⟩=rJ P (vH T R) R o ⟨tm,S⟩ (O4 P T R o.op tm S os K):=rfl
theorem aia{op:Op}{os:List Oper}{K:St->Prop}{tm':List (Nat×V)}{S':Store}:O4 P T R op tm S os K ⟨tm',S'⟩=(Iw T R op tm S S'/\GK P T R os K ⟨tm',S'⟩):=rfl
theorem aeR{vs:List V}:Rn vs S S=True:=by simp[Rn]
theorem aib{vs:List V}{k:Key}{off:Nat}{x:Obj}:Rn (.c (.ptr k off)::vs) S (bG S k x)=True:=by
 refine eq_true fun k'=> ?_;by_cases e:k=k'
 ·subst e;exact .inl ⟨_,List.mem_cons_self,.inl ⟨_,rfl⟩⟩
 ·exact .inr (fH _ _ _ _ e)
theorem SA{vs:List V}{l j off:Nat}{fr:List Obj}{x:Obj}:Rn (.c (.ptr (1+l,j) off)::vs) (fr::S) (fr::bG S (l,j) x)=True:=by
 have:=aib (S:=fr::S) (vs:=vs) (k:=(1+l,j)) (off:=off) (x:=x)
 rwa [dW] at this
theorem aeS{vs:List V}{l j off:Nat}{fr:List Obj}{x y:Obj}:Rn (.c (.ptr (1+l,j) off)::vs) (fr::bG S (l,j) x) (fr::bG S (l,j) y)=True:=by
 have:=SA (S:=bG S (l,j) x) (vs:=vs) (l:=l) (j:=j) (off:=off) (fr:=fr) (x:=y)
 rwa [dJ] at this
theorem anJ{p:Prop}:(p->True)=True:=by simp
def oK(P:Program)(N:Nat)(T:List TypeId):Code->(Exit->St->Prop)->St->Prop
 | .seq x y,Q,s=>oK P N T x (lY (oK P N T y Q) Q) s
 | .region _ R true,Q,s=>Br P T R R.toList s (O3 (vH T R) R (Q .normal))
 | .region id R false,Q,s=>CW P N (.region id R false) Q s
 | .cond c x y,Q,s=>Dt (ev s.tm c) (oK P N T x Q) (oK P N T y Q) s
 | .block id c,Q,s=>oK P N T c (zR id Q) s
 | .exit id,Q,s=>CW P N (.exit id) Q s
 | .ret,Q,s=>CW P N .ret Q s
 | .skip,Q,s=>CW P N .skip Q s
 | .loop c,Q,s=>CW P N (.loop c) Q s
 |_,_,_=>False
def rM(T:List TypeId)(N:Nat):Code->Bool
 | .seq x y=>rM T N x&&rM T N y
 | .region _ R true=>ZP T R N
 | .cond _ x y=>rM T N x&&rM T N y
 | .block _ c=>rM T N c
 | .loop _=>true
 |c=>codeOk N c
theorem rz(gI:P.follows .mixedOrders=true):∀(c:Code)(Q:Exit->St->Prop)(s:St),rM T N c=true->oK P N T c Q s->AW P N c Q s
 | .seq x y,Q,s,ok,h=>by
   simp only[rM,Bool.and_eq_true] at ok;refine Vs (AW.mono (rz gI x _ s ok.1 h) fun e s' h'=> ?_)
   cases e with
   |normal=>exact rz gI y Q s' ok.2 h'
   |_=>exact h'
 | .region _ R true,Q,s,ok,h=>YK gI ok h
 | .region id R false,Q,s,ok,h=>kE gI _ Q s ok h
 | .cond c x y,Q,s,ok,h=>by
   simp only[rM,Bool.and_eq_true] at ok;simp only[oK,Dt] at h;split at h
   ·rename_i b hb;exact ZF hb (fun e=>rz gI x Q s ok.1 (h.1 e)) (fun e=>rz gI y Q s ok.2 (h.2 e))
   ·exact h.elim
 | .block id c,Q,s,ok,h=>Vu (rz gI c _ s ok h)
 | .exit id,Q,s,ok,h=>kE gI _ Q s ok h
 | .ret,Q,s,ok,h=>kE gI _ Q s ok h
 | .skip,Q,s,ok,h=>kE gI _ Q s ok h
 | .loop c,Q,s,ok,h=>by
   rw[oK,ZL] at h;exact h
 | .rangeFunc _ _ _ _,Q,s,ok,h=>h.elim
 | .scope _,Q,s,ok,h=>h.elim
 | .label _,Q,s,ok,h=>h.elim
 | .goto _,Q,s,ok,h=>h.elim
 | .refuse _,Q,s,ok,h=>h.elim
theorem alu{x y:Code}{Q:Exit->St->Prop}:oK P N T (.seq x y) Q s=oK P N T x (lY (oK P N T y Q) Q) s:=by rw[oK]
theorem aic{id:Nat}{l:List Oper}{Q:Exit->St->Prop}:oK P N T (.region id ⟨l⟩ true) Q s=Br P T ⟨l⟩ l s (O3 (vH T ⟨l⟩) ⟨l⟩ (Q .normal)):=by rw[oK]
theorem abK{id:Nat}{l:List Oper}{Q:Exit->St->Prop}:oK P N T (.region id ⟨l⟩ false) Q s=CW P N (.region id ⟨l⟩ false) Q s:=by rw[oK]
theorem aie{c:Operand}{x y:Code}{Q:Exit->St->Prop}:oK P N T (.cond c x y) Q s=Dt (ev s.tm c) (oK P N T x Q) (oK P N T y Q) s:=by rw[oK]
theorem aeT{id:Nat}{c:Code}{Q:Exit->St->Prop}:oK P N T (.block id c) Q s=oK P N T c (zR id Q) s:=by rw[oK]
theorem aif{id:Nat}{Q:Exit->St->Prop}:oK P N T (.exit id) Q s=CW P N (.exit id) Q s:=by rw[oK]
theorem alv{Q:Exit->St->Prop}:oK P N T .ret Q s=CW P N .ret Q s:=by rw[oK]
theorem aii{Q:Exit->St->Prop}:oK P N T .skip Q s=CW P N .skip Q s:=by rw[oK]
theorem aij{c:Code}{Q:Exit->St->Prop}:oK P N T (.loop c) Q s=CW P N (.loop c) Q s:=by rw[oK]
theorem aik{ι:Type}{c:Code}{Q:Exit->St->Prop}(T:List TypeId)(gI:P.follows .mixedOrders=true)(hok:rM T N c=true)(ts:List Nat)(f:ι->List V)(g:ι->Store)(p:ι->Prop)(μ:ι->Nat)(i0:ι)
 (h1:ts.map (look s.tm)=f i0)(h2:s.st=g i0)(h3:p i0)
 (round:∀i,p i->oK P N T c (lY (Inv N ts f g p μ i) Q) ⟨gT ts (f i),g i⟩):AW P N (.loop c) Q s:=by
 refine ZG (ι:=ι) (fun i s=>∃s0,ig N s s0/\ts.map (look s0.tm)=f i/\s0.st=g i/\p i) μ i0 ⟨s,ig.refl _ _,h1,h2,h3⟩ fun i s hI=> ?_;obtain⟨s0,hg,h1,h2,h3⟩:=hI;refine lU ?_ hg
 have hr:=(rz gI c _ _ hok (round i h3)).mono (Q':=lY (fun s'=>∃j,μ j<μ i/\∃s0,ig N s' s0/\ts.map (look s0.tm)=f j/\s0.st=g j/\p j) Q) fun e s' h=>by
  cases e with
  |normal=>
   obtain⟨j,s0,a1,a2,a3,a4,a5⟩:=h;exact⟨j,a1,s0,a2,a3,a4,a5⟩
  |_=>exact h
 obtain⟨tm,st⟩:=s0;simp only at h1 h2;subst h2;rw[<-h1] at hr;exact aj6 hr fun t=>AO _ ts t
theorem BU(T:List TypeId){f:FuncId}{fn:Func}{c:Code}{args:List V}{post:V->Store->Prop}{rs:List ResultVar}(gI:P.follows .mixedOrders=true)(hf:P.funcs[f]? =some fn)(hN:fn.ntmps=N)
 (hb:fn.body=some c) (hn:(fn.name== "runtime.NumGoroutine")=false) (hr:fn.results.toList=rs) (hl:Nat.ble args.length N=true) (hok:rM T N c=true)
 (h:oK P N T c (Rh P rs post) ⟨mO (args.map (V.up 1)) 0,[]::S⟩):bX P f args S post:=by
 subst hN;subst hr;exact tK hf hb hn (Nat.le_of_ble_eq_true hl) (yA zW (rz gI c _ _ hok h))
end
attribute [go_sem ↓] alu aic abK aie aeT aif alv aii aij aeQ abI abJ YL
attribute [go_sem] aia Iw aeR SA aeS anJ
end Go.Ab