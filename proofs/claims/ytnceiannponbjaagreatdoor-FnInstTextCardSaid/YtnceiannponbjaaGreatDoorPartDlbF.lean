/-
  SEVERAL TEXTS IN ONE (merged by program): contracts and models, each with its own heading.
-/
import Derived.Test.YtnceiannponbjaaGreatDoorPartDlbD
import Derived.Test.YtnceiannponbjaaGreatDoorPartDlbE
open Go.Proofs Go.Proofs.Tryz
set_option linter.unusedSimpArgs false
set_option linter.unusedVariables false
set_option maxRecDepth 4000
namespace Go.Ab
def ah9(T:List TypeId):Op->Bool
 | .call {callee:=.value _,args:=_,argTypes:=ts}=> !(ts.toList.all fun t=>T.all fun u=> !(t==u))
 |_=>false
def qO(T:List TypeId)(R:Array Oper):Md:=fun op=>match xC R 0 op with
 |0=>if ah9 T op then 3 else 0
 |m=>m
def Ci:V->Option Key
 | .c (.ptr k _)=>some k
 | .c (.ku k _ _)=>some k
 | .c (.gQ k)=>some k
 | .c (.mp k)=>some k
 | .c (.xp k _ _)=>some k
 | .c (.xq k _ _ _ _ _)=>some k
 |_=>none
theorem ME{v:V}{k:Key}(h:Gd v k):Ci v=some k:=by
 rcases h with⟨_,rfl⟩|⟨_,_,rfl⟩|rfl|rfl|⟨_,_,rfl⟩|⟨_,_,_,_,_,rfl⟩<;>rfl
def V6:Key->Key->Bool
 |(0,a),(0,b)=>a !=b
 |(0,_),(_+1,_)=>true
 |(_+1,_),(0,_)=>true
 |_,_=>false
theorem ab5{k k':Key}(h:V6 k k'=true):k≠k':=by
 rintro rfl;obtain⟨l,j⟩:=k;cases l<;>simp[V6] at h
def V7(v w:V):Bool:=match Ci v,Ci w with
 |some k,some k'=>V6 k k'
 |_,_=>true
def Oh:Op->List Operand
 | .store _ a _=>[a]
 | .call {callee:=.value _,args:=vP,argTypes:=_}=>vP.toList
 |_=>[]
def Gp(R:Array Oper)(i:Nat)(x:Oper)(j:Nat)(y:Oper):Bool:=iT y.op||(match x.op with
 | .store _ _ _=>true
 | .call {callee:=.value _,args:=_,argTypes:=_}=>true
 |_=>false)&&(Oh x.op).all (settled R i)&&y.op.operands.toList.all (settled R j)
def EP(T:List TypeId)(R:Array Oper)(p i j:Nat)(x y:Oper):Bool:= !(x.apart R y)||(!(decide (j=p))&&((eZ (qO T R) x.op&&eZ (qO T R) y.op)||(kC (qO T R) x.op&& !(Gp R i x j y))||(kC (qO T R) y.op&& !(Gp R j y i x))))
def z8(T:List TypeId)(R:Array Oper)(N p:Nat):Bool:=EC (qO T R) R p&&
 (List.range R.size).all fun j=>
   (match R[j]? with
    |some o=>o.after.toList.all (fun e=> !Region.binds .any e||decide (e.on<j))&&(match o.dst with|some d=>decide (d<N)|none=>true)
    |none=>true)&&
   (List.range j).all fun i=>
     match R[i]?,R[j]? with
     |some x,some y=>((masks R.toList []).getD j 0).testBit i|| !(EP T R p i j x y)
     |_,_=>true
def ajE(T:List TypeId)(R:Array Oper)(N:Nat):Nat:=if z8 T R N R.size then R.size else((List.range R.size).find? fun p=>Ij R p&&z8 T R N p).getD R.size
def TU(T:List TypeId)(R:Array Oper)(N:Nat):Bool:=z8 T R N (ajE T R N)
def Oi(E:Md)(R:Array Oper)(tm:List (Nat×V)):Bool:=
 (List.range R.size).all fun i=>match R[i]? with
   |some x=> !(kC E x.op)||(Oh x.op).all fun a=>(List.range R.size).all fun j=>match R[j]? with
     |some y=>qE R i j||eZ E y.op||iT y.op||Vb y.op||y.op.operands.toList.all (fun z=>V7 (ev tm a) (ev tm z))
     |none=>true
   |none=>true
def LH(vs:List V)(S S':Store):Prop:=∀k,(∃v∈vs,Gd v k)\/aW S' k=aW S k
def Dn(T:List TypeId)(R:Array Oper)(op:Op)(tm:List (Nat×V))(S S':Store):Prop:=match op with
 | .call {callee:=.value x,args:=vP,argTypes:=ts}=>qO T R (.call {callee:=.value x,args:=vP,argTypes:=ts})=3->LH (Cg tm vP.toList) S S'
 |_=>True
section
variable {P:Program} {N:Nat} {S:Store} {s:St} {tm:List (Nat×V)} {T:List TypeId} {R:Array Oper}
def xH(P:Program)(T:List TypeId)(R:Array Oper):List Oper->St->(St->Prop)->Prop
 |[],s,K=>K s
 |o::os,s,K=>nP P (qO T R) R o s fun s'=>Dn T R o.op s.tm s.st s'.st/\xH P T R os s' K
theorem Y2{op:Op}(h:2<=qO T R op):qO T R op=3\/(List.range R.size).all (fun i=>match R[i]? with
 |some o=>(xY op !=xY o.op)||Lh R i
 |none=>true)=true:=by
 unfold qO at h ⊢;split at h
 ·rename_i e;split at h
  ·rename_i hc;left;rw[if_pos hc]
  ·omega
 ·rename_i m hm;right;unfold xC at h;split at h
  ·rename_i hq;exact hq
  ·omega
theorem ab6{o:Oper}{i j:Nat}(ho:R[i]? =some o)(hj:j<R.size)(hij:i≠j)(h:(List.range R.size).all (fun i=>match R[i]? with
 |some o'=>(xY o.op !=xY o'.op)||Lh R i
 |none=>true)=true):qE R i j=true:=by
 have hi:i<R.size:=(Array.getElem?_eq_some_iff.1 ho).1;have h1:=List.all_eq_true.1 h i (List.mem_range.2 hi);rw[ho] at h1;simp only[bne_self_eq_false,Bool.false_or] at h1;have h2:=List.all_eq_true.1 h1 j (List.mem_range.2 hj);unfold qE;have hne:¬j=i:=fun e=>hij e.symm;simp only[hne,decide_false,Bool.false_or] at h2;by_cases e:i<j
 ·rw[if_pos e];rwa [if_neg (by omega)] at h2
 ·rw[if_neg e];rwa [if_pos (by omega)] at h2
theorem Y3{o:Oper}{s s':St}{v:V}(ht:lU P (qO T R) R o s v s')(hf:Dn T R o.op s.tm s.st s'.st)(hc:iT o.op=true)(hm:qO T R o.op=3){k:Key}
 (hk:∀a∈Oh o.op,∀k',Ci (ev s.tm a)=some k'->k'≠k):aW s'.st k=aW s.st k:=by
 obtain⟨dst,op,ty,pos,after,guard⟩:=o
 cases op with
 |call c=>
  obtain⟨xW,args,ts⟩:=c
  cases xW with
  |value f=>
   rcases hf hm k with⟨v,hv,hr⟩|h
   ·obtain⟨a,ha,rfl⟩:=List.mem_map.1 hv;exact absurd rfl (hk a ha k (ME hr))
   ·exact h
  |_=>cases hc
 |_=>cases hc
theorem V8{v w:V}(h:V7 v w=true){k k':Key}(hv:Ci v=some k')(hw:Gd w k):k'≠k:=by
 unfold V7 at h;rw[hv,ME hw] at h;exact ab5 h
theorem aeQ{st:Nat->St}{vs:Nat->V}{p:Nat}(hok:z8 T R N p=true)
 (hF:∀i,i<R.size->∃o,R[i]? =some o/\lU P (qO T R) R o (st i) (vs i) (st (i+1))/\Dn T R o.op (st i).tm (st i).st (st (i+1)).st)(hl:Oi (qO T R) R (st R.size).tm=true):Ms (qO T R) R N st p:=by
 unfold z8 at hok;rw[Bool.and_eq_true] at hok;have wI:=TL hok.1;obtain⟨hed,h2⟩:=Jv (f:=fun i j x y=>EP T R p i j x y) hok.2
 have hT:∀i,i<R.size->∃o,R[i]? =some o/\lU P (qO T R) R o (st i) (vs i) (st (i+1)):=fun i hi=>by
  obtain⟨o,a,b,_⟩:=hF i hi;exact⟨o,a,b⟩
 refine⟨?_,?_,?_,?_,wI⟩
 ·intro i o e ho he hb;have h2:=hed i o ho;simp only[Bool.and_eq_true] at h2;have h3:=List.all_eq_true.1 h2.1 e (by simpa using he);simpa [hb] using h3
 ·intro i o ho d hd;have h2:=hed i o ho;simp only[Bool.and_eq_true,hd] at h2;simpa using h2.2
 ·intro i j x y hij hx hy hc;rcases h2 i j x y hij hx hy with h|h
  ·exact .inl h
  ·unfold EP at h;unfold lW at hc;rw[Bool.or_eq_false_iff,Bool.not_eq_false'] at h;rw[h.1] at hc;simp only[Bool.not_true,Bool.false_or] at hc;by_cases e:j=p
   ·exact .inr ⟨e,(Bool.and_eq_true _ _▸hc).1,h.1⟩
   ·have h3:=h.2;simp only[e,decide_false,Bool.not_false,Bool.true_and,Bool.or_eq_false_iff] at h3;rw[hc] at h3;cases h3.1.1
 ·intro i j x o hij hx ho hs hD hc
  have hjp:j≠p:=fun e=>by
   subst e;have:=(su (E:=qO T R) (wI o ho).1).1;rw[hD] at this;cases this
  have Mt:i≠p:=fun e=>by
   subst e;have:=(su (E:=qO T R) (wI x hx).1).2.1;rw[hs] at this;cases this
  cases hb:qE R i j with
  |true=>exact .inl rfl
  |false=>
   refine .inr ?_;rintro k ⟨hmv,z,hz,hk⟩;have hi:i<R.size:=(Array.getElem?_eq_some_iff.1 hx).1;have hj:j<R.size:=(Array.getElem?_eq_some_iff.1 ho).1
   have hlo:Gp R i x j o=true:=by
    unfold qE at hb;by_cases e:i<j
    ·rw[if_pos e] at hb;rcases h2 i j x o e hx ho with h|h
     ·rw[hb] at h;cases h
     ·simp only[EP,hjp,decide_false,Bool.not_false,hs,Bool.true_and,Bool.or_eq_false_iff,Bool.not_eq_false'] at h;exact h.2.1.2
    ·rw[if_neg e] at hb;rcases h2 j i o x (by omega) ho hx with h|h
     ·rw[hb] at h;cases h
     ·simp only[EP,Mt,decide_false,Bool.not_false,hs,Bool.true_and,Bool.or_eq_false_iff,Bool.not_eq_false'] at h;exact h.2.2
   unfold Gp at hlo;rw[hc,Bool.false_or,Bool.and_eq_true,Bool.and_eq_true] at hlo;obtain⟨⟨hop,hsa⟩,hsy⟩:=hlo
   have hz':z∈o.op.operands.toList:=by simpa using hz
   have hsz:=List.all_eq_true.1 hsy z hz';have h1:=List.all_eq_true.1 hl i (List.mem_range.2 hi);rw[hx] at h1;simp only[hs,Bool.not_true,Bool.false_or] at h1
   have key:∀a∈Oh x.op,∀k',Ci (ev (st i).tm a)=some k'->k'≠k:=fun a ha k' hk'=>by
    have h3:=List.all_eq_true.1 h1 a ha;have h4:=List.all_eq_true.1 h3 j (List.mem_range.2 hj);rw[ho] at h4;simp only[hb,hD,hc,hmv,Bool.false_or] at h4;have h5:=List.all_eq_true.1 h4 z hz';rw[ze hT (by omega) (List.all_eq_true.1 hsa a ha),ze hT (by omega) hsz] at h5;exact V8 h5 hk' hk
   obtain⟨x',hx',ht,hf⟩:=hF i hi;rw[hx] at hx';cases hx';split at hop
   ·rename_i t a y e;refine G8 e ht fun k' hk'=>key a (by rw[e];exact List.mem_singleton.2 rfl) k' ?_;rcases hk' with⟨_,h⟩|⟨_,_,h⟩|⟨_,_,_,_,_,h⟩<;>rw[h]<;>rfl
   ·rename_i f vP ts e
    have hcv:iT x.op=true:=by rw[e];rfl
    have h2m:2<=qO T R x.op:=by
     unfold kC at hs
     have hns:wR x.op=false:=by rw[e];rfl
     rw[hns,Bool.false_or,Bool.and_eq_true,decide_eq_true_eq] at hs;exact hs.1
    rcases Y2 h2m with h3|h3
    ·exact Y3 ht hf hcv h3 key
    ·rw[ab6 hx hj hij h3] at hb;cases hb
   ·cases hop
theorem SA{id:Nat}{Q:Exit->St->Prop}{s:St}(fA:P.follows .mixedOrders=true)(hok:TU T R N=true)(h:xH P T R R.toList s (fun s'=>Oi (qO T R) R s'.tm=true/\Q .normal s')):AW P N (.region id R true) Q s:=by
 obtain⟨st,vs,h0,hK,hT⟩:=EG (F:=fun o s s'=>Dn T R o.op s.tm s.st s'.st) (D:=fun os s=>xH P T R os s (fun s'=>Oi (qO T R) R s'.tm=true/\Q .normal s')) (fun _ h=>h) (fun o os s h=>by
  obtain⟨v,s',a,b⟩:=G7 h
  exact⟨v,s',a,b⟩) R.size 0 (by omega) s h
 have hT':=fun i hi=>hT i (Nat.zero_le i) hi;refine Dc (vs:=vs) fA h0 hK.2 (fun i hi=> ?_) (aeQ hok hT' hK.1);obtain⟨o,a,b,_⟩:=hT' i hi;exact⟨o,a,b⟩
def JM(E:Md)(R:Array Oper)(K:St->Prop)(s:St):Prop:=Oi E R s.tm=true/\K s
@[congr] theorem agr {E:Md} {R:Array Oper} {K:St->Prop} {s s':St} (h2:s=s'):JM E R K s=JM E R K s':=by rw[h2]
def Cj(P:Program)(T:List TypeId)(R:Array Oper)(os:List Oper)(K:St->Prop)(s:St):Prop:=xH P T R os s K
def JN(P:Program)(T:List TypeId)(R:Array Oper)(op:Op)(tm:List (Nat×V))(S:Store)(os:List Oper)(K:St->Prop)(s':St):Prop:=Dn T R op tm S s'.st/\Cj P T R os K s'
@[congr] theorem ahm {os:List Oper} {s s':St} {K:St->Prop} (h2:s=s'):xH P T R os s K=xH P T R os s' K:=by rw[h2]
@[congr] theorem agt {os:List Oper} {s s':St} {K:St->Prop} (h2:s=s'):Cj P T R os K s=Cj P T R os K s':=by rw[h2]
@[congr] theorem ahn {op:Op} {os:List Oper} {s s':St} {K:St->Prop} (h2:s=s'):JN P T R op tm S os K s=JN P T R op tm S os K s':=by rw[h2]
theorem Y4{K:St->Prop}:xH P T R [] ⟨tm,S⟩ K=K ⟨tm,S⟩:=rfl
theorem V9{o:Oper}{os:List Oper}{K:St->Prop}:xH P T R (o::os) ⟨tm,S⟩ K=nP P (qO T R) R o ⟨tm,S⟩ (JN P T R o.op tm S os K):=rfl
theorem Wd{K:St->Prop}:Cj P T R [] K ⟨tm,S⟩=K ⟨tm,S⟩:=rfl
theorem SB{o:Oper}{os:List Oper}{K:St->Prop}:Cj P T R (o::os) K ⟨tm,S⟩=nP P (qO T R) R o ⟨tm,S⟩ (JN P T R o.op tm S os K):=rfl
theorem ab7{op:Op}{os:List Oper}{K:St->Prop}{tm':List (Nat×V)}{S':Store}:JN P T R op tm S os K ⟨tm',S'⟩=(Dn T R op tm S S'/\Cj P T R os K ⟨tm',S'⟩):=rfl
theorem Y5{vs:List V}:LH vs S S=True:=by simp[LH]
theorem ab8{vs:List V}{k:Key}{off:Nat}{x:Obj}:LH (.c (.ptr k off)::vs) S (aX S k x)=True:=by
 refine eq_true fun k'=> ?_;by_cases e:k=k'
 ·subst e;exact .inl ⟨_,List.mem_cons_self,.inl ⟨_,rfl⟩⟩
 ·exact .inr (dR _ _ _ _ e)
theorem MF{vs:List V}{l j off:Nat}{fr:List Obj}{x:Obj}:LH (.c (.ptr (1+l,j) off)::vs) (fr::S) (fr::aX S (l,j) x)=True:=by
 have:=ab8 (S:=fr::S) (vs:=vs) (k:=(1+l,j)) (off:=off) (x:=x)
 rwa [ay] at this
theorem Y6{vs:List V}{l j off:Nat}{fr:List Obj}{x y:Obj}:LH (.c (.ptr (1+l,j) off)::vs) (fr::aX S (l,j) x) (fr::aX S (l,j) y)=True:=by
 have:=MF (S:=aX S (l,j) x) (vs:=vs) (l:=l) (j:=j) (off:=off) (fr:=fr) (x:=y)
 rwa [ak] at this
theorem agu{p:Prop}:(p->True)=True:=by simp
def lX(P:Program)(N:Nat)(T:List TypeId):Code->(Exit->St->Prop)->St->Prop
 | .seq x y,Q,s=>lX P N T x (jy (lX P N T y Q) Q) s
 | .region _ R true,Q,s=>xH P T R R.toList s (JM (qO T R) R (Q .normal))
 | .region id R false,Q,s=>CW P N (.region id R false) Q s
 | .cond c x y,Q,s=>zf (ev s.tm c) (lX P N T x Q) (lX P N T y Q) s
 | .block id c,Q,s=>lX P N T c (vQ id Q) s
 | .exit id,Q,s=>CW P N (.exit id) Q s
 | .ret,Q,s=>CW P N .ret Q s
 | .skip,Q,s=>CW P N .skip Q s
 | .loop c,Q,s=>CW P N (.loop c) Q s
 |_,_,_=>False
def mU(T:List TypeId)(N:Nat):Code->Bool
 | .seq x y=>mU T N x&&mU T N y
 | .region _ R true=>TU T R N
 | .cond _ x y=>mU T N x&&mU T N y
 | .block _ c=>mU T N c
 | .loop _=>true
 |c=>codeOk N c
theorem mI(fA:P.follows .mixedOrders=true):∀(c:Code)(Q:Exit->St->Prop)(s:St),mU T N c=true->lX P N T c Q s->AW P N c Q s
 | .seq x y,Q,s,ok,h=>by
   simp only[mU,Bool.and_eq_true] at ok;refine EA (AW.mono (mI fA x _ s ok.1 h) fun e s' h'=> ?_)
   cases e with
   |normal=>exact mI fA y Q s' ok.2 h'
   |_=>exact h'
 | .region _ R true,Q,s,ok,h=>SA fA ok h
 | .region id R false,Q,s,ok,h=>iY fA _ Q s ok h
 | .cond c x y,Q,s,ok,h=>by
   simp only[mU,Bool.and_eq_true] at ok;simp only[lX,zf] at h;split at h
   ·rename_i b hb;exact F9 hb (fun e=>mI fA x Q s ok.1 (h.1 e)) (fun e=>mI fA y Q s ok.2 (h.2 e))
   ·exact h.elim
 | .block id c,Q,s,ok,h=>Ih (mI fA c _ s ok h)
 | .exit id,Q,s,ok,h=>iY fA _ Q s ok h
 | .ret,Q,s,ok,h=>iY fA _ Q s ok h
 | .skip,Q,s,ok,h=>iY fA _ Q s ok h
 | .loop c,Q,s,ok,h=>by
   rw[lX,TN] at h;exact h
 | .rangeFunc _ _ _ _,Q,s,ok,h=>h.elim
 | .scope _,Q,s,ok,h=>h.elim
 | .label _,Q,s,ok,h=>h.elim
 | .goto _,Q,s,ok,h=>h.elim
 | .refuse _,Q,s,ok,h=>h.elim
theorem aeR{x y:Code}{Q:Exit->St->Prop}:lX P N T (.seq x y) Q s=lX P N T x (jy (lX P N T y Q) Q) s:=by rw[lX]
theorem ab9{id:Nat}{l:List Oper}{Q:Exit->St->Prop}:lX P N T (.region id ⟨l⟩ true) Q s=xH P T ⟨l⟩ l s (JM (qO T ⟨l⟩) ⟨l⟩ (Q .normal)):=by rw[lX]
theorem Wh{id:Nat}{l:List Oper}{Q:Exit->St->Prop}:lX P N T (.region id ⟨l⟩ false) Q s=CW P N (.region id ⟨l⟩ false) Q s:=by rw[lX]
theorem acd{c:Operand}{x y:Code}{Q:Exit->St->Prop}:lX P N T (.cond c x y) Q s=zf (ev s.tm c) (lX P N T x Q) (lX P N T y Q) s:=by rw[lX]
theorem Y7{id:Nat}{c:Code}{Q:Exit->St->Prop}:lX P N T (.block id c) Q s=lX P N T c (vQ id Q) s:=by rw[lX]
theorem ace{id:Nat}{Q:Exit->St->Prop}:lX P N T (.exit id) Q s=CW P N (.exit id) Q s:=by rw[lX]
theorem aeS{Q:Exit->St->Prop}:lX P N T .ret Q s=CW P N .ret Q s:=by rw[lX]
theorem acf{Q:Exit->St->Prop}:lX P N T .skip Q s=CW P N .skip Q s:=by rw[lX]
theorem acg{c:Code}{Q:Exit->St->Prop}:lX P N T (.loop c) Q s=CW P N (.loop c) Q s:=by rw[lX]
theorem ach{ι:Type}{c:Code}{Q:Exit->St->Prop}(T:List TypeId)(fA:P.follows .mixedOrders=true)(hok:mU T N c=true)(ts:List Nat)(f:ι->List V)(g:ι->Store)(p:ι->Prop)(μ:ι->Nat)(i0:ι)
 (h1:ts.map (look s.tm)=f i0)(h2:s.st=g i0)(h3:p i0)
 (round:∀i,p i->lX P N T c (jy (Inv N ts f g p μ i) Q) ⟨jk ts (f i),g i⟩):AW P N (.loop c) Q s:=by
 refine TI (ι:=ι) (fun i s=>∃s0,fP N s s0/\ts.map (look s0.tm)=f i/\s0.st=g i/\p i) μ i0 ⟨s,fP.refl _ _,h1,h2,h3⟩ fun i s hI=> ?_;obtain⟨s0,hg,h1,h2,h3⟩:=hI;refine kD ?_ hg
 have hr:=(mI fA c _ _ hok (round i h3)).mono (Q':=jy (fun s'=>∃j,μ j<μ i/\∃s0,fP N s' s0/\ts.map (look s0.tm)=f j/\s0.st=g j/\p j) Q) fun e s' h=>by
  cases e with
  |normal=>
   obtain⟨j,s0,a1,a2,a3,a4,a5⟩:=h;exact⟨j,a1,s0,a2,a3,a4,a5⟩
  |_=>exact h
 obtain⟨tm,st⟩:=s0;simp only at h1 h2;subst h2;rw[<-h1] at hr;exact Vg hr fun t=>wT _ ts t
theorem sw(T:List TypeId){f:FuncId}{fn:Func}{c:Code}{args:List V}{post:V->Store->Prop}{rs:List ResultVar}(fA:P.follows .mixedOrders=true)(hf:P.funcs[f]? =some fn)(hN:fn.ntmps=N)
 (hb:fn.body=some c) (hn:(fn.name== "runtime.NumGoroutine")=false) (hr:fn.results.toList=rs) (hl:Nat.ble args.length N=true) (hok:mU T N c=true)
 (h:lX P N T c (Lx P rs post) ⟨jZ (args.map (V.up 1)) 0,[]::S⟩):bJ P f args S post:=by
 subst hN;subst hr;exact oW hf hb hn (Nat.le_of_ble_eq_true hl) (zQ vV (mI fA c _ _ hok h))
end
attribute [go_sem ↓] aeR ab9 Wh acd Y7 ace aeS acf acg Y4 V9 Wd SB
attribute [go_sem] ab7 Dn Y5 MF Y6 agu
def yN(x:Int):List D:=[.i .u8 x]
theorem P9(a:Int):0<=Bt .i64 a 255/\Bt .i64 a 255<=255:=by
 have h:(BitVec.ofInt IntKind.i64.bits a &&& BitVec.ofInt IntKind.i64.bits 255).toNat<=255:=by
  rw[BitVec.toNat_and];refine Nat.le_trans Nat.and_le_right ?_;decide
 unfold Bt;rw[IntWalk.i64_in _ (by omega)];omega
structure Bytes(bs:List Int):Prop where
 len:bs.length<=1048576
 rng:∀x∈bs,0<=x/\x<=255
structure Cu(bs:List Int) where
 i:Int
 h:Int
 lo:0<=i
 hi:i<=bs.length
def cur{bs:List Int}(c:Cu bs):List C:=[.d (.sl (bs.map yN)),.d (.i .i64 c.i),.d (.i .i64 c.h)]
def hN(h:Int):Int:=IntKind.i64.wrap (IntKind.i64.wrap (h*6364136223846793005)+1442695040888963407)
def Gq(h:Int):Int:=Bt .i64 (Oy .i64 (Ic .i64 (hN h) 33) (Ic .i64 (hN h) 45)) 255
def fI{bs:List Int}(c:Cu bs):Int×Cu bs:=
 if h:c.i<bs.length then(Bt .i64 (Gq c.h+bs.getD c.i.toNat 0) 255,⟨c.i+1,hN c.h,by have:=c.lo;omega,by omega⟩) else(Gq c.h,⟨c.i,hN c.h,c.lo,c.hi⟩)
theorem nK{bs:List Int}(c:Cu bs):0<=(fI c).1/\(fI c).1<=255:=by
 unfold fI;split
 ·exact P9 _
 ·exact P9 _
def bn{bs:List Int}(n:Int)(c:Cu bs):Int×Cu bs:=((fI c).1.tmod n,(fI c).2)
theorem iA{bs:List Int}{n:Int}(c:Cu bs)(h:1<=n):0<=(bn n c).1/\(bn n c).1<n:=
 ⟨Int.tmod_nonneg _ (nK c).1,Int.tmod_lt_of_pos _ (by omega)⟩
def dI{bs:List Int}(n:Int)(c:Cu bs):Bool×Cu bs:=(decide ((bn n c).1=0),(bn n c).2)
def cO{bs:List Int}(xs:List (List UInt8))(c:Cu bs):List UInt8×Cu bs:=(xs.getD (bn xs.length c).1.toNat [],(bn xs.length c).2)
theorem Y8{bs:List Int}{xs:List (List UInt8)}(c:Cu bs)(h:1<=xs.length):(cO xs c).1∈xs:=by
 have:=iA (n:=xs.length) c (by omega);unfold cO
 have hi:(bn (xs.length:Int) c).1.toNat<xs.length:=by omega
 simp only[List.getD,List.getElem?_eq_getElem hi,Option.getD_some];exact List.getElem_mem hi
theorem yt{bs:List Int}(hB:Bytes bs)(c:Cu bs)(l j:Nat)(S:Store)(hk:aW S (l,j)=some (.box (cur c))):
 bJ prog 161 [.c (.ptr (l,j) 0)] S (fun r S'=>r=.c (.d (.i .i64 (fI c).1))/\S'=aX S (l,j) (.box (cur (fI c).2))):=by
 have h0:0<=Gq c.h/\Gq c.h<=255:=P9 _;have hl:=hB.len;have g:∀x:Ab.Obj,aW (aX S (l,j) x) (l,j)=some x:=fun x=>bW _ _ _ _ hk;obtain⟨i,h,lo,hi⟩:=c;simp only at h0;by_cases hlt:i<bs.length
 ·have hb:=hB.rng (bs[i.toNat]'(by omega)) (List.getElem_mem _);have h1:decide (i<(bs.length:Int))=true:=decide_eq_true hlt
  have e:bs.getD i.toNat 0=bs[i.toNat]'(by omega):=by simp[List.getD,(show i.toNat<bs.length by omega)]
  rw[fI,dif_pos hlt];simp only[e]
  unfold Gq hN at *
  refine zcx [.tmp 2] func161 ntmps161 ?_;simp -implicitDefEqProofs (disch:=omega) only[go_sem,hk,cur,g,ak,h1,yN]
  (repeat(with_reducible refine And.intro ?_ ?_;focus first|omega|rfl|assumption|exact⟨_,rfl,rfl⟩|(simp;omega)|(simp;done)))
  all_goals first|exact⟨rfl,rfl⟩|rfl|omega
 ·have h1:decide (i<(bs.length:Int))=false:=decide_eq_false hlt;rw[fI,dif_neg hlt]
  unfold Gq hN at *
  refine zcx [.tmp 2] func161 ntmps161 ?_;simp -implicitDefEqProofs (disch:=omega) only[go_sem,hk,cur,g,ak,h1,yN]
  first|done|exact⟨rfl,rfl⟩|rfl
theorem dZ{bs:List Int}(hB:Bytes bs)(c:Cu bs)(l j:Nat)(S:Store)(n:Int)(hk:aW S (l,j)=some (.box (cur c)))(h1:1<=n)(h2:n<=256):
 bJ prog 92 [.c (.ptr (l,j) 0),.c (.d (.i .i64 n))] S (fun r S'=>r=.c (.d (.i .i64 (bn n c).1))/\S'=aX S (l,j) (.box (cur (bn n c).2))):=by
 have hx:=nK c;have d1:decide (n<=0)=false:=decide_eq_false (by omega);have d2:decide (n<=256)=true:=decide_eq_true h2;refine zcx [.tmp 4] func92 ntmps92 ?_;simp -implicitDefEqProofs (disch:=omega) only[go_sem,d1,d2];refine aT rfl (yt hB c (1+l) j ([]::S) (by rw[aV];exact hk)) ?_;simp -implicitDefEqProofs (disch:=omega) only[go_sem,ay]
 (repeat(with_reducible refine And.intro ?_ ?_;focus first|omega|rfl|assumption|exact⟨_,rfl,rfl⟩|(simp;omega)|(simp;done)))
 first|done|exact⟨rfl,rfl⟩|rfl
theorem oI{bs:List Int}(hB:Bytes bs)(c:Cu bs)(l j:Nat)(S:Store)(n:Int)(hk:aW S (l,j)=some (.box (cur c)))(h1:1<=n)(h2:n<=256):
 bJ prog 136 [.c (.ptr (l,j) 0),.c (.d (.i .i64 n))] S (fun r S'=>r=.c (.d (.b (dI n c).1))/\S'=aX S (l,j) (.box (cur (dI n c).2))):=by
 refine zcx [.tmp 4] func136 ntmps136 ?_;simp -implicitDefEqProofs (disch:=omega) only[go_sem];refine aT rfl (dZ hB c (1+l) j ([]::S) n (by rw[aV];exact hk) h1 h2) ?_;simp -implicitDefEqProofs (disch:=omega) only[go_sem,ay]
 first|done|exact⟨rfl,rfl⟩|rfl
theorem fU{bs:List Int}(hB:Bytes bs)(c:Cu bs)(l j:Nat)(S:Store)(xs:List (List UInt8))(hk:aW S (l,j)=some (.box (cur c)))(h1:1<=xs.length)(h2:xs.length<=256):
 bJ prog 88 [.c (.ptr (l,j) 0),.c (.d (.sl (xs.map encS)))] S (fun r S'=>r=.c (.d (.s (cO xs c).1))/\S'=aX S (l,j) (.box (cur (cO xs c).2))):=by
 have hx:=iA (n:=xs.length) c (by omega);refine zcx [.tmp 4] func88 ntmps88 ?_;simp -implicitDefEqProofs (disch:=omega) only[go_sem,encS];refine aT rfl (dZ hB c (1+l) j ([]::S) xs.length (by rw[aV];exact hk) (by omega) (by omega)) ?_
 have hi:(bn (xs.length:Int) c).1.toNat<xs.length:=by omega
 have e:(cO xs c).1=xs[(bn (xs.length:Int) c).1.toNat]:=by simp only[cO,List.getD,List.getElem?_eq_getElem hi,Option.getD_some]
 simp -implicitDefEqProofs (disch:=omega) only[go_sem,encS,ay]
 (repeat(with_reducible refine And.intro ?_ ?_;focus first|omega|rfl|assumption|exact⟨_,rfl,rfl⟩|(simp;omega)|(simp;done)))
 rw[e]
 first|done|exact⟨rfl,rfl⟩|rfl
def JO(S:Store)(os:List Obj):Store:=match S with
 |fr::Ω=>(fr++os)::Ω
 |[]=>[]
def yO(S:Store):Nat:=match S with
 |fr::_=>fr.length
 |[]=>0
def Aa(S:Store):Bool:=match S with
 |_::_=>true
 |[]=>false
theorem Dp{fr:List Obj}{Ω:Store}{os:List Obj}:JO (fr::Ω) os=(fr++os)::Ω:=rfl
theorem qw{fr:List Obj}{Ω:Store}:yO (fr::Ω)=fr.length:=rfl
theorem SC{fr:List Obj}{Ω:Store}:Aa (fr::Ω)=true:=rfl
theorem Wi{k:Key}{x:Obj}:∀{S:Store},Aa (aX S k x)=Aa S
 |[]=>rfl
 |fr::S=>by
  obtain⟨l,j⟩:=k;cases l<;>rfl
theorem aci{k:Key}{x:Obj}:∀{S:Store},yO (aX S k x)=yO S
 |[]=>rfl
 |fr::S=>by
  obtain⟨l,j⟩:=k;cases l
  ·show(fr.set j x).length=fr.length
   simp
  ·rfl
def oJ(P:Program)(f:FuncId)(args:List V)(S:Store)(raw:V->List Obj->Store->Prop):Prop:=
 Known P f/\∀w σ β vs,dL w σ S β->nZ w σ S β args vs->
  Calls P f vs.toArray w fun e w'=>∃v r own S1 bo β1 σ',e=.returned v/\dL w' σ' (own::S1) (bo::β1)/\Keep S β S1 β1/\Step S β σ w (own::S1) (bo::β1) σ' w'/\cB w' σ' (own::S1) (bo::β1) r v/\raw r own S1
def Qa(P:Program)(rs:List ResultVar)(raw:V->List Obj->Store->Prop)(e:Exit)(s:St):Prop:=
 match e with
 | .normal| .ret=>(nE P rs s).1/\match s.st with
   |own::S1=>raw (nE P rs s).2 own S1
   |[]=>False
 |_=>False
section
variable {P:Program} {N:Nat} {s:St} {S:Store}
theorem MG{f:FuncId}{fn:Func}{c:Code}{args:List V}{raw:V->List Obj->Store->Prop}(hf:P.funcs[f]? =some fn)(hb:fn.body=some c)(hn:(fn.name== "runtime.NumGoroutine")=false)
 (hl:args.length<=fn.ntmps)(h:AW P fn.ntmps c (Qa P fn.results.toList raw) ⟨jZ (args.map (V.up 1)) 0,[]::S⟩):oJ P f args S raw:=by
 refine⟨⟨fn,hf,hn,by simp[hb]⟩,fun w σ β vs hS hargs=> ?_⟩;refine calls_of_wp hf hb ?_;have hlen:vs.length=args.length:=hargs.1.symm
 have Pb:jg fn.ntmps ⟨jZ (args.map (V.up 1)) 0,[]::S⟩ {tmps:=vs.toArray++Array.replicate (fn.ntmps-vs.toArray.size) undef,defers:=[]} w σ ([]::β):=by
  refine⟨by simp;omega,rfl,hS.up1,fun t=> ?_⟩;show cB w σ ([]::S) ([]::β) (look (jZ (args.map (V.up 1)) 0) t) _;rw[za,if_pos (Nat.zero_le _),Nat.sub_zero,List.getElem?_map]
  cases ha:args[t]? with
  |none=>exact trivial
  |some x=>
   obtain⟨v,hv,hr⟩:=hargs.2 t x ha;have ht:=(List.getElem?_eq_some_iff.1 hv).1
   have:(vs.toArray++Array.replicate (fn.ntmps-vs.toArray.size) undef).getD t undef=v:=by
    rw[Array.getD_eq_getD_getElem?,Array.getElem?_append_left (by simpa using ht)];simp[hv]
   rw[this];exact Gb (S:=[]::S) (β:=[]::β) 1 hr
 refine wp_mono (h _ w σ ([]::β) Pb) ?_;rintro e a' w' ⟨s',σ',β',hR,hst,hkp,hq⟩
 have main:((nE P fn.results.toList s').1/\match s'.st with
  |own::S1=>raw (nE P fn.results.toList s').2 own S1
  |[]=>False)->
   a'.defers=[]/\∃v,(results fn a'.tmps).run P w'=.ok v w'/\∃v1 r own S1 bo β1 σ',Ending.returned v=Ending.returned v1/\dL w' σ' (own::S1) (bo::β1)/\Keep S β S1 β1/\Step S β σ w (own::S1) (bo::β1) σ' w'/\cB w' σ' (own::S1) (bo::β1) r v1/\raw r own S1:=by
  rintro⟨q1,q2⟩;obtain⟨v,hv,hrep⟩:=EB (fn:=fn) hR q1;obtain⟨tm,st⟩:=s';simp only at q2;split at q2
  ·rename_i own S1;obtain⟨bo,β1,rfl,hlo⟩:=frames hR;have hst':Step ([]::S) ([]::β) σ w (own::S1) (bo::β1) σ' w':=hst;exact⟨hR.defers,v,hv,v,_,own,S1,bo,β1,σ',rfl,hR.S,hkp,⟨hst'.size,hst'.os,hst'.output,fun b hb ho=>hst'.far b hb (fun x=>ho (zw x)),hst'.near,fun b hb=>(hst'.own b hb).imp zw id⟩,hrep,q2⟩
  ·exact q2.elim
 cases e with
 |normal=>exact main hq
 |ret=>exact main hq
 |_=>exact hq.elim
def Qb(P:Program)(rs:List ResultVar)(raw:V->List Obj->Store->Prop)(s:St)(r:R):Prop:=r.1/\match s.st with
 |own::S1=>raw r.2 own S1
 |[]=>False
@[congr] theorem aia {rs:List ResultVar} {raw:V->List Obj->Store->Prop} {s s':St} {r r':R} (h1:s=s') (h2:r=r'):Qb P rs raw s r=Qb P rs raw s' r':=by rw[h1,h2]
theorem acj{rs:List ResultVar}{raw:V->List Obj->Store->Prop}{tm:List (Nat×V)}{S:Store}:Qa P rs raw .ret ⟨tm,S⟩=Qb P rs raw ⟨tm,S⟩ (nE P rs ⟨tm,S⟩):=rfl
theorem SE{rs:List ResultVar}{raw:V->List Obj->Store->Prop}{tm:List (Nat×V)}{S:Store}:Qa P rs raw .normal ⟨tm,S⟩=Qb P rs raw ⟨tm,S⟩ (nE P rs ⟨tm,S⟩):=rfl
theorem aeT{rs:List ResultVar}{raw:V->List Obj->Store->Prop}{tm:List (Nat×V)}{own:List Obj}{S1:Store}{p:Prop}{v:V}:Qb P rs raw ⟨tm,own::S1⟩ (p,v)=(p/\raw v own S1):=rfl
theorem Ac{f:FuncId}{fn:Func}{c:Code}{args:List V}{raw:V->List Obj->Store->Prop}{rs:List ResultVar}(fA:P.follows .mixedOrders=true)(hf:P.funcs[f]? =some fn)(hN:fn.ntmps=N)
 (hb:fn.body=some c) (hn:(fn.name== "runtime.NumGoroutine")=false) (hr:fn.results.toList=rs) (hl:Nat.ble args.length N=true) (hok:codeOk N c=true)
 (h:CW P N c (Qa P rs raw) ⟨jZ (args.map (V.up 1)) 0,[]::S⟩):oJ P f args S raw:=by
 subst hN;subst hr;exact MG hf hb hn (Nat.le_of_ble_eq_true hl) (iY fA c _ _ hok h)
theorem aeU(T:List TypeId){f:FuncId}{fn:Func}{c:Code}{args:List V}{raw:V->List Obj->Store->Prop}{rs:List ResultVar}(fA:P.follows .mixedOrders=true)(hf:P.funcs[f]? =some fn)(hN:fn.ntmps=N)
 (hb:fn.body=some c) (hn:(fn.name== "runtime.NumGoroutine")=false) (hr:fn.results.toList=rs) (hl:Nat.ble args.length N=true) (hok:mU T N c=true)
 (h:lX P N T c (Qa P rs raw) ⟨jZ (args.map (V.up 1)) 0,[]::S⟩):oJ P f args S raw:=by
 subst hN;subst hr;exact MG hf hb hn (Nat.le_of_ble_eq_true hl) (mI fA c _ _ hok h)
theorem oJ.mono{f:FuncId}{args:List V}{raw raw':V->List Obj->Store->Prop}(h:oJ P f args S raw)(hi:∀r own S1,raw r own S1->raw' r own S1):oJ P f args S raw':=
 ⟨h.1,fun w σ β vs hS hv=>(h.2 w σ β vs hS hv).mono fun e w' ⟨v,r,own,S1,bo,β1,σ',q1,q2,q3,q4,q5,q6⟩=>⟨v,r,own,S1,bo,β1,σ',q1,q2,q3,q4,q5,hi _ _ _ q6⟩⟩
end
def ER(own:List Obj)(x:C)(z:Nat)(es:List (List D)):Prop:=(∃m,own[m]? =some (.tok z es)/\x=.bK (0,m) es)\/(x=.bE es/\∀e∈es,e.length=z)
section
variable {w:World} {σ:Nat->Nat} {own fr:List Obj} {Ω:Store} {bo bf:List Value} {bΩ:Hs}
theorem uY{S1:Store}{β1:Hs}{x:C}{z:Nat}{es:List (List D)}{v:Value}(h:ER own x z es)(hr:fT w σ (own::S1) (bo::β1) x v):cu w σ (.sl es) v:=by
 rcases h with⟨m,h1,rfl⟩|⟨rfl,_⟩
 ·exact hr.1
 ·exact hr.1
theorem Iq{S1:Store}{β1:Hs}{x:C}{z:Nat}{es:List (List D)}{v:Value}(hS:dL w σ (own::S1) (bo::β1))(h:ER own x z es)(hr:fT w σ (own::S1) (bo::β1) x v):
 (∀S' β',fM w σ S' β' (.tok z es) v)/\∀b,owns (.tok z es) v b->∃m,own[m]? =some (.tok z es)/\x=.bK (0,m) es/\bo[m]? =some v:=by
 rcases h with⟨m,h1,rfl⟩|⟨rfl,h2⟩
 ·obtain⟨hd,o,ho,hl⟩:=hr;rw[aZ,h1] at ho;cases ho;have hb:=(hl _ _ (.inl rfl)).2 rfl;obtain⟨hv,e1,e2⟩:=hS.obj (0,m) _ (by rw[aZ];exact h1);rw[hb] at e1;cases e1;rw[aZ] at hb;exact⟨fun _ _=>e2,fun b _=>⟨m,h1,rfl,hb⟩⟩
 ·obtain⟨hd,a,n,rfl⟩:=hr
  have hn:n=es.length:=by cases hd<;>rfl
  subst hn;refine⟨fun _ _=>⟨hd,h2,a,es.length,rfl,Nat.le_refl _,.inl rfl⟩,fun b hb=> ?_⟩
  cases a with
  |none=>cases hb
  |some a=>simp[owns,blk] at hb
end
def Ad(cs:List C):Bool:=cs.all fun c=>match c with
 | .d _=>true
 |_=>false
theorem JQ{w:World}{σ:Nat->Nat}{S S':Store}{β β':Hs}{c:C}{v:Value}(h:(match c with
 | .d _=>true
 |_=>false)=true) (hr:fT w σ S β c v):fT w σ S' β' c v:=by
 cases c<;>first|exact hr|(cases h;done)
theorem Hf{w:World}{σ:Nat->Nat}{S S':Store}{β β':Hs}{pre post:List C}{x x':C}{a:List Value}(h1:Ad pre=true)(h2:Ad post=true)(hr:eX w σ S β (pre++x::post) a)
 (hx:∀v,a[pre.length]? =some v->fT w σ S β x v->fT w σ S' β' x' v):eX w σ S' β' (pre++x'::post) a:=by
 refine⟨by simpa using hr.1,fun j y hy=> ?_⟩;rcases Nat.lt_trichotomy j pre.length with hj|hj|hj
 ·rw[List.getElem?_append_left hj] at hy;obtain⟨v,e1,e2,e3⟩:=hr.2 j y (by rw[List.getElem?_append_left hj];exact hy);exact⟨v,e1,JQ (List.all_eq_true.1 h1 y (List.mem_of_getElem? hy)) e2,e3⟩
 ·subst hj;rw[List.getElem?_append_right (Nat.le_refl _),Nat.sub_self,List.getElem?_cons_zero] at hy;cases hy;obtain⟨v,e1,e2,e3⟩:=hr.2 pre.length x (by rw[List.getElem?_append_right (Nat.le_refl _),Nat.sub_self];rfl);exact⟨v,e1,hx v e1 e2,e3⟩
 ·rw[List.getElem?_append_right (by omega),show j-pre.length=(j-pre.length-1)+1 by omega,List.getElem?_cons_succ] at hy;obtain⟨v,e1,e2,e3⟩:=hr.2 j y (by rw[List.getElem?_append_right (by omega),show j-pre.length=(j-pre.length-1)+1 by omega,List.getElem?_cons_succ];exact hy);exact⟨v,e1,JQ (List.all_eq_true.1 h2 y (List.mem_of_getElem? hy)) e2,e3⟩
section
variable {P:Program} {S S':Store} {f:FuncId} {args:List V}
theorem oJ.plain{pre post:List C}{z:Nat}{es:List (List D)}(h1:Ad pre=true)(h2:Ad post=true)(h:oJ P f args S fun r own S1=>S1=S'/\∃x,r=.agg (pre++x::post)/\ER own x z es):
 bJ P f args S fun r S1=>r=.agg (pre++ .d (.sl es)::post)/\S1=S':=by
 refine⟨h.1,fun w σ β vs hS hv=>(h.2 w σ β vs hS hv).mono fun e w' ⟨v,r,own,S1,bo,β1,σ',q1,q2,q3,q4,q5,q6,x,q7,q8⟩=> ?_⟩;subst q6 q7;obtain⟨a,rfl,hc⟩:=q5;exact⟨_,.agg (pre++ .d (.sl es)::post),S1,σ',β1,q1,q2.Gc,q3,⟨q4.size,q4.os,q4.output,q4.far,q4.near,fun b hb=>q4.own b (uS hb)⟩,⟨a,rfl,Hf h1 h2 hc fun v e1 e2=>uY q8 e2⟩,rfl,rfl⟩
theorem oJ.push{pre post:List C}{z:Nat}{es:List (List D)}(h1:Ad pre=true)(h2:Ad post=true)(ht:Aa S'=true)(h:oJ P f args S fun r own S1=>S1=S'/\∃x,r=.agg (pre++x::post)/\ER own x z es):
 bJ P f args S fun r S1=>r=.agg (pre++ .bK (0,yO S') es::post)/\S1=JO S' [.tok z es]:=by
 refine⟨h.1,fun w σ β vs hS hv=>(h.2 w σ β vs hS hv).mono fun e w' ⟨v,r,own,S1,bo,β1,σ',q1,q2,q3,q4,q5,q6,x,q7,q8⟩=> ?_⟩;subst q6 q7;obtain⟨a,rfl,hc⟩:=q5;obtain⟨u,e1,e2,e3⟩:=hc.2 pre.length x (by rw[List.getElem?_append_right (Nat.le_refl _),Nat.sub_self];rfl);obtain⟨k1,k2⟩:=Iq q2 q8 e2
 cases S1 with
 |nil=>cases ht
 |cons fr Ω=>
 have hd:=q2.Gc
 obtain⟨bf,bΩ,rfl,hlen⟩:∃bf bΩ,β1=bf::bΩ/\bf.length=fr.length:=by
  cases β1 with
  |nil=>have:=hd.shape.1;simp at this
  |cons bf bΩ=>
   refine⟨bf,bΩ,rfl,?_⟩;obtain⟨gr,q1,q2⟩:=hd.shape.2 0 fr rfl;simp at q1;rw[q1];exact q2
 obtain⟨l1,l2,l3⟩:=hd.lay (o:=.tok z es) (h:=u) hlen (k1 _ _) fun b hb ⟨k,o,hh,f1,f2,f3⟩=>by
  obtain⟨m,g1,g2,g3⟩:=k2 b hb;have:=q2.apart (0,m) (k.1+1,k.2) _ o u hh b (by rw[aZ];exact g1) (by rw[aZ];exact g3) hb (by rw[bM];exact f1) (by rw[bM];exact f2) f3;cases this
 refine⟨_,.agg (pre++ .bK (0,yO (fr::Ω)) es::post),_,σ',_,q1,l1,q3.trans l2,⟨q4.size,q4.os,q4.output,q4.far,q4.near,fun b hb=> ?_⟩,⟨a,rfl,Hf h1 h2 hc fun v f1 f2=> ?_⟩,rfl,rfl⟩
 ·rcases l3 b hb with q|q
  ·exact q4.own b (uS q)
  ·obtain⟨m,g1,g2,g3⟩:=k2 b q;exact q4.own b ⟨(0,m),_,u,by rw[aZ];exact g1,by rw[aZ];exact g3,q⟩
 ·rw[e1] at f1;cases f1;refine⟨uY q8 e2,_,by rw[qw];exact bG _ _ _,fun aQ es' e=> ?_⟩;obtain⟨_,rfl⟩:=jD (lab:=none) e;exact⟨Nat.le_refl _,fun _=>by rw[qw,<-hlen,bG]⟩
end
attribute [go_sem ↓] acj SE
attribute [go_sem] aeT Dp qw SC Wi aci
def tV(s:List UInt8):au:=.mk 1 s []
def rP(s:List UInt8)(l:List au):au:=.mk 2 s l
def AY(s:List UInt8)(t:au):au:=.mk 3 s [t]
def acn(s:List UInt8):au:=.mk 4 s []
def Dq:List (List UInt8):=[[105,110,116],[98,111,111,108],[117,110,105,116]]
def AZ:List (List UInt8):=[[108,105,115,116],[108,105,115,116],[98,111,120]]
def kr{bs:List Int}(vars:List (List UInt8)):Nat->Cu bs->au×Cu bs
 |0,c=>if(bn 8 c).1<3/\0<vars.length then(tV (cO vars (bn 8 c).2).1,(cO vars (bn 8 c).2).2)
  else(rP (cO Dq (bn 8 c).2).1 [],(cO Dq (bn 8 c).2).2)
 |n+1,c=>if(bn 8 c).1<3/\0<vars.length then(tV (cO vars (bn 8 c).2).1,(cO vars (bn 8 c).2).2)
  else if(bn 8 c).1<5 then(rP (cO Dq (bn 8 c).2).1 [],(cO Dq (bn 8 c).2).2)
  else if(bn 8 c).1=5 then(rP [112,97,105,114] [(kr vars n (bn 8 c).2).1,(kr vars n (kr vars n (bn 8 c).2).2).1],(kr vars n (kr vars n (bn 8 c).2).2).2)
  else(rP (cO AZ (bn 8 c).2).1 [(kr vars n (cO AZ (bn 8 c).2).2).1],(kr vars n (cO AZ (bn 8 c).2).2).2)
def fD(l:List (List UInt8)):Prop:=∀s∈l,s.length<=8
theorem jK{bs:List Int}{xs:List (List UInt8)}(c:Cu bs)(h:fD xs):(cO xs c).1.length<=8:=by
 by_cases h1:1<=xs.length
 ·exact h _ (Y8 c h1)
 ·have:xs=[]:=List.eq_nil_of_length_eq_zero (by omega);subst this;simp[cO]
theorem JR:fD Dq:=by unfold fD;decide
theorem short_list:fD AZ:=by unfold fD;decide
theorem Ae(s:List UInt8):(tV s).sz=s.length:=by simp[tV,au.sz,au.aB,bL,D.sz,bB,au.fName,au.fArgs]
theorem LK(s:List UInt8):(rP s []).sz=s.length:=by simp[rP,au.sz,au.aB,bL,D.sz,bB,au.fName,au.fArgs]
theorem LM(s:List UInt8)(t:au):(rP s [t]).sz=s.length+1+t.sz:=by
 have:=au.dz t;simp only[rP,au.sz,au.aB,bL,D.sz,bB,au.fName,au.fArgs,List.map_cons,List.map_nil,List.length_cons,List.length_nil] at this ⊢;omega
theorem TV(s:List UInt8)(t u:au):(rP s [t,u]).sz=s.length+2+t.sz+u.sz:=by
 have h1:=au.dz t;have h2:=au.dz u;simp only[rP,au.sz,au.aB,bL,D.sz,bB,au.fName,au.fArgs,List.map_cons,List.map_nil,List.length_cons,List.length_nil] at h1 h2 ⊢;omega
theorem ES{bs:List Int}{vars:List (List UInt8)}(hv:fD vars):∀(n:Nat)(c:Cu bs),(kr vars n c).1.sz+10<=18*2^n
 |0,c=>by
  rw[kr];split
  ·have:=jK (bn 8 c).2 hv;simp only[Ae];omega
  ·have:=jK (bn 8 c).2 JR;simp only[LK];omega
 |n+1,c=>by
  have ih:=ES hv n (bs:=bs)
  have hp:2^ (n+1)=2^n+2^n:=by rw[Nat.pow_succ];omega
  have h2:=Nat.one_le_two_pow (n:=n);rw[kr];split
  ·have:=jK (bn 8 c).2 hv;simp only[Ae];omega
  split
  ·have:=jK (bn 8 c).2 JR;simp only[LK];omega
  split
  ·have h3:=ih (bn 8 c).2;have h4:=ih (kr vars n (bn 8 c).2).2;simp only[TV,List.length_cons,List.length_nil];omega
  ·have h3:=ih (cO AZ (bn 8 c).2).2;have:=jK (bn 8 c).2 short_list;simp only[LM];omega
def tyP(t:au):List C:=[.d (.i .i64 t.aI),.d (.s t.fName)]
theorem MH(t:au):Ad (tyP t)=true:=rfl
def JU(t:au)(S':Store)(r:V)(own:List Obj)(S1:Store):Prop:=S1=S'/\∃x,r=.agg (tyP t++x::[])/\ER own x 3 (t.fArgs.map au.enc)
theorem Qc(l:List au):∀y∈l.map au.enc,y.length=3:=by
 intro y hy;obtain⟨x,_,rfl⟩:=List.mem_map.1 hy;rw[au.aB];rfl
theorem kZ(s:List UInt8):aJ prog 89 [.c (.d (.s s))] (.agg [.d (.i .i64 1),.d (.s s),.bE []]):=fun S=>by
 refine zcx [.cell 2 29] func89 ntmps89 ?_;simp -implicitDefEqProofs (disch:=omega) only[go_sem]
 first|done|exact⟨rfl,rfl⟩|rfl
theorem MI(s:List UInt8)(l:List au){es:List (List D)}(he:es=l.map au.enc)(hl:l.length<=1048576){a:C}(ha:a=.d (.sl es)\/a=.bE es)(S:Store):oJ prog 140 [.c (.d (.s s)),.c a] S (JU (rP s l) S):=by
 subst he;refine Ac (rs:=[.cell 4 29]) zmx func140 ntmps140 rfl rfl rfl rfl rfl ?_;have hln:=Qc l;rcases ha with rfl|rfl
 all_goals
  simp -implicitDefEqProofs (disch:=omega) only[go_sem];refine⟨hln,⟨_,rfl,rfl⟩,fun y hy=>absurd hy List.not_mem_nil,by omega,rfl,_,rfl,.inl ⟨1,rfl,rfl⟩⟩
theorem rC{f:FuncId}{args:List V}{S S':Store}{t:au}(h:oJ prog f args S (JU t S')):bJ prog f args S (fun r S1=>r=.agg [.d (.i .i64 t.aI),.d (.s t.fName),.d (.sl (t.fArgs.map au.enc))]/\S1=S'):=
 oJ.plain (MH t) rfl h
theorem JV{f:FuncId}{args:List V}{S S':Store}{t:au}(ht:Aa S'=true)(h:oJ prog f args S (JU t S')):
 bJ prog f args S (fun r S1=>r=.agg [.d (.i .i64 t.aI),.d (.s t.fName),.bK (0,yO S') (t.fArgs.map au.enc)]/\S1=JO S' [.tok 3 (t.fArgs.map au.enc)]):=
 oJ.push (MH t) rfl ht h
theorem vW(s:List UInt8)(l:List au){es:List (List D)}(he:es=l.map au.enc)(hl:l.length<=1048576){a:C}(ha:a=.d (.sl es)\/a=.bE es){own:List Ab.Obj}{Ω:Store}:
 bJ prog 140 [.c (.d (.s s)),.c a] (own::Ω) (fun r S1=>r=.agg [.d (.i .i64 2),.d (.s s),.bK (0,own.length) es]/\S1=(own++[.tok 3 es])::Ω):=by
 have:=JV (S':=own::Ω) rfl (MI s l he hl ha (own::Ω));rw[he];exact this
theorem Af(s:List UInt8)(l:List au){es:List (List D)}(he:es=l.map au.enc)(hl:l.length<=1048576){a:C}(ha:a=.d (.sl es)\/a=.bE es):aJ prog 140 [.c (.d (.s s)),.c a] (.agg [.d (.i .i64 2),.d (.s s),.d (.sl es)]):=fun S=>by
 have:=rC (MI s l he hl ha S);rw[he];exact this
theorem Qd{bs:List Int}{xs:List (List UInt8)}(c:Cu bs)(hi:(bn (xs.length:Int) c).1.toNat<xs.length):xs[(bn (xs.length:Int) c).1.toNat]=(cO xs c).1:=by
 simp only[cO,List.getD,List.getElem?_eq_getElem hi,Option.getD_some]
theorem Dr{bs:List Int}(hB:Bytes bs){vars:List (List UInt8)}(hv:vars.length<=256):∀(n:Nat)(c:Cu bs)(l j:Nat)(S:Store),aW S (l,j)=some (.box (cur c))->n<=1048576->
 oJ prog 155 [.c (.ptr (l,j) 0),.c (.d (.sl (vars.map encS))),.c (.d (.i .i64 n))] S (JU (kr vars n c).1 (aX S (l,j) (.box (cur (kr vars n c).2)))):=by
 intro n
 induction n with
 |zero=>
  intro c l j S hk hn;have g:∀x:Ab.Obj,aW (aX S (l,j) x) (l,j)=some x:=fun x=>bW _ _ _ _ hk;obtain⟨k,hkd⟩:∃k,k=(bn 8 c).1:=⟨_,rfl⟩;obtain⟨c1,hc1⟩:∃c1,c1=(bn 8 c).2:=⟨_,rfl⟩;rw[kr,<-hkd,<-hc1];refine Ac (rs:=[.cell 6 29]) zmx func155 ntmps155 rfl rfl rfl rfl rfl ?_;simp -implicitDefEqProofs (disch:=omega) only[go_sem];refine aT rfl (dZ hB c (1+l) j _ 8 (by rw[aV];exact hk) (by omega) (by omega)) ?_;rw[<-hkd,<-hc1];have d0:decide (((0:Nat):Int)<=0)=true:=rfl;simp -implicitDefEqProofs (disch:=omega) only[go_sem,ay]
  with_reducible refine aD (fun hb=> ?_) (fun hb=> ?_)<;>have h:=hb<;>(try simp only[wf_preprocess] at h)<;>simp -implicitDefEqProofs (disch:=omega) only[go_sem,hb,d0,ay]<;>(repeat(with_reducible refine And.intro ?_ ?_;focus first|omega|rfl|assumption|exact⟨_,rfl,rfl⟩|(simp;omega)|(simp;done)))
  rotate_left
  rw[if_neg (by omega)]
  rotate_left
  with_reducible refine aD (fun hb=> ?_) (fun hb=> ?_)<;>have h:=hb<;>(try simp only[wf_preprocess] at h)<;>simp -implicitDefEqProofs (disch:=omega) only[go_sem,hb,d0,ay]<;>(repeat(with_reducible refine And.intro ?_ ?_;focus first|omega|rfl|assumption|exact⟨_,rfl,rfl⟩|(simp;omega)|(simp;done)))
  ·have hx:=iA (n:=vars.length) c1 (by omega)
   have hi:(bn (vars.length:Int) c1).1.toNat<vars.length:=by omega
   rw[if_pos ⟨by omega,by omega⟩];refine aT rfl (dZ hB c1 (1+l) j _ vars.length (by rw[aV];exact g _) (by omega) (by omega)) ?_;simp -implicitDefEqProofs (disch:=omega) only[go_sem,ay,ak,encS]
   (repeat(with_reducible refine And.intro ?_ ?_;focus first|omega|rfl|assumption|exact⟨_,rfl,rfl⟩|(simp;omega)|(simp;done)))
   rw[Qd c1 hi];refine aA (kZ (cO vars c1).1) ?_;simp -implicitDefEqProofs (disch:=omega) only[go_sem]<;>(repeat(with_reducible refine And.intro ?_ ?_;focus first|omega|rfl|assumption|exact⟨_,rfl,rfl⟩|(simp;omega)|(simp;done)));exact⟨rfl,_,rfl,.inr ⟨rfl,fun e he=>by cases he⟩⟩
  rw[if_neg (by omega)]
  all_goals with_reducible refine aD (fun hb=> ?_) (fun hb=> ?_)<;>have h:=hb<;>(try simp only[wf_preprocess] at h)<;>simp -implicitDefEqProofs (disch:=omega) only[go_sem,hb,d0,ay]<;>(repeat(with_reducible refine And.intro ?_ ?_;focus first|omega|rfl|assumption|exact⟨_,rfl,rfl⟩|(simp;omega)|(simp;done)))
  all_goals
   refine cZ [true] rfl (fU hB c1 (1+l) j _ Dq (by rw[aV];exact g _) (by decide) (by decide)) ?_;simp -implicitDefEqProofs (disch:=omega) only[go_sem,ay,ak];refine aT rfl (vW _ [] rfl (Nat.zero_le _) (.inr rfl)) ?_;simp -implicitDefEqProofs (disch:=omega) only[go_sem,ay,ak];exact⟨rfl,_,rfl,.inl ⟨1,rfl,rfl⟩⟩
 |succ n ih=>
  intro c l j S hk hn;have g:∀x:Ab.Obj,aW (aX S (l,j) x) (l,j)=some x:=fun x=>bW _ _ _ _ hk;obtain⟨k,hkd⟩:∃k,k=(bn 8 c).1:=⟨_,rfl⟩;obtain⟨c1,hc1⟩:∃c1,c1=(bn 8 c).2:=⟨_,rfl⟩;have ih1:=fun c l j S hk=>rC (ih c l j S hk (by omega));rw[kr,<-hkd,<-hc1];refine Ac (rs:=[.cell 6 29]) zmx func155 ntmps155 rfl rfl rfl rfl rfl ?_;simp -implicitDefEqProofs (disch:=omega) only[go_sem];refine aT rfl (dZ hB c (1+l) j _ 8 (by rw[aV];exact hk) (by omega) (by omega)) ?_;rw[<-hkd,<-hc1];have d0:decide (((n+1:Nat):Int)<=0)=false:=decide_eq_false (by omega)
  have d1:((n+1:Nat):Int)-1=(n:Int):=by omega
  simp -implicitDefEqProofs (disch:=omega) only[go_sem,ay]
  with_reducible refine aD (fun hb=> ?_) (fun hb=> ?_)<;>have h:=hb<;>(try simp only[wf_preprocess] at h)<;>simp -implicitDefEqProofs (disch:=omega) only[go_sem,hb,d0,ay]<;>(repeat(with_reducible refine And.intro ?_ ?_;focus first|omega|rfl|assumption|exact⟨_,rfl,rfl⟩|(simp;omega)|(simp;done)))
  rotate_left
  rw[if_neg (by omega)]
  rotate_left
  with_reducible refine aD (fun hb=> ?_) (fun hb=> ?_)<;>have h:=hb<;>(try simp only[wf_preprocess] at h)<;>simp -implicitDefEqProofs (disch:=omega) only[go_sem,hb,d0,ay]<;>(repeat(with_reducible refine And.intro ?_ ?_;focus first|omega|rfl|assumption|exact⟨_,rfl,rfl⟩|(simp;omega)|(simp;done)))
  ·have hx:=iA (n:=vars.length) c1 (by omega)
   have hi:(bn (vars.length:Int) c1).1.toNat<vars.length:=by omega
   rw[if_pos ⟨by omega,by omega⟩];refine aT rfl (dZ hB c1 (1+l) j _ vars.length (by rw[aV];exact g _) (by omega) (by omega)) ?_;simp -implicitDefEqProofs (disch:=omega) only[go_sem,ay,ak,encS]
   (repeat(with_reducible refine And.intro ?_ ?_;focus first|omega|rfl|assumption|exact⟨_,rfl,rfl⟩|(simp;omega)|(simp;done)))
   rw[Qd c1 hi];refine aA (kZ (cO vars c1).1) ?_;simp -implicitDefEqProofs (disch:=omega) only[go_sem]<;>(repeat(with_reducible refine And.intro ?_ ?_;focus first|omega|rfl|assumption|exact⟨_,rfl,rfl⟩|(simp;omega)|(simp;done)));exact⟨rfl,_,rfl,.inr ⟨rfl,fun e he=>by cases he⟩⟩
  rw[if_neg (by omega)]
  all_goals
   with_reducible refine aD (fun hb=> ?_) (fun hb=> ?_)<;>have h:=hb<;>(try simp only[wf_preprocess] at h)<;>simp -implicitDefEqProofs (disch:=omega) only[go_sem,hb,d0,ay]<;>(repeat(with_reducible refine And.intro ?_ ?_;focus first|omega|rfl|assumption|exact⟨_,rfl,rfl⟩|(simp;omega)|(simp;done)))
   ·rw[if_pos (by omega)];refine cZ [true] rfl (fU hB c1 (1+l) j _ Dq (by rw[aV];exact g _) (by decide) (by decide)) ?_;simp -implicitDefEqProofs (disch:=omega) only[go_sem,ay,ak];refine aT rfl (vW _ [] rfl (Nat.zero_le _) (.inr rfl)) ?_;simp -implicitDefEqProofs (disch:=omega) only[go_sem,ay,ak];exact⟨rfl,_,rfl,.inl ⟨1,rfl,rfl⟩⟩
   rw[if_neg (by omega)]
   with_reducible refine aD (fun hb=> ?_) (fun hb=> ?_)<;>have h:=hb<;>(try simp only[wf_preprocess] at h)<;>simp -implicitDefEqProofs (disch:=omega) only[go_sem,hb,d1,ay]<;>(repeat(with_reducible refine And.intro ?_ ?_;focus first|omega|rfl|assumption|exact⟨_,rfl,rfl⟩|(simp;omega)|(simp;done)))
   ·rw[if_pos (by omega)];refine aT rfl (ih1 c1 (1+l) j _ (by rw[aV];exact g _)) ?_;simp -implicitDefEqProofs (disch:=omega) only[go_sem,d1,ay,ak];refine aT rfl (ih1 (kr vars n c1).2 (1+l) j _ (by rw[aV];exact g _)) ?_;simp -implicitDefEqProofs (disch:=omega) only[go_sem,ay,ak]
    (repeat(with_reducible refine And.intro ?_ ?_;focus first|omega|rfl|assumption|exact⟨_,rfl,rfl⟩|(simp;omega)|(simp;done)))
    refine aT rfl (vW _ [(kr vars n c1).1,(kr vars n (kr vars n c1).2).1] (by simp only[List.map_cons,List.map_nil,au.aB]) (by simp) (.inr rfl)) ?_;simp -implicitDefEqProofs (disch:=omega) only[go_sem,ay,ak];refine⟨rfl,_,rfl,.inl ⟨1,?_,?_⟩⟩<;>simp only[rP,au.fArgs,List.map_cons,List.map_nil,au.aB]<;>rfl
   ·rw[if_neg (by omega)];refine cZ [true] rfl (fU hB c1 (1+l) j _ AZ (by rw[aV];exact g _) (by decide) (by decide)) ?_;simp -implicitDefEqProofs (disch:=omega) only[go_sem,d1,ay,ak];refine aT rfl (ih1 (cO AZ c1).2 (1+l) j _ (by rw[aV];exact g _)) ?_;simp -implicitDefEqProofs (disch:=omega) only[go_sem,ay,ak]
    (repeat(with_reducible refine And.intro ?_ ?_;focus first|omega|rfl|assumption|exact⟨_,rfl,rfl⟩|(simp;omega)|(simp;done)))
    refine aT rfl (vW _ [(kr vars n (cO AZ c1).2).1] (by simp only[List.map_cons,List.map_nil,au.aB]) (by simp) (.inr rfl)) ?_;simp -implicitDefEqProofs (disch:=omega) only[go_sem,ay,ak];refine⟨rfl,_,rfl,.inl ⟨1,?_,?_⟩⟩<;>simp only[rP,au.fArgs,List.map_cons,List.map_nil,au.aB]<;>rfl
def JW:List (List UInt8):=[[97],[98]]
def ET:List (List UInt8):=[[97,100,100],[115,104,111,119]]
theorem Qe:fD JW:=by unfold fD;decide
theorem SF:fD ET:=by unfold fD;decide
def Wl{bs:List Int}(t:au)(c:Cu bs):au×Cu bs:=
 if(bn 8 c).1=0 then(AY (cO ET (bn 8 c).2).1 t,(cO ET (bn 8 c).2).2) else
 if(bn 8 c).1=1 then(rP [108,105,115,116] [AY [97,100,100] t],(bn 8 c).2) else
 if(bn 8 c).1=2 then(acn [115,104,111,119],(bn 8 c).2) else(t,(bn 8 c).2)
def vX{bs:List Int}(n:Nat)(c:Cu bs):au×Cu bs:=Wl (kr JW n c).1 (kr JW n c).2
def Qf:au:=rP [105,110,116] []
theorem TW(s:List UInt8)(t:au):(AY s t).sz=s.length+1+t.sz:=by
 have:=au.dz t;simp only[AY,au.sz,au.aB,bL,D.sz,bB,au.fName,au.fArgs,List.map_cons,List.map_nil,List.length_cons,List.length_nil] at this ⊢;omega
theorem agv(s:List UInt8):(acn s).sz=s.length:=by simp[acn,au.sz,au.aB,bL,D.sz,bB,au.fName,au.fArgs]
theorem Qg{bs:List Int}(n:Nat)(c:Cu bs):(vX n c).1.sz<=18*2^n+10:=by
 have h:=ES Qe n c;unfold vX Wl;split
 ·have:=jK (bn 8 (kr JW n c).2).2 SF;simp only[TW];omega
 split
 ·simp only[LM,TW,List.length_cons,List.length_nil];omega
 split
 ·simp only[agv,List.length_cons,List.length_nil];omega
 ·show(kr JW n c).1.sz<=_;omega
theorem MJ(s:List UInt8)(t:au)(h:t.sz<=4194304):aJ prog 162 [.c (.d (.s s)),t.v] (.agg [.d (.i .i64 3),.d (.s s),.bE ([t].map au.enc)]):=fun S=>by
 refine zcx [.cell 4 29] func162 ntmps162 ?_;simp -implicitDefEqProofs (disch:=omega) only[go_sem];refine aA (Y1 t h) ?_;simp -implicitDefEqProofs (disch:=omega) only[go_sem]<;>(repeat(with_reducible refine And.intro ?_ ?_;focus first|omega|rfl|assumption|exact⟨_,rfl,rfl⟩|(simp;omega)|(simp;done)))
theorem oZ:aJ prog 90 [] Qf.v:=fun S=>by
 refine zcx [.cell 0 29] func90 ntmps90 ?_;simp -implicitDefEqProofs (disch:=omega) only[go_sem];refine aA (Af [105,110,116] [] rfl (Nat.zero_le _) (.inl rfl)) ?_;simp -implicitDefEqProofs (disch:=omega) only[go_sem]
 first|done|exact⟨rfl,rfl⟩|rfl
theorem Wm{bs:List Int}(hB:Bytes bs)(n:Nat)(c:Cu bs)(l j:Nat)(S:Store)(hk:aW S (l,j)=some (.box (cur c)))(hn:n<=16):
 oJ prog 93 [.c (.ptr (l,j) 0),.c (.d (.i .i64 n))] S (JU (vX n c).1 (aX S (l,j) (.box (cur (vX n c).2)))):=by
 have g:∀x:Ab.Obj,aW (aX S (l,j) x) (l,j)=some x:=fun x=>bW _ _ _ _ hk;unfold vX;obtain⟨t,ht⟩:∃t,t=(kr JW n c).1:=⟨_,rfl⟩;obtain⟨c1,hc1⟩:∃c1,c1=(kr JW n c).2:=⟨_,rfl⟩
 have hsz:t.sz<=4194304:=by
  have:=ES Qe n c;have h2:2^n<=2^16:=Nat.pow_le_pow_right (by omega) hn;rw[ht];omega
 rw[<-ht,<-hc1];unfold Wl;obtain⟨k,hkd⟩:∃k,k=(bn 8 c1).1:=⟨_,rfl⟩;obtain⟨c2,hc2⟩:∃c2,c2=(bn 8 c1).2:=⟨_,rfl⟩;rw[<-hkd,<-hc2];refine aeU [63] (rs:=[.cell 4 29]) zmx func93 ntmps93 rfl rfl rfl rfl rfl ?_;simp -implicitDefEqProofs (disch:=omega) only[go_sem]
 have h1:=JV (S':=[.box [.d (.i .i64 0),.d (.s []),.bE []]]::aX S (l,j) (.box (cur (kr JW n c).2))) rfl (by
  have:=Dr hB (vars:=JW) (by decide) n c (1+l) j ([.box [.d (.i .i64 0),.d (.s []),.bE []]]::S) (by rw[aV];exact hk) (by omega);rw[ay] at this
  exact this)
 rw[<-ht,<-hc1] at h1;refine cZ [true] rfl h1 ?_;simp -implicitDefEqProofs (disch:=omega) only[go_sem,ay];refine aT rfl (dZ hB c1 (1+l) j _ 8 (by rw[aV];exact g _) (by omega) (by omega)) ?_;rw[<-hkd,<-hc2];simp -implicitDefEqProofs (disch:=omega) only[go_sem,ay,ak]
 with_reducible refine aD (fun hb=> ?_) (fun hb=> ?_)<;>have h:=hb<;>(try simp only[wf_preprocess] at h)<;>simp -implicitDefEqProofs (disch:=omega) only[go_sem,hb,ay,ak]<;>(repeat(with_reducible refine And.intro ?_ ?_;focus first|omega|rfl|assumption|exact⟨_,rfl,rfl⟩|(simp;omega)|(simp;done)))
 ·rw[if_pos h];refine cZ [true] rfl (fU hB c2 (1+l) j _ ET (by rw[aV];exact g _) (by decide) (by decide)) ?_;simp -implicitDefEqProofs (disch:=omega) only[go_sem,ay,ak];refine aA (MJ (cO ET c2).1 t hsz) ?_;simp -implicitDefEqProofs (disch:=omega) only[go_sem,ay,ak];refine⟨by cases l<;>rfl,?_⟩;simp -implicitDefEqProofs (disch:=omega) only[go_sem,ay,ak];exact⟨rfl,_,rfl,.inr ⟨by simp[AY,au.fArgs,au.aB],Qc [t]⟩⟩
 rw[if_neg h]
 with_reducible refine aD (fun hb=> ?_) (fun hb=> ?_)<;>have h:=hb<;>(try simp only[wf_preprocess] at h)<;>simp -implicitDefEqProofs (disch:=omega) only[go_sem,hb,ay,ak]<;>(repeat(with_reducible refine And.intro ?_ ?_;focus first|omega|rfl|assumption|exact⟨_,rfl,rfl⟩|(simp;omega)|(simp;done)))
 ·rw[if_pos h];refine aA (MJ [97,100,100] t hsz) ?_;simp -implicitDefEqProofs (disch:=omega) only[go_sem,ay,ak]
  (repeat(with_reducible refine And.intro ?_ ?_;focus first|omega|rfl|assumption|exact⟨_,rfl,rfl⟩|(simp;omega)|(simp;done)))
  refine aT rfl (vW _ [AY [97,100,100] t] (by simp[AY,au.aB,au.aI,au.fName,au.fArgs]) (by simp) (.inr rfl)) ?_;simp -implicitDefEqProofs (disch:=omega) only[go_sem,ay,ak];refine⟨rfl,_,rfl,.inl ⟨3,?_,?_⟩⟩<;>simp[rP,AY,au.aB,au.aI,au.fName,au.fArgs]
 rw[if_neg h]
 with_reducible refine aD (fun hb=> ?_) (fun hb=> ?_)<;>have h:=hb<;>(try simp only[wf_preprocess] at h)<;>simp -implicitDefEqProofs (disch:=omega) only[go_sem,hb,ay,ak]<;>(repeat(with_reducible refine And.intro ?_ ?_;focus first|omega|rfl|assumption|exact⟨_,rfl,rfl⟩|(simp;omega)|(simp;done)))
 ·rw[if_pos h];exact⟨rfl,_,rfl,.inr ⟨rfl,fun e he=>by cases he⟩⟩
 rw[if_neg h];exact⟨rfl,_,rfl,.inl ⟨1,rfl,rfl⟩⟩
theorem iX{bs:List Int}(hB:Bytes bs)(n:Nat)(c:Cu bs)(l j:Nat)(S:Store)(hk:aW S (l,j)=some (.box (cur c)))(hn:n<=16):
 bJ prog 93 [.c (.ptr (l,j) 0),.c (.d (.i .i64 n))] S (fun r S1=>r=(vX n c).1.v/\S1=aX S (l,j) (.box (cur (vX n c).2))):=
 rC (Wm hB n c l j S hk hn)
section
variable {w:World} {σ:Nat->Nat}
def Oj:C->Option D
 | .d d=>some d
 | .bE es=>some (.sl es)
 | .bK _ es=>some (.sl es)
 |_=>none
theorem Y9{S S':Store}{β β':Hs}{c:C}{d:D}{v:Value}(h:Oj c=some d)(hr:fT w σ S β c v):fT w σ S' β' (.d d) v:=by
 cases c<;>simp only[Oj,Option.some.injEq] at h<;>first|(cases h;done)|(subst h;first|exact hr|exact hr.1)
theorem EU{S S':Store}{β β':Hs}{pre:List C}{ds:List D}{x x' y y':C}{a:List Value}(h1:pre.map Oj=ds.map some)(hr:eX w σ S β (pre++[x,y]) a)
 (hx:∀v,a[pre.length]? =some v->fT w σ S β x v->fT w σ S' β' x' v)(hy:∀v,a[pre.length+1]? =some v->fT w σ S β y v->fT w σ S' β' y' v):eX w σ S' β' (ds.map .d++[x',y']) a:=by
 have hl:pre.length=ds.length:=by have:=congrArg List.length h1;simpa using this
 refine⟨by have:=hr.1;simp only[List.length_append,List.length_map,List.length_cons,List.length_nil,hl] at this ⊢;exact this,fun j c hc=> ?_⟩;rcases Nat.lt_or_ge j pre.length with hj|hj
 ·rw[List.getElem?_append_left (by simp;omega),List.getElem?_map] at hc;obtain⟨d,hd,rfl⟩:=Option.map_eq_some_iff.1 hc;have hp:=congrArg (fun l=>l[j]?) h1;simp only[List.getElem?_map,hd,Option.map_some,List.getElem?_eq_getElem hj] at hp;obtain⟨v,e1,e2,e3⟩:=hr.2 j pre[j] (by rw[List.getElem?_append_left hj,List.getElem?_eq_getElem hj]);exact⟨v,e1,Y9 (Option.some.inj hp) e2,e3⟩
 obtain⟨k,rfl⟩:∃k,j=pre.length+k:=⟨j-pre.length,by omega⟩;rw[List.getElem?_append_right (by simp;omega),List.length_map,<-hl,Nat.add_sub_cancel_left] at hc
 match k,hc with
 |0,hc=>
  cases hc;obtain⟨v,e1,e2,e3⟩:=hr.2 pre.length x (by rw[List.getElem?_append_right (Nat.le_refl _),Nat.sub_self];rfl);exact⟨v,e1,hx v e1 e2,e3⟩
 |1,hc=>
  cases hc;obtain⟨v,e1,e2,e3⟩:=hr.2 (pre.length+1) y (by rw[List.getElem?_append_right (by omega),Nat.add_sub_cancel_left];rfl);exact⟨v,e1,hy v e1 e2,e3⟩
 |k+2,hc=>simp at hc
end
section
variable {P:Program} {S S':Store} {f:FuncId} {args:List V}
def Two(ds:List D)(z z':Nat)(es es':List (List D))(S':Store)(r:V)(own:List Obj)(S1:Store):Prop:=S1=S'/\∃pre x y,r=.agg (pre++[x,y])/\pre.map Oj=ds.map some/\ER own x z es/\ER own y z' es'
theorem oJ.agw{ds:List D}{z z':Nat}{es es':List (List D)}(h:oJ P f args S (Two ds z z' es es' S')):
 bJ P f args S fun r S1=>r=.agg (ds.map .d++[.d (.sl es),.d (.sl es')])/\S1=S':=by
 refine⟨h.1,fun w σ β vs hS hv=>(h.2 w σ β vs hS hv).mono fun e w' ⟨v,r,own,S1,bo,β1,σ',q1,q2,q3,q4,q5,q6,pre,x,y,q7,h1,q8,q9⟩=> ?_⟩;subst q6 q7;obtain⟨a,rfl,hc⟩:=q5;exact⟨_,.agg (ds.map .d++[.d (.sl es),.d (.sl es')]),S1,σ',β1,q1,q2.Gc,q3,⟨q4.size,q4.os,q4.output,q4.far,q4.near,fun b hb=>q4.own b (uS hb)⟩,⟨a,rfl,EU (x':=.d (.sl es)) (y':=.d (.sl es')) h1 hc (fun v e1 e2=>uY q8 e2) (fun v e1 e2=>uY q9 e2)⟩,rfl,rfl⟩
theorem oJ.aic{ds:List D}{z z':Nat}{es es':List (List D)}(hz:z≠z')(ht:Aa S'=true)(h:oJ P f args S (Two ds z z' es es' S')):
 bJ P f args S fun r S1=>r=.agg (ds.map .d++[.bK (0,yO S') es,.bK (0,yO S'+1) es'])/\S1=JO S' [.tok z es,.tok z' es']:=by
 refine⟨h.1,fun w σ β vs hS hv=>(h.2 w σ β vs hS hv).mono fun e w' ⟨v,r,own,S1,bo,β1,σ',q1,q2,q3,q4,q5,q6,pre,x,y,q7,h1,q8,q9⟩=> ?_⟩;subst q6 q7;obtain⟨a,rfl,hc⟩:=q5;obtain⟨u,e1,e2,e3⟩:=hc.2 pre.length x (by rw[List.getElem?_append_right (Nat.le_refl _),Nat.sub_self];rfl);obtain⟨u',G5,e2',e3'⟩:=hc.2 (pre.length+1) y (by rw[List.getElem?_append_right (by omega),Nat.add_sub_cancel_left];rfl);obtain⟨k1,k2⟩:=Iq q2 q8 e2;obtain⟨k1',k2'⟩:=Iq q2 q9 e2'
 cases S1 with
 |nil=>cases ht
 |cons fr Ω=>
 have hd:=q2.Gc
 obtain⟨bf,bΩ,rfl,hlen⟩:∃bf bΩ,β1=bf::bΩ/\bf.length=fr.length:=by
  cases β1 with
  |nil=>have:=hd.shape.1;simp at this
  |cons bf bΩ=>
   refine⟨bf,bΩ,rfl,?_⟩;obtain⟨gr,q1,q2⟩:=hd.shape.2 0 fr rfl;simp at q1;rw[q1];exact q2
 obtain⟨l1,l2,l3⟩:=hd.lay (o:=.tok z es) (h:=u) hlen (k1 _ _) fun b hb ⟨k,o,hh,f1,f2,f3⟩=>by
  obtain⟨m,g1,g2,g3⟩:=k2 b hb;have:=q2.apart (0,m) (k.1+1,k.2) _ o u hh b (by rw[aZ];exact g1) (by rw[aZ];exact g3) hb (by rw[bM];exact f1) (by rw[bM];exact f2) f3;cases this
 obtain⟨l4,l5,l6⟩:=l1.lay (o:=.tok z' es') (h:=u') (by simp[hlen]) (k1' _ _) fun b hb ⟨k,o,hh,f1,f2,f3⟩=>by
  obtain⟨m',g1',g2',g3'⟩:=k2' b hb;rcases l3 b ⟨k,o,hh,f1,f2,f3⟩ with⟨k,o,hh,f1,f2,f3⟩|q
  ·have:=q2.apart (0,m') (k.1+1,k.2) _ o u' hh b (by rw[aZ];exact g1') (by rw[aZ];exact g3') hb (by rw[bM];exact f1) (by rw[bM];exact f2) f3;cases this
  ·obtain⟨m,g1,g2,g3⟩:=k2 b q;have:=q2.apart (0,m') (0,m) _ _ u' u b (by rw[aZ];exact g1') (by rw[aZ];exact g3') hb (by rw[aZ];exact g1) (by rw[aZ];exact g3) q;cases this;rw[g1] at g1';injection g1' with g1';injection g1' with g1';exact hz g1'
 have el:(fr++[Obj.tok z es]).length=fr.length+1:=by simp
 refine⟨_,.agg (ds.map .d++[.bK (0,yO (fr::Ω)) es,.bK (0,yO (fr::Ω)+1) es']),_,σ',_,q1,l4,(q3.trans l2).trans l5,⟨q4.size,q4.os,q4.output,q4.far,q4.near,fun b hb=> ?_⟩,⟨a,rfl,EU h1 hc (fun v f1 f2=> ?_) fun v f1 f2=> ?_⟩,rfl,?_⟩
 ·rcases l6 b hb with q|q
  ·rcases l3 b q with q|q
   ·exact q4.own b (uS q)
   ·obtain⟨m,g1,g2,g3⟩:=k2 b q;exact q4.own b ⟨(0,m),_,u,by rw[aZ];exact g1,by rw[aZ];exact g3,q⟩
  ·obtain⟨m,g1,g2,g3⟩:=k2' b q;exact q4.own b ⟨(0,m),_,u',by rw[aZ];exact g1,by rw[aZ];exact g3,q⟩
 ·rw[e1] at f1;cases f1;refine⟨uY q8 e2,.tok z es,?_,fun aQ es' e=> ?_⟩
  ·rw[qw,aZ,List.getElem?_append_left (by simp),List.getElem?_append_right (Nat.le_refl _),Nat.sub_self];rfl
  obtain⟨_,rfl⟩:=jD (lab:=none) e;refine⟨Nat.le_refl _,fun _=> ?_⟩;rw[qw,aZ,<-hlen,List.getElem?_append_left (by simp),List.getElem?_append_right (Nat.le_refl _),Nat.sub_self];rfl
 ·rw[G5] at f1;cases f1;refine⟨uY q9 e2',.tok z' es',?_,fun aQ es' e=> ?_⟩
  ·rw[qw,<-el];exact bG _ _ _
  obtain⟨_,rfl⟩:=jD (lab:=none) e;refine⟨Nat.le_refl _,fun _=> ?_⟩;rw[qw,<-el,show(fr++[Obj.tok z es]).length=(bf++[u]).length by simp[hlen]];exact bG _ _ _
 ·rw[Dp,List.append_assoc];rfl
end
def zT:au:=.mk 0 [] []
def o9(n:Int):aC:=.mk 1 [] [] n zT [] []
def sV(n:Int):aC:=.mk 2 [] [] n zT [] []
def wW(s:List UInt8):aC:=.mk 3 [] s 0 zT [] []
def pY(k:Int)(s:List UInt8)(l:List aC):aC:=.mk k [] s 0 zT l []
def JX:List (List UInt8):=[[102],[103]]
def xI:List (List UInt8):=[[115,104,111,119],[97,100,100]]
def sW:List (List UInt8):=[[43],[45],[42],[60],[61]]
theorem aco:fD JX:=by unfold fD;decide
theorem Wn:fD xI:=by unfold fD;decide
theorem Wo:fD sW:=by unfold fD;decide
def aL:List (List UInt8):=[[97]]
theorem aeV:fD aL:=by unfold fD;decide
def j5{bs:List Int}(k:Int)(sub:List (List UInt8)->Cu bs->aC×Cu bs)(vars:List (List UInt8))(c:Cu bs):aC×Cu bs:=
 if k=1 then(sV (bn 2 c).1,(bn 2 c).2) else
 if(k=2\/k=3)/\0<vars.length then(wW (cO vars c).1,(cO vars c).2) else
 if k=4 then(pY 4 (cO JX c).1 [(sub vars (cO JX c).2).1],(sub vars (cO JX c).2).2) else
 if k=5 then(.mk 5 (cO xI c).1 [109] 0 zT [(sub vars (cO xI c).2).1,(sub vars (sub vars (cO xI c).2).2).1] [],(sub vars (sub vars (cO xI c).2).2).2) else
 if k=6 then(pY 6 [99,111,110,115] [(sub vars c).1,(sub vars (sub vars c).2).1],(sub vars (sub vars c).2).2) else
 if k=7 then(.mk 7 [] [] 0 zT [(sub vars c).1] [.mk [110,105,108] [] (sub vars (sub vars c).2).1,.mk [99,111,110,115] [[104],[116]] (sub (vars++[[104],[116]]) (sub vars (sub vars c).2).2).1],(sub (vars++[[104],[116]]) (sub vars (sub vars c).2).2).2) else
 if k=8 then(pY 8 [121] [(sub vars c).1,(sub (vars++[[121]]) (sub vars c).2).1],(sub (vars++[[121]]) (sub vars c).2).2) else
 if k=9 then(pY 9 [] [(sub vars c).1,(sub vars (sub vars c).2).1,(sub vars (sub vars (sub vars c).2).2).1],(sub vars (sub vars (sub vars c).2).2).2) else
 if k=10 then(pY 10 (cO sW c).1 [(sub vars (cO sW c).2).1,(sub vars (sub vars (cO sW c).2).2).1],(sub vars (sub vars (cO sW c).2).2).2) else
 if k=11 then(.mk 11 [115,104,111,119] [] 0 zT [(sub vars c).1] [],(sub vars c).2) else
 if k=12 then(.mk 12 [] [] 0 (kr aL 1 c).1 [(sub vars (kr aL 1 c).2).1] [],(sub vars (kr aL 1 c).2).2) else
 (o9 ((bn 20 c).1-5),(bn 20 c).2)
def gB{bs:List Int}:Nat->List (List UInt8)->Cu bs->aC×Cu bs
 |0,vars,c=>j5 ((bn 13 c).1.tmod 3) (fun _ c=>(o9 0,c)) vars (bn 13 c).2
 |n+1,vars,c=>j5 (bn 13 c).1 (gB n) vars (bn 13 c).2
theorem fD.append{a b:List (List UInt8)}(h:fD a)(k:fD b):fD (a++b):=fun s hs=>(List.mem_append.1 hs).elim (h s) (k s)
theorem oK(k:Int)(t s:List UInt8)(n:Int)(ty:au)(a:List aC)(b:List aP):(aC.mk k t s n ty a b).sz=t.length+s.length+ty.sz+a.length+bB (a.map aC.enc)+b.length+bB (b.map aP.enc):=by
 have:=au.dz ty;simp only[aC.sz,aC.aB,bL,bZ,D.sz,List.length_map,aC.aI,aC.bg,aC.fName,aC.fN,aC.fType,aC.fArgs,aC.aO,this];omega
theorem qP(s:List UInt8)(v:List (List UInt8))(b:aC):bL (aP.mk s v b).enc=s.length+v.length+bB (v.map encS)+b.sz:=by
 have:=aC.dz b;simp only[aP.aB,bL,bZ,D.sz,List.length_map,aP.bU,aP.aK,aP.fBody,this];omega
theorem qH:zT.sz=0:=by simp[zT,au.sz,au.aB,bL,D.sz,bB,au.fName,au.fArgs]
theorem Qh{bs:List Int}{k:Int}{sub:List (List UInt8)->Cu bs->aC×Cu bs}{vars:List (List UInt8)}{m:Nat}(hv:fD vars)(hs:∀v c,fD v->(sub v c).1.sz<=m)(c:Cu bs):(j5 k sub vars c).1.sz<=3*m+40:=by
 have h1:=fun c=>hs vars c hv;have h2:=fun c=>hs (vars++[[104],[116]]) c (hv.append (by unfold fD;decide));have h3:=fun c=>hs (vars++[[121]]) c (hv.append (by unfold fD;decide));unfold j5;by_cases e0:k=1
 ·rw[if_pos e0];simp only[sV,wW,pY,o9,oK,qP,qH,List.map_cons,List.map_nil,List.length_cons,List.length_nil,bB,aC.dz,encS,bL,D.sz];omega
 rw[if_neg e0];by_cases e1:(k=2\/k=3)/\0<vars.length
 ·rw[if_pos e1];simp only[sV,wW,pY,o9,oK,qP,qH,List.map_cons,List.map_nil,List.length_cons,List.length_nil,bB,aC.dz,encS,bL,D.sz];have:=jK c hv;omega
 rw[if_neg e1];by_cases e2:k=4
 ·rw[if_pos e2];simp only[sV,wW,pY,o9,oK,qP,qH,List.map_cons,List.map_nil,List.length_cons,List.length_nil,bB,aC.dz,encS,bL,D.sz];have:=jK c aco;have:=h1 (cO JX c).2;omega
 rw[if_neg e2];by_cases e3:k=5
 ·rw[if_pos e3];simp only[sV,wW,pY,o9,oK,qP,qH,List.map_cons,List.map_nil,List.length_cons,List.length_nil,bB,aC.dz,encS,bL,D.sz];have:=jK c Wn;have:=h1 (cO xI c).2;have:=h1 (sub vars (cO xI c).2).2;omega
 rw[if_neg e3];by_cases e4:k=6
 ·rw[if_pos e4];simp only[sV,wW,pY,o9,oK,qP,qH,List.map_cons,List.map_nil,List.length_cons,List.length_nil,bB,aC.dz,encS,bL,D.sz];have:=h1 c;have:=h1 (sub vars c).2;omega
 rw[if_neg e4];by_cases e5:k=7
 ·rw[if_pos e5];simp only[sV,wW,pY,o9,oK,qP,qH,List.map_cons,List.map_nil,List.length_cons,List.length_nil,bB,aC.dz,encS,bL,D.sz];have:=h1 c;have:=h1 (sub vars c).2;have:=h2 (sub vars (sub vars c).2).2;omega
 rw[if_neg e5];by_cases e6:k=8
 ·rw[if_pos e6];simp only[sV,wW,pY,o9,oK,qP,qH,List.map_cons,List.map_nil,List.length_cons,List.length_nil,bB,aC.dz,encS,bL,D.sz];have:=h1 c;have:=h3 (sub vars c).2;omega
 rw[if_neg e6];by_cases e7:k=9
 ·rw[if_pos e7];simp only[sV,wW,pY,o9,oK,qP,qH,List.map_cons,List.map_nil,List.length_cons,List.length_nil,bB,aC.dz,encS,bL,D.sz];have:=h1 c;have:=h1 (sub vars c).2;have:=h1 (sub vars (sub vars c).2).2;omega
 rw[if_neg e7];by_cases e8:k=10
 ·rw[if_pos e8];simp only[sV,wW,pY,o9,oK,qP,qH,List.map_cons,List.map_nil,List.length_cons,List.length_nil,bB,aC.dz,encS,bL,D.sz];have:=jK c Wo;have:=h1 (cO sW c).2;have:=h1 (sub vars (cO sW c).2).2;omega
 rw[if_neg e8];by_cases e9:k=11
 ·rw[if_pos e9];simp only[sV,wW,pY,o9,oK,qP,qH,List.map_cons,List.map_nil,List.length_cons,List.length_nil,bB,aC.dz,encS,bL,D.sz];have:=h1 c;omega
 rw[if_neg e9];by_cases e10:k=12
 ·rw[if_pos e10];simp only[sV,wW,pY,o9,oK,qP,qH,List.map_cons,List.map_nil,List.length_cons,List.length_nil,bB,aC.dz,encS,bL,D.sz];have:=ES aeV 1 c;have:=h1 (kr aL 1 c).2;omega
 rw[if_neg e10];simp only[sV,wW,pY,o9,oK,qP,qH,List.map_cons,List.map_nil,List.length_cons,List.length_nil,bB,aC.dz,encS,bL,D.sz];omega
theorem Qi{bs:List Int}:∀(n:Nat)(vars:List (List UInt8))(c:Cu bs),fD vars->(gB n vars c).1.sz+20<=60*3^n
 |0,vars,c,hv=>by
  have:=Qh (k:=(bn 13 c).1.tmod 3) (sub:=fun _ c=>(o9 0,c)) (m:=0) hv (fun v c _=>by simp[o9,oK,qH,bB]) (bn 13 c).2;rw[gB];omega
 |n+1,vars,c,hv=>by
  have ih:=Qi n (bs:=bs);have:=Qh (k:=(bn 13 c).1) (sub:=gB n) (m:=60*3^n-20) hv (fun v c h=>by have:=ih v c h;omega) (bn 13 c).2;have h1:1<=3^n:=Nat.one_le_pow _ _ (by omega);rw[gB,Nat.pow_succ];omega
theorem qJ(k:Int)(t s:List UInt8)(n:Int)(ty:au)(a:List aC)(b:List aP):(aC.mk k t s n ty a b).fArgs=a:=rfl
theorem qK(k:Int)(t s:List UInt8)(n:Int)(ty:au)(a:List aC)(b:List aP):(aC.mk k t s n ty a b).aO=b:=rfl
theorem sZ(s:List UInt8)(v:List (List UInt8))(b:aC):(aP.mk s v b).enc=.s s:: .sl (v.map encS)::b.enc:=by rw[aP.aB];rfl
def exP(t:aC):List D:=[.i .i64 t.aI,.s t.bg,.s t.fName,.i .i64 t.fN,.i .i64 t.fType.aI,.s t.fType.fName,.sl (t.fType.fArgs.map au.enc)]
def Ol(t:aC)(S':Store):V->List Obj->Store->Prop:=Two (exP t) 9 11 (t.fArgs.map aC.enc) (t.aO.map aP.enc) S'
theorem Ag(l:List aC):∀y∈l.map aC.enc,y.length=9:=by
 intro y hy;obtain⟨x,_,rfl⟩:=List.mem_map.1 hy;exact aC.bN x
theorem acr(l:List aP):∀y∈l.map aP.enc,y.length=11:=by
 intro y hy;obtain⟨x,_,rfl⟩:=List.mem_map.1 hy;exact aP.bN x
theorem sD(n:Int):aJ prog 142 [.c (.d (.i .i64 n))] (.agg [.d (.i .i64 1),.d (.s []),.d (.s []),.d (.i .i64 n),.d (.i .i64 0),.d (.s []),.bE [],.bE [],.bE []]):=fun S=>by
 refine zcx [.cell 2 33] func142 ntmps142 ?_;simp -implicitDefEqProofs (disch:=omega) only[go_sem]
 first|done|exact⟨rfl,rfl⟩|rfl
theorem EW(s:List UInt8):aJ prog 91 [.c (.d (.s s))] (.agg [.d (.i .i64 3),.d (.s []),.d (.s s),.d (.i .i64 0),.d (.i .i64 0),.d (.s []),.bE [],.bE [],.bE []]):=fun S=>by
 refine zcx [.cell 2 33] func91 ntmps91 ?_;simp -implicitDefEqProofs (disch:=omega) only[go_sem]
 first|done|exact⟨rfl,rfl⟩|rfl
theorem Za(k:Int)(s:List UInt8)(l:List aC){es:List (List D)}(he:es=l.map aC.enc)(hl:l.length<=1048576){a:C}(ha:a=.d (.sl es)\/a=.bE es)(S:Store):oJ prog 149 [.c (.d (.i .i64 k)),.c (.d (.s s)),.c a] S (Ol (pY k s l) S):=by
 subst he;refine Ac (rs:=[.cell 6 33]) zmx func149 ntmps149 rfl rfl rfl rfl rfl ?_;have hln:=Ag l;rcases ha with rfl|rfl
 all_goals
  simp -implicitDefEqProofs (disch:=omega) only[go_sem];refine⟨hln,⟨_,rfl,rfl⟩,fun y hy=>absurd hy List.not_mem_nil,by omega,rfl,[_,_,_,_,_,_,_],_,_,rfl,rfl,.inl ⟨1,rfl,rfl⟩,.inr ⟨rfl,fun e he=>by cases he⟩⟩
theorem mE{f:FuncId}{args:List V}{S S':Store}{t:aC}(h:oJ prog f args S (Ol t S')):bJ prog f args S (fun r S1=>r=t.v/\S1=S'):=
 oJ.agw h
theorem Wp{f:FuncId}{args:List V}{S S':Store}{t:aC}(ht:Aa S'=true)(h:oJ prog f args S (Ol t S')):
 bJ prog f args S (fun r S1=>r=.agg [.d (.i .i64 t.aI),.d (.s t.bg),.d (.s t.fName),.d (.i .i64 t.fN),.d (.i .i64 t.fType.aI),.d (.s t.fType.fName),.d (.sl (t.fType.fArgs.map au.enc)),.bK (0,yO S') (t.fArgs.map aC.enc),.bK (0,yO S'+1) (t.aO.map aP.enc)]/\S1=JO S' [.tok 9 (t.fArgs.map aC.enc),.tok 11 (t.aO.map aP.enc)]):=
 oJ.aic (by decide) ht h
theorem vY(k:Int)(s:List UInt8)(l:List aC){es:List (List D)}(he:es=l.map aC.enc)(hl:l.length<=1048576){a:C}(ha:a=.d (.sl es)\/a=.bE es){own:List Ab.Obj}{Ω:Store}:
 bJ prog 149 [.c (.d (.i .i64 k)),.c (.d (.s s)),.c a] (own::Ω) (fun r S1=>r=.agg [.d (.i .i64 k),.d (.s []),.d (.s s),.d (.i .i64 0),.d (.i .i64 0),.d (.s []),.d (.sl []),.bK (0,own.length) es,.bK (0,own.length+1) []]/\S1=(own++[.tok 9 es,.tok 11 []])::Ω):=by
 have:=Wp (S':=own::Ω) rfl (Za k s l he hl ha (own::Ω));rw[he];exact this
theorem nL{bs:List Int}(hB:Bytes bs):∀(n:Nat)(vars:List (List UInt8))(c:Cu bs)(l j:Nat)(S:Store),vars.length+2*n<=256->aW S (l,j)=some (.box (cur c))->
 oJ prog 94 [.c (.ptr (l,j) 0),.c (.d (.sl (vars.map encS))),.c (.d (.i .i64 n))] S (Ol (gB n vars c).1 (aX S (l,j) (.box (cur (gB n vars c).2)))):=by
 intro n
 induction n with
 |zero=>
  intro vars c l j S hv hk;have g:∀x:Ab.Obj,aW (aX S (l,j) x) (l,j)=some x:=fun x=>bW _ _ _ _ hk;have hx:=iA (n:=13) c (by omega);have hy:=Int.tmod_lt_of_pos (bn 13 c).1 (b:=3) (by omega);have hz:=Int.tmod_nonneg 3 hx.1;obtain⟨k,hkd⟩:∃k,k=(bn 13 c).1.tmod 3:=⟨_,rfl⟩;obtain⟨c1,hc1⟩:∃c1,c1=(bn 13 c).2:=⟨_,rfl⟩;rw[gB,<-hkd,<-hc1];obtain⟨q,hq⟩:∃q,q=j5 k (fun _ c=>(o9 0,c)) vars c1:=⟨_,rfl⟩;rw[<-hq];refine Ac (rs:=[.cell 6 33]) zmx func94 ntmps94 rfl rfl rfl rfl rfl ?_;simp -implicitDefEqProofs (disch:=omega) only[go_sem];refine aT rfl (dZ hB c (1+l) j _ 13 (by rw[aV];exact hk) (by omega) (by omega)) ?_;rw[<-hc1];have d0:decide (((0:Nat):Int)<=0)=true:=rfl;simp -implicitDefEqProofs (disch:=omega) only[go_sem,d0,ay]
  (repeat(with_reducible refine And.intro ?_ ?_;focus first|omega|rfl|assumption|exact⟨_,rfl,rfl⟩|(simp;omega)|(simp;done)))
  rw[<-hkd] at hy hz ⊢;have d1:k<3:=hy;have n3:decide (k=3)=false:=decide_eq_false (by omega);have n4:decide (k=4)=false:=decide_eq_false (by omega);have n5:decide (k=5)=false:=decide_eq_false (by omega);have n6:decide (k=6)=false:=decide_eq_false (by omega);have n7:decide (k=7)=false:=decide_eq_false (by omega);have n8:decide (k=8)=false:=decide_eq_false (by omega);have n9:decide (k=9)=false:=decide_eq_false (by omega);have n10:decide (k=10)=false:=decide_eq_false (by omega);have n11:decide (k=11)=false:=decide_eq_false (by omega);have n12:decide (k=12)=false:=decide_eq_false (by omega)
  with_reducible refine aD (fun hb=> ?_) (fun hb=> ?_)<;>have h:=hb<;>(try simp only[wf_preprocess] at h)<;>simp -implicitDefEqProofs (disch:=omega) only[go_sem,hb,n3,n4,n5,n6,n7,n8,n9,n10,n11,n12,ay,ak]<;>(repeat(with_reducible refine And.intro ?_ ?_;focus first|omega|rfl|assumption|exact⟨_,rfl,rfl⟩|(simp;omega)|(simp;done)))
  ·subst h;simp only[j5,reduceIte] at hq;refine aT rfl (dZ hB c1 (1+l) j _ 2 (by rw[aV];exact g _) (by omega) (by omega)) ?_;simp -implicitDefEqProofs (disch:=omega) only[go_sem,n3,n4,n5,n6,n7,n8,n9,n10,n11,n12,ay,ak];rw[hq];refine⟨rfl,[_,_,_,_,_,_,_],_,_,rfl,rfl,.inr ⟨rfl,fun e he=>by cases he⟩,.inr ⟨rfl,fun e he=>by cases he⟩⟩
  have e1:=h
  with_reducible refine aD (fun hb=> ?_) (fun hb=> ?_)<;>have h:=hb<;>(try simp only[wf_preprocess] at h)<;>simp -implicitDefEqProofs (disch:=omega) only[go_sem,hb,n3,n4,n5,n6,n7,n8,n9,n10,n11,n12,ay,ak]<;>(repeat(with_reducible refine And.intro ?_ ?_;focus first|omega|rfl|assumption|exact⟨_,rfl,rfl⟩|(simp;omega)|(simp;done)))
  ·subst h
   with_reducible refine aD (fun hb=> ?_) (fun hb=> ?_)<;>have h:=hb<;>(try simp only[wf_preprocess] at h)<;>simp -implicitDefEqProofs (disch:=omega) only[go_sem,hb,ay,ak]<;>(repeat(with_reducible refine And.intro ?_ ?_;focus first|omega|rfl|assumption|exact⟨_,rfl,rfl⟩|(simp;omega)|(simp;done)))
   ·have hl:0<vars.length:=by omega
    simp only[j5,reduceIte,Int.reduceEq,false_or,or_false,or_self,false_and,true_and,if_pos hl] at hq;refine cZ [true] rfl (fU hB c1 (1+l) j _ vars (by rw[aV];exact g _) (by omega) (by omega)) ?_;simp -implicitDefEqProofs (disch:=omega) only[go_sem,n3,n4,n5,n6,n7,n8,n9,n10,n11,n12,ay,ak];refine aA (EW (cO vars c1).1) ?_;simp -implicitDefEqProofs (disch:=omega) only[go_sem,n3,n4,n5,n6,n7,n8,n9,n10,n11,n12,ay,ak];rw[hq];refine⟨rfl,[_,_,_,_,_,_,_],_,_,rfl,rfl,.inr ⟨rfl,fun e he=>by cases he⟩,.inr ⟨rfl,fun e he=>by cases he⟩⟩
   ·have hl:¬0<vars.length:=by omega
    simp only[j5,reduceIte,Int.reduceEq,false_or,or_false,or_self,false_and,true_and,if_neg hl] at hq;have hx2:=iA (n:=20) c1 (by omega);refine aT rfl (dZ hB c1 (1+l) j _ 20 (by rw[aV];exact g _) (by omega) (by omega)) ?_;simp -implicitDefEqProofs (disch:=omega) only[go_sem,n3,n4,n5,n6,n7,n8,n9,n10,n11,n12,ay,ak]
    (repeat(with_reducible refine And.intro ?_ ?_;focus first|omega|rfl|assumption|exact⟨_,rfl,rfl⟩|(simp;omega)|(simp;done)))
    refine aA (sD ((bn 20 c1).1-5)) ?_;simp -implicitDefEqProofs (disch:=omega) only[go_sem,n3,n4,n5,n6,n7,n8,n9,n10,n11,n12,ay,ak];rw[hq];refine⟨rfl,[_,_,_,_,_,_,_],_,_,rfl,rfl,.inr ⟨rfl,fun e he=>by cases he⟩,.inr ⟨rfl,fun e he=>by cases he⟩⟩
  have e2:=h
  have e3:¬k=3:=by omega
  have e4:¬k=4:=by omega
  have e5:¬k=5:=by omega
  have e6:¬k=6:=by omega
  have e7:¬k=7:=by omega
  have e8:¬k=8:=by omega
  have e9:¬k=9:=by omega
  have e10:¬k=10:=by omega
  have e11:¬k=11:=by omega
  have e12:¬k=12:=by omega
  simp only[j5,if_neg e1,e2,e3,false_or,or_self,false_and,reduceIte,if_neg e4,if_neg e5,if_neg e6,if_neg e7,if_neg e8,if_neg e9,if_neg e10,if_neg e11,if_neg e12] at hq;have hx2:=iA (n:=20) c1 (by omega);refine aT rfl (dZ hB c1 (1+l) j _ 20 (by rw[aV];exact g _) (by omega) (by omega)) ?_;simp -implicitDefEqProofs (disch:=omega) only[go_sem,n3,n4,n5,n6,n7,n8,n9,n10,n11,n12,ay,ak]
  (repeat(with_reducible refine And.intro ?_ ?_;focus first|omega|rfl|assumption|exact⟨_,rfl,rfl⟩|(simp;omega)|(simp;done)))
  refine aA (sD ((bn 20 c1).1-5)) ?_;simp -implicitDefEqProofs (disch:=omega) only[go_sem,n3,n4,n5,n6,n7,n8,n9,n10,n11,n12,ay,ak];rw[hq];refine⟨rfl,[_,_,_,_,_,_,_],_,_,rfl,rfl,.inr ⟨rfl,fun e he=>by cases he⟩,.inr ⟨rfl,fun e he=>by cases he⟩⟩
 |succ n ih=>
  intro vars c l j S hv hk;have g:∀x:Ab.Obj,aW (aX S (l,j) x) (l,j)=some x:=fun x=>bW _ _ _ _ hk;have hx:=iA (n:=13) c (by omega);obtain⟨k,hkd⟩:∃k,k=(bn 13 c).1:=⟨_,rfl⟩;obtain⟨c1,hc1⟩:∃c1,c1=(bn 13 c).2:=⟨_,rfl⟩;have ih1:=fun vars c l j S hv hk=>mE (ih vars c l j S hv hk);rw[gB,<-hkd,<-hc1];obtain⟨q,hq⟩:∃q,q=j5 k (gB n) vars c1:=⟨_,rfl⟩;rw[<-hq];refine Ac (rs:=[.cell 6 33]) zmx func94 ntmps94 rfl rfl rfl rfl rfl ?_;simp -implicitDefEqProofs (disch:=omega) only[go_sem];refine aT rfl (dZ hB c (1+l) j _ 13 (by rw[aV];exact hk) (by omega) (by omega)) ?_;rw[<-hkd,<-hc1];have d0:decide (((n+1:Nat):Int)<=0)=false:=decide_eq_false (by omega)
  have d1:((n+1:Nat):Int)-1=(n:Int):=by omega
  simp -implicitDefEqProofs (disch:=omega) only[go_sem,d0,ay]
  have hm:∀y∈vars.map encS,y.length=1:=by
   intro y hy;obtain⟨z,_,rfl⟩:=List.mem_map.1 hy;rfl
  with_reducible refine aD (fun hb=> ?_) (fun hb=> ?_)<;>have h:=hb<;>(try simp only[wf_preprocess] at h)<;>simp -implicitDefEqProofs (disch:=omega) only[go_sem,hb,d1,ay,ak]<;>(repeat(with_reducible refine And.intro ?_ ?_;focus first|omega|rfl|assumption|exact⟨_,rfl,rfl⟩|(simp;omega)|(simp;done)))
  ·subst h;simp only[j5,reduceIte] at hq;refine aT rfl (dZ hB c1 (1+l) j _ 2 (by rw[aV];exact g _) (by omega) (by omega)) ?_;simp -implicitDefEqProofs (disch:=omega) only[go_sem,d1,ay,ak];rw[hq];refine⟨rfl,[_,_,_,_,_,_,_],_,_,rfl,rfl,.inr ⟨rfl,fun e he=>by cases he⟩,.inr ⟨rfl,fun e he=>by cases he⟩⟩
  have e1:=h
  with_reducible refine aD (fun hb=> ?_) (fun hb=> ?_)<;>have h:=hb<;>(try simp only[wf_preprocess] at h)<;>simp -implicitDefEqProofs (disch:=omega) only[go_sem,hb,d1,ay,ak]<;>(repeat(with_reducible refine And.intro ?_ ?_;focus first|omega|rfl|assumption|exact⟨_,rfl,rfl⟩|(simp;omega)|(simp;done)))
  ·subst h
   with_reducible refine aD (fun hb=> ?_) (fun hb=> ?_)<;>have h:=hb<;>(try simp only[wf_preprocess] at h)<;>simp -implicitDefEqProofs (disch:=omega) only[go_sem,hb,d1,ay,ak]<;>(repeat(with_reducible refine And.intro ?_ ?_;focus first|omega|rfl|assumption|exact⟨_,rfl,rfl⟩|(simp;omega)|(simp;done)))
   ·have hl:0<vars.length:=by omega
    simp only[j5,reduceIte,Int.reduceEq,false_or,or_false,or_self,false_and,true_and,if_pos hl] at hq;refine cZ [true] rfl (fU hB c1 (1+l) j _ vars (by rw[aV];exact g _) (by omega) (by omega)) ?_;simp -implicitDefEqProofs (disch:=omega) only[go_sem,d1,ay,ak];refine aA (EW (cO vars c1).1) ?_;simp -implicitDefEqProofs (disch:=omega) only[go_sem,d1,ay,ak];rw[hq];refine⟨rfl,[_,_,_,_,_,_,_],_,_,rfl,rfl,.inr ⟨rfl,fun e he=>by cases he⟩,.inr ⟨rfl,fun e he=>by cases he⟩⟩
   ·have hl:¬0<vars.length:=by omega
    simp only[j5,reduceIte,Int.reduceEq,false_or,or_false,or_self,false_and,true_and,if_neg hl] at hq;have hx2:=iA (n:=20) c1 (by omega);refine aT rfl (dZ hB c1 (1+l) j _ 20 (by rw[aV];exact g _) (by omega) (by omega)) ?_;simp -implicitDefEqProofs (disch:=omega) only[go_sem,d1,ay,ak]
    (repeat(with_reducible refine And.intro ?_ ?_;focus first|omega|rfl|assumption|exact⟨_,rfl,rfl⟩|(simp;omega)|(simp;done)))
    refine aA (sD ((bn 20 c1).1-5)) ?_;simp -implicitDefEqProofs (disch:=omega) only[go_sem,d1,ay,ak];rw[hq];refine⟨rfl,[_,_,_,_,_,_,_],_,_,rfl,rfl,.inr ⟨rfl,fun e he=>by cases he⟩,.inr ⟨rfl,fun e he=>by cases he⟩⟩
  have e2:=h
  with_reducible refine aD (fun hb=> ?_) (fun hb=> ?_)<;>have h:=hb<;>(try simp only[wf_preprocess] at h)<;>simp -implicitDefEqProofs (disch:=omega) only[go_sem,hb,d1,ay,ak]<;>(repeat(with_reducible refine And.intro ?_ ?_;focus first|omega|rfl|assumption|exact⟨_,rfl,rfl⟩|(simp;omega)|(simp;done)))
  ·subst h
   with_reducible refine aD (fun hb=> ?_) (fun hb=> ?_)<;>have h:=hb<;>(try simp only[wf_preprocess] at h)<;>simp -implicitDefEqProofs (disch:=omega) only[go_sem,hb,d1,ay,ak]<;>(repeat(with_reducible refine And.intro ?_ ?_;focus first|omega|rfl|assumption|exact⟨_,rfl,rfl⟩|(simp;omega)|(simp;done)))
   ·have hl:0<vars.length:=by omega
    simp only[j5,reduceIte,Int.reduceEq,false_or,or_false,or_self,false_and,true_and,if_pos hl] at hq;refine cZ [true] rfl (fU hB c1 (1+l) j _ vars (by rw[aV];exact g _) (by omega) (by omega)) ?_;simp -implicitDefEqProofs (disch:=omega) only[go_sem,d1,ay,ak];refine aA (EW (cO vars c1).1) ?_;simp -implicitDefEqProofs (disch:=omega) only[go_sem,d1,ay,ak];rw[hq];refine⟨rfl,[_,_,_,_,_,_,_],_,_,rfl,rfl,.inr ⟨rfl,fun e he=>by cases he⟩,.inr ⟨rfl,fun e he=>by cases he⟩⟩
   ·have hl:¬0<vars.length:=by omega
    simp only[j5,reduceIte,Int.reduceEq,false_or,or_false,or_self,false_and,true_and,if_neg hl] at hq;have hx2:=iA (n:=20) c1 (by omega);refine aT rfl (dZ hB c1 (1+l) j _ 20 (by rw[aV];exact g _) (by omega) (by omega)) ?_;simp -implicitDefEqProofs (disch:=omega) only[go_sem,d1,ay,ak]
    (repeat(with_reducible refine And.intro ?_ ?_;focus first|omega|rfl|assumption|exact⟨_,rfl,rfl⟩|(simp;omega)|(simp;done)))
    refine aA (sD ((bn 20 c1).1-5)) ?_;simp -implicitDefEqProofs (disch:=omega) only[go_sem,d1,ay,ak];rw[hq];refine⟨rfl,[_,_,_,_,_,_,_],_,_,rfl,rfl,.inr ⟨rfl,fun e he=>by cases he⟩,.inr ⟨rfl,fun e he=>by cases he⟩⟩
  have e3:=h
  with_reducible refine aD (fun hb=> ?_) (fun hb=> ?_)<;>have h:=hb<;>(try simp only[wf_preprocess] at h)<;>simp -implicitDefEqProofs (disch:=omega) only[go_sem,hb,d1,ay,ak]<;>(repeat(with_reducible refine And.intro ?_ ?_;focus first|omega|rfl|assumption|exact⟨_,rfl,rfl⟩|(simp;omega)|(simp;done)))
  ·subst h;simp only[j5,reduceIte,Int.reduceEq,false_or,or_false,or_self,false_and] at hq;refine cZ [true] rfl (fU hB c1 (1+l) j _ JX (by rw[aV];exact g _) (by decide) (by decide)) ?_;simp -implicitDefEqProofs (disch:=omega) only[go_sem,d1,ay,ak];refine cZ [true] rfl (ih1 vars (cO JX c1).2 (1+l) j _ (by first|omega|(simp only[List.length_append,List.length_cons,List.length_nil];omega)) (by rw[aV];exact g _)) ?_;simp -implicitDefEqProofs (disch:=omega) only[go_sem,d1,ay,ak]
   (repeat(with_reducible refine And.intro ?_ ?_;focus first|omega|rfl|assumption|exact⟨_,rfl,rfl⟩|(simp;omega)|(simp;done)))
   refine aT rfl (vY 4 (cO JX c1).1 [(gB n vars (cO JX c1).2).1] (by simp only[List.map_cons,List.map_nil,aC.aB,au.aB,List.cons_append,List.nil_append]) (by simp) (.inr rfl)) ?_;simp -implicitDefEqProofs (disch:=omega) only[go_sem,d1,ay,ak];rw[hq];refine⟨rfl,[_,_,_,_,_,_,_],_,_,rfl,rfl,.inl ⟨1,?_,?_⟩,.inl ⟨2,?_,?_⟩⟩<;>simp only[pY,qJ,qK,List.map_cons,List.map_nil,aC.aB,sZ,au.aB,encS,List.cons_append,List.nil_append]<;>rfl
  have e4:=h
  with_reducible refine aD (fun hb=> ?_) (fun hb=> ?_)<;>have h:=hb<;>(try simp only[wf_preprocess] at h)<;>simp -implicitDefEqProofs (disch:=omega) only[go_sem,hb,d1,ay,ak]<;>(repeat(with_reducible refine And.intro ?_ ?_;focus first|omega|rfl|assumption|exact⟨_,rfl,rfl⟩|(simp;omega)|(simp;done)))
  ·subst h;simp only[j5,reduceIte,Int.reduceEq,false_or,or_false,or_self,false_and] at hq;refine cZ [true] rfl (fU hB c1 (1+l) j _ xI (by rw[aV];exact g _) (by decide) (by decide)) ?_;simp -implicitDefEqProofs (disch:=omega) only[go_sem,d1,ay,ak];refine cZ [true] rfl (ih1 vars (cO xI c1).2 (1+l) j _ (by first|omega|(simp only[List.length_append,List.length_cons,List.length_nil];omega)) (by rw[aV];exact g _)) ?_;simp -implicitDefEqProofs (disch:=omega) only[go_sem,d1,ay,ak];refine cZ [true] rfl (ih1 vars (gB n vars (cO xI c1).2).2 (1+l) j _ (by first|omega|(simp only[List.length_append,List.length_cons,List.length_nil];omega)) (by rw[aV];exact g _)) ?_;simp -implicitDefEqProofs (disch:=omega) only[go_sem,d1,ay,ak]
   (repeat(with_reducible refine And.intro ?_ ?_;focus first|omega|rfl|assumption|exact⟨_,rfl,rfl⟩|(simp;omega)|(simp;done)))
   rw[hq];refine⟨rfl,[_,_,_,_,_,_,_],_,_,rfl,rfl,.inr ⟨?_,Ag _⟩,.inr ⟨rfl,fun e he=>by cases he⟩⟩<;>simp only[pY,qJ,qK,List.map_cons,List.map_nil,aC.aB,sZ,au.aB,encS,List.cons_append,List.nil_append]<;>rfl
  have e5:=h
  with_reducible refine aD (fun hb=> ?_) (fun hb=> ?_)<;>have h:=hb<;>(try simp only[wf_preprocess] at h)<;>simp -implicitDefEqProofs (disch:=omega) only[go_sem,hb,d1,ay,ak]<;>(repeat(with_reducible refine And.intro ?_ ?_;focus first|omega|rfl|assumption|exact⟨_,rfl,rfl⟩|(simp;omega)|(simp;done)))
  ·subst h;simp only[j5,reduceIte,Int.reduceEq,false_or,or_false,or_self,false_and] at hq;refine cZ [true] rfl (ih1 vars c1 (1+l) j _ (by first|omega|(simp only[List.length_append,List.length_cons,List.length_nil];omega)) (by rw[aV];exact g _)) ?_;simp -implicitDefEqProofs (disch:=omega) only[go_sem,d1,ay,ak];refine cZ [true] rfl (ih1 vars (gB n vars c1).2 (1+l) j _ (by first|omega|(simp only[List.length_append,List.length_cons,List.length_nil];omega)) (by rw[aV];exact g _)) ?_;simp -implicitDefEqProofs (disch:=omega) only[go_sem,d1,ay,ak]
   (repeat(with_reducible refine And.intro ?_ ?_;focus first|omega|rfl|assumption|exact⟨_,rfl,rfl⟩|(simp;omega)|(simp;done)))
   refine aT rfl (vY 6 [99,111,110,115] [(gB n vars c1).1,(gB n vars (gB n vars c1).2).1] (by simp only[List.map_cons,List.map_nil,aC.aB,au.aB,List.cons_append,List.nil_append]) (by simp) (.inr rfl)) ?_;simp -implicitDefEqProofs (disch:=omega) only[go_sem,d1,ay,ak];rw[hq];refine⟨rfl,[_,_,_,_,_,_,_],_,_,rfl,rfl,.inl ⟨1,?_,?_⟩,.inl ⟨2,?_,?_⟩⟩<;>simp only[pY,qJ,qK,List.map_cons,List.map_nil,aC.aB,sZ,au.aB,encS,List.cons_append,List.nil_append]<;>rfl
  have e6:=h
  with_reducible refine aD (fun hb=> ?_) (fun hb=> ?_)<;>have h:=hb<;>(try simp only[wf_preprocess] at h)<;>simp -implicitDefEqProofs (disch:=omega) only[go_sem,hb,d1,ay,ak]<;>(repeat(with_reducible refine And.intro ?_ ?_;focus first|omega|rfl|assumption|exact⟨_,rfl,rfl⟩|(simp;omega)|(simp;done)))
  ·subst h;simp only[j5,reduceIte,Int.reduceEq,false_or,or_false,or_self,false_and] at hq;refine cZ [true] rfl (ih1 vars c1 (1+l) j _ (by first|omega|(simp only[List.length_append,List.length_cons,List.length_nil];omega)) (by rw[aV];exact g _)) ?_;simp -implicitDefEqProofs (disch:=omega) only[go_sem,d1,ay,ak];refine cZ [true] rfl (ih1 vars (gB n vars c1).2 (1+l) j _ (by first|omega|(simp only[List.length_append,List.length_cons,List.length_nil];omega)) (by rw[aV];exact g _)) ?_;simp -implicitDefEqProofs (disch:=omega) only[go_sem,d1,ay,ak];have ih2:=fun c l j S hk=>ih1 (vars++[[104],[116]]) c l j S (by simp only[List.length_append,List.length_cons,List.length_nil];omega) hk;simp only[List.map_append,List.map_cons,List.map_nil,encS] at ih2;refine cZ [true] rfl (ih2 (gB n vars (gB n vars c1).2).2 (1+l) j _ (by rw[aV];exact g _)) ?_;simp -implicitDefEqProofs (disch:=omega) only[go_sem,d1,ay,ak]
   (repeat(with_reducible refine And.intro ?_ ?_;focus first|omega|rfl|assumption|exact⟨_,rfl,rfl⟩|(simp;omega)|(simp;done)))
   rw[hq];refine⟨rfl,[_,_,_,_,_,_,_],_,_,rfl,rfl,.inr ⟨?_,Ag _⟩,.inr ⟨?_,acr _⟩⟩<;>simp only[pY,qJ,qK,List.map_cons,List.map_nil,aC.aB,sZ,au.aB,encS,List.cons_append,List.nil_append]<;>rfl
  have e7:=h
  with_reducible refine aD (fun hb=> ?_) (fun hb=> ?_)<;>have h:=hb<;>(try simp only[wf_preprocess] at h)<;>simp -implicitDefEqProofs (disch:=omega) only[go_sem,hb,d1,ay,ak]<;>(repeat(with_reducible refine And.intro ?_ ?_;focus first|omega|rfl|assumption|exact⟨_,rfl,rfl⟩|(simp;omega)|(simp;done)))
  ·subst h;simp only[j5,reduceIte,Int.reduceEq,false_or,or_false,or_self,false_and] at hq;refine cZ [true] rfl (ih1 vars c1 (1+l) j _ (by first|omega|(simp only[List.length_append,List.length_cons,List.length_nil];omega)) (by rw[aV];exact g _)) ?_;simp -implicitDefEqProofs (disch:=omega) only[go_sem,d1,ay,ak];refine⟨hm,⟨_,rfl,rfl⟩,fun y hy=>absurd hy List.not_mem_nil,by omega,by simp,⟨_,rfl,rfl⟩,by omega,?_⟩;have ih2:=fun c l j S hk=>ih1 (vars++[[121]]) c l j S (by simp only[List.length_append,List.length_cons,List.length_nil];omega) hk;simp only[List.map_append,List.map_cons,List.map_nil,encS] at ih2;refine cZ [true] rfl (ih2 (gB n vars c1).2 (1+l) j _ (by rw[aV];exact g _)) ?_;simp -implicitDefEqProofs (disch:=omega) only[go_sem,d1,ay,ak]
   (repeat(with_reducible refine And.intro ?_ ?_;focus first|omega|rfl|assumption|exact⟨_,rfl,rfl⟩|(simp;omega)|(simp;done)))
   refine aT rfl (vY 8 [121] [(gB n vars c1).1,(gB n (vars++[[121]]) (gB n vars c1).2).1] (by simp only[List.map_cons,List.map_nil,aC.aB,au.aB,List.cons_append,List.nil_append]) (by simp) (.inr rfl)) ?_;simp -implicitDefEqProofs (disch:=omega) only[go_sem,d1,ay,ak];rw[hq];refine⟨rfl,[_,_,_,_,_,_,_],_,_,rfl,rfl,.inl ⟨2,?_,?_⟩,.inl ⟨3,?_,?_⟩⟩<;>simp only[pY,qJ,qK,List.map_cons,List.map_nil,aC.aB,sZ,au.aB,encS,List.cons_append,List.nil_append]<;>rfl
  have e8:=h
  with_reducible refine aD (fun hb=> ?_) (fun hb=> ?_)<;>have h:=hb<;>(try simp only[wf_preprocess] at h)<;>simp -implicitDefEqProofs (disch:=omega) only[go_sem,hb,d1,ay,ak]<;>(repeat(with_reducible refine And.intro ?_ ?_;focus first|omega|rfl|assumption|exact⟨_,rfl,rfl⟩|(simp;omega)|(simp;done)))
  ·subst h;simp only[j5,reduceIte,Int.reduceEq,false_or,or_false,or_self,false_and] at hq;refine cZ [true] rfl (ih1 vars c1 (1+l) j _ (by first|omega|(simp only[List.length_append,List.length_cons,List.length_nil];omega)) (by rw[aV];exact g _)) ?_;simp -implicitDefEqProofs (disch:=omega) only[go_sem,d1,ay,ak];refine cZ [true] rfl (ih1 vars (gB n vars c1).2 (1+l) j _ (by first|omega|(simp only[List.length_append,List.length_cons,List.length_nil];omega)) (by rw[aV];exact g _)) ?_;simp -implicitDefEqProofs (disch:=omega) only[go_sem,d1,ay,ak];refine cZ [true] rfl (ih1 vars (gB n vars (gB n vars c1).2).2 (1+l) j _ (by first|omega|(simp only[List.length_append,List.length_cons,List.length_nil];omega)) (by rw[aV];exact g _)) ?_;simp -implicitDefEqProofs (disch:=omega) only[go_sem,d1,ay,ak]
   (repeat(with_reducible refine And.intro ?_ ?_;focus first|omega|rfl|assumption|exact⟨_,rfl,rfl⟩|(simp;omega)|(simp;done)))
   refine aT rfl (vY 9 [] [(gB n vars c1).1,(gB n vars (gB n vars c1).2).1,(gB n vars (gB n vars (gB n vars c1).2).2).1] (by simp only[List.map_cons,List.map_nil,aC.aB,au.aB,List.cons_append,List.nil_append]) (by simp) (.inr rfl)) ?_;simp -implicitDefEqProofs (disch:=omega) only[go_sem,d1,ay,ak];rw[hq];refine⟨rfl,[_,_,_,_,_,_,_],_,_,rfl,rfl,.inl ⟨1,?_,?_⟩,.inl ⟨2,?_,?_⟩⟩<;>simp only[pY,qJ,qK,List.map_cons,List.map_nil,aC.aB,sZ,au.aB,encS,List.cons_append,List.nil_append]<;>rfl
  have e9:=h
  with_reducible refine aD (fun hb=> ?_) (fun hb=> ?_)<;>have h:=hb<;>(try simp only[wf_preprocess] at h)<;>simp -implicitDefEqProofs (disch:=omega) only[go_sem,hb,d1,ay,ak]<;>(repeat(with_reducible refine And.intro ?_ ?_;focus first|omega|rfl|assumption|exact⟨_,rfl,rfl⟩|(simp;omega)|(simp;done)))
  ·subst h;simp only[j5,reduceIte,Int.reduceEq,false_or,or_false,or_self,false_and] at hq;refine cZ [true] rfl (fU hB c1 (1+l) j _ sW (by rw[aV];exact g _) (by decide) (by decide)) ?_;simp -implicitDefEqProofs (disch:=omega) only[go_sem,d1,ay,ak];refine cZ [true] rfl (ih1 vars (cO sW c1).2 (1+l) j _ (by first|omega|(simp only[List.length_append,List.length_cons,List.length_nil];omega)) (by rw[aV];exact g _)) ?_;simp -implicitDefEqProofs (disch:=omega) only[go_sem,d1,ay,ak];refine cZ [true] rfl (ih1 vars (gB n vars (cO sW c1).2).2 (1+l) j _ (by first|omega|(simp only[List.length_append,List.length_cons,List.length_nil];omega)) (by rw[aV];exact g _)) ?_;simp -implicitDefEqProofs (disch:=omega) only[go_sem,d1,ay,ak]
   (repeat(with_reducible refine And.intro ?_ ?_;focus first|omega|rfl|assumption|exact⟨_,rfl,rfl⟩|(simp;omega)|(simp;done)))
   refine aT rfl (vY 10 (cO sW c1).1 [(gB n vars (cO sW c1).2).1,(gB n vars (gB n vars (cO sW c1).2).2).1] (by simp only[List.map_cons,List.map_nil,aC.aB,au.aB,List.cons_append,List.nil_append]) (by simp) (.inr rfl)) ?_;simp -implicitDefEqProofs (disch:=omega) only[go_sem,d1,ay,ak];rw[hq];refine⟨rfl,[_,_,_,_,_,_,_],_,_,rfl,rfl,.inl ⟨1,?_,?_⟩,.inl ⟨2,?_,?_⟩⟩<;>simp only[pY,qJ,qK,List.map_cons,List.map_nil,aC.aB,sZ,au.aB,encS,List.cons_append,List.nil_append]<;>rfl
  have e10:=h
  with_reducible refine aD (fun hb=> ?_) (fun hb=> ?_)<;>have h:=hb<;>(try simp only[wf_preprocess] at h)<;>simp -implicitDefEqProofs (disch:=omega) only[go_sem,hb,d1,ay,ak]<;>(repeat(with_reducible refine And.intro ?_ ?_;focus first|omega|rfl|assumption|exact⟨_,rfl,rfl⟩|(simp;omega)|(simp;done)))
  ·subst h;simp only[j5,reduceIte,Int.reduceEq,false_or,or_false,or_self,false_and] at hq;refine cZ [true] rfl (ih1 vars c1 (1+l) j _ (by first|omega|(simp only[List.length_append,List.length_cons,List.length_nil];omega)) (by rw[aV];exact g _)) ?_;simp -implicitDefEqProofs (disch:=omega) only[go_sem,d1,ay,ak]
   (repeat(with_reducible refine And.intro ?_ ?_;focus first|omega|rfl|assumption|exact⟨_,rfl,rfl⟩|(simp;omega)|(simp;done)))
   rw[hq];refine⟨rfl,[_,_,_,_,_,_,_],_,_,rfl,rfl,.inr ⟨?_,Ag _⟩,.inr ⟨rfl,fun e he=>by cases he⟩⟩<;>simp only[pY,qJ,qK,List.map_cons,List.map_nil,aC.aB,sZ,au.aB,encS,List.cons_append,List.nil_append]<;>rfl
  have e11:=h
  with_reducible refine aD (fun hb=> ?_) (fun hb=> ?_)<;>have h:=hb<;>(try simp only[wf_preprocess] at h)<;>simp -implicitDefEqProofs (disch:=omega) only[go_sem,hb,d1,ay,ak]<;>(repeat(with_reducible refine And.intro ?_ ?_;focus first|omega|rfl|assumption|exact⟨_,rfl,rfl⟩|(simp;omega)|(simp;done)))
  ·subst h;simp only[j5,reduceIte,Int.reduceEq,false_or,or_false,or_self,false_and] at hq;refine cZ [true] rfl (rC (Dr hB (vars:=aL) (by decide) 1 c1 (1+l) j _ (by rw[aV];exact g _) (by omega))) ?_;simp -implicitDefEqProofs (disch:=omega) only[go_sem,d1,ay,ak];refine cZ [true] rfl (ih1 vars (kr aL 1 c1).2 (1+l) j _ (by first|omega|(simp only[List.length_append,List.length_cons,List.length_nil];omega)) (by rw[aV];exact g _)) ?_;simp -implicitDefEqProofs (disch:=omega) only[go_sem,d1,ay,ak]
   (repeat(with_reducible refine And.intro ?_ ?_;focus first|omega|rfl|assumption|exact⟨_,rfl,rfl⟩|(simp;omega)|(simp;done)))
   rw[hq];refine⟨rfl,[_,_,_,_,_,_,_],_,_,rfl,rfl,.inr ⟨?_,Ag _⟩,.inr ⟨rfl,fun e he=>by cases he⟩⟩<;>simp only[pY,qJ,qK,List.map_cons,List.map_nil,aC.aB,sZ,au.aB,encS,List.cons_append,List.nil_append]<;>rfl
  have e12:=h;simp only[j5,if_neg e1,e2,e3,false_or,or_self,false_and,reduceIte,if_neg e4,if_neg e5,if_neg e6,if_neg e7,if_neg e8,if_neg e9,if_neg e10,if_neg e11,if_neg e12] at hq;have hx2:=iA (n:=20) c1 (by omega);refine aT rfl (dZ hB c1 (1+l) j _ 20 (by rw[aV];exact g _) (by omega) (by omega)) ?_;simp -implicitDefEqProofs (disch:=omega) only[go_sem,d1,ay,ak]
  (repeat(with_reducible refine And.intro ?_ ?_;focus first|omega|rfl|assumption|exact⟨_,rfl,rfl⟩|(simp;omega)|(simp;done)))
  refine aA (sD ((bn 20 c1).1-5)) ?_;simp -implicitDefEqProofs (disch:=omega) only[go_sem,d1,ay,ak];rw[hq];refine⟨rfl,[_,_,_,_,_,_,_],_,_,rfl,rfl,.inr ⟨rfl,fun e he=>by cases he⟩,.inr ⟨rfl,fun e he=>by cases he⟩⟩
end Go.Ab